/- A part of what the claim of 'FnExactTxtOk' leans on. -/
import Derived.Test.YtcjpojppbmlfaaaDoorFnExactTxtOkPr0
import Derived.Test.YtcjpojppbmlfaaaDoorFnExactTxtOkPr61
import Derived.Laws.CopyOwn
namespace Go.Proofs.YtcjpojppbmlfaaaDoor.Pr
open Go.RowKit Go.Proofs.YtcjpojppbmlfaaaDoorW.PrintWords Go.Proofs.YtcjpojppbmlfaaaDoorW.PrintLast Go.Proofs.YtcjpojppbmlfaaaDoorW.PrintMore
attribute [local go_sem] max2_int min2_int max_two min_two max_three min_three max_four min_four
set_option linter.unusedVariables false
set_option linter.unusedSimpArgs false
theorem mul_small : ∀ m : Fin 101, bits_Mul.f 1 (m.val : Int) = some (0, (m.val : Int)) := by decide +kernel
def Ones (w : World) (g cap k : Nat) (cur : List Value) : Prop := w.heap[g]? = some (.cells cur.toArray 3 (0, 0)) ∧ cur.length = cap ∧ ∀ j, j < k → cur[j]? = some (.int .i64 1)
theorem one_size : (Tryd.prog.info? 3).map (·.size) = some 1 := by
  have h := info3
  cases e : Tryd.prog.info? 3 with
  | none => rw [e] at h; cases h
  | some i => rw [e] at h; simp at h; simp [h.2.1]
theorem ones_form {w : World} {m base : Nat} {ok : Nat → Prop} {v : Value} (h : Kd.R (Kd.int .i64) 3 w base ok v (List.replicate m 0)) (hm : 0 < m) : ∃ g cap L, v = .slice (some ⟨g, 0, none⟩) m cap ∧ base ≤ g ∧ m ≤ cap ∧ cap ≤ maxLen ∧ Ones w g cap 0 L := by
  obtain ⟨inner, ho⟩ := Kd.R_own h
  obtain ⟨_, hx | ⟨g, cap, cells, he, hb, hg, hle, hmx, hsz, hc⟩⟩ := ho
  · simp at hx; omega
  · refine ⟨g, cap, cells.toList, by simpa using he, hb, by simpa using hle, hmx, ?_, by simpa [show (Kd.int IntKind.i64).sz = 1 from rfl] using hsz, fun j hj => by omega⟩
    simpa using hg
theorem ones_splice {cur : List Value} {k m : Nat} (hk : ∀ j, j < k → cur[j]? = some (.int .i64 1)) (hm : k + m ≤ cur.length) : ∀ j, j < k + m → (splice cur k (List.replicate m (.int .i64 1)))[j]? = some (Value.int .i64 1) := by
  intro j hj
  unfold splice
  by_cases h1 : j < k
  · rw [List.getElem?_append_left (by simp; omega), List.getElem?_take_of_lt h1]; exact hk j h1
  · rw [List.getElem?_append_right (by simp; omega), List.getElem?_append_left (by simp; omega), List.length_take, Nat.min_eq_left (by omega), List.getElem?_replicate, if_pos (by omega)]
theorem ones_row {w : World} {g cap n base : Nat} {cur : List Value} (h : Ones w g cap n cur) (hb : base ≤ g) (hn : n ≤ cap) (hc : cap ≤ maxLen) : Kd.R (Kd.int .i64) 3 w base (fun _ => True) (.slice (some ⟨g, 0, none⟩) n cap) (List.replicate n 1) := by
  refine Kd.R_of_own ⟨?_, .inr ⟨g, cap, cur.toArray, by simp, hb, h.1, by simpa using hn, hc, by simp [h.2.1], ?_⟩⟩ (fun _ _ => trivial)
  · simp [encs]
  · apply List.ext_getElem?
    intro j
    by_cases hj : j < n
    · simp only [List.length_replicate, Nat.mul_one]
      rw [List.getElem?_take_of_lt hj]
      rw [h.2.2 j hj]
      simp [encs, List.getElem?_replicate, hj]
    · rw [List.getElem?_eq_none (by simp; omega), List.getElem?_eq_none (by simp [encs]; omega)]
set_option maxHeartbeats 8000000 in
theorem repeat_calls (A0 : Option Addr) (c0 : Nat) (m : Nat) (w : World) (hr0 : Kd.C (Kd.int .i64) w A0 1 [1]) (hm : 1 ≤ m ∧ m ≤ 100) :
    Calls Tryd.prog 45 #[.slice A0 1 c0, .int .i64 m] w fun e w' => ∃ v0_ : Value, e = .returned (v0_) ∧ Kd.R (Kd.int .i64) 3 w' w.heap.size (fun _ => True) v0_ (List.replicate m 1) ∧ Below w.heap.size w w' := by
  have hmul : bits_Mul.f 1 (m : Int) = some (0, (m : Int)) := mul_small ⟨m, by omega⟩
  obtain ⟨ad, eA, _⟩ := Kd.at_int hr0 0 (by omega) (by omega)
  cases eA
  obtain ⟨hm1, hm2⟩ := hm
  have HR := Aside0.mk hr0
  have HM := Aside0.mk hmul
  have HB := Aside0.mk (Below.refl w.heap.size w)
  clear hr0 hmul
  go_enter Tryd.func45, Tryd.ntmps45
  have hmi : ((m : Int)).toNat = m := Int.toNat_natCast m
  go_wp2_with (first | (go_at_call 61; (with_reducible refine (bits_Mul.calls 1 (m : Int) 0 (m : Int) _ HM.out).mono ?_); rintro e w' ⟨rfl, ⟨nd, rfl⟩⟩) | ((with_reducible refine gate_dst (N := 30) rfl ?_); refine Kd.R_make (Kd.int .i64) _ 3 rfl (N := 30) rfl 23 _ _ rfl (m : Int) rfl rfl Tryd.underlying23 (.int .i64 0) 8 info3 rfl (by decide) (by omega) 0 (ok := fun _ => True) (okp := fun _ => True) rfl (fun _ hk => hk) trivial (by omega) (by rw [hmi]; omega) (Below.refl _ _) (Nat.le_refl _) ?_; intro v189 w4 ho5 hb hg_ hnew_; clear hg_ hnew_; have n0_ := Aside0.mk (Kd.R_lower ho5 (below_size (by repeat (first | (with_reducible first | exact HB.out | apply below_alloc | apply pw_below_drewN | apply below_drew1) | exact HB.out)))); have n1_ := Aside0.mk (below_step (by repeat (first | (with_reducible first | exact HB.out | apply below_alloc | apply pw_below_drewN | apply below_drew1) | exact HB.out)) hb); clear HB; have HO190 := n0_; have HB := n1_; clear n0_ n1_; clear hb ho5; obtain ⟨go, co, L, eo, gb, hco, hcm, HG⟩ := ones_form HO190.out (by omega); cases eo; have HS := Aside0.mk (Kd.C_below HR.out HB.out); obtain ⟨ad', eA, hx⟩ := Kd.at_int HS.out 0 (by omega) (by omega); cases eA; have HX := Aside0.mk hx; have GG := Aside0.mk HG; have GB := Aside0.mk gb; clear hx HG gb) | ((with_reducible refine gate_builtin (b := .copy) (xs := #[.tmp 31, .tmp 32]) rfl ?_); refine wpList_copy_splice rfl (.tmp 31) (.tmp 32) 23 23 rfl 3 Tryd.underlying23 one_size _ _ _ _ _ _ rfl rfl go 0 L _ GG.out.1 (List.replicate 1 (.int .i64 1)) (by simp [Nat.min_def]; omega) (fun _ => ⟨rfl, _, rfl, by intro j v hj; cases j with | zero => simp at hj; subst hj; exact HX.out | succ j => simp at hj⟩) (by have := GG.out.2.1; simp; omega) (by intro v hv; rw [List.eq_of_mem_replicate hv]; rfl) w.heap.size w HB.out GB.out ?_; intro w5 HG5 HB5))
  have HO5 : Aside0 (Ones w5 go co 1 (splice L 0 (List.replicate 1 (.int .i64 1)))) := ⟨⟨HG5.out, by have := GG.out.2.1; rw [length_splice _ _ _ (by simp; omega)]; exact this, by simpa using ones_splice (k := 0) (m := 1) (fun j hj => absurd hj (Nat.not_lt_zero _)) (by have := GG.out.2.1; omega)⟩⟩
  have HB' := Aside0.mk HB5
  clear HG5 HB5 HB HO190 GG HX HS HR HM
  obtain ⟨L5, eL5⟩ : ∃ x, x = splice L 0 (List.replicate 1 (Value.int .i64 1)) := ⟨_, rfl⟩
  rw [← eL5] at HO5
  clear eL5
  go_loopg [8] m (fun gk v8 wr => ∃ (k : Nat) (cur : List Value), 1 ≤ k ∧ k ≤ m ∧ m - k ≤ gk ∧ v8 = .int .i64 k ∧ Aside0 (Below w.heap.size w wr) ∧ Aside0 (Ones wr go co k cur))
  case atStart => exact ⟨1, L5, by omega, by omega, by omega, rfl, HB', HO5⟩
  case round =>
    obtain ⟨k, cur, hk1, hk, hg, rfl, BW, HN⟩ := hrel
    by_cases hlt : k < m
    · have hltz : (k : Int) < (m : Int) := by omega
      obtain ⟨q, hq, hq1, hqk, hqm⟩ : ∃ q, q = Nat.min k (m - k) ∧ 1 ≤ q ∧ q ≤ k ∧ k + q ≤ m := ⟨_, rfl, by simp [Nat.min_def]; split <;> omega, by simp [Nat.min_def]; split <;> omega, by simp [Nat.min_def]; split <;> omega⟩
      obtain ⟨ti, hi, hz⟩ : ∃ ti, Tryd.prog.info? 3 = some ti ∧ ti.size = 1 := by
        have h := one_size
        cases e : Tryd.prog.info? 3 with
        | none => rw [e] at h; cases h
        | some i => rw [e] at h; exact ⟨i, rfl, by simpa using h⟩
      have f1 : ∀ W : World, (Instr.slice 23 (.slice (some ⟨go, 0, none⟩) m co) (some (.int .i64 k)) none none).run Tryd.prog W = .ok (.slice (some ⟨go, k, none⟩) (m - k) (co - k)) W := fun W => by
        rw [cut_from 23 3 .i64 Tryd.underlying23 hi 1 hz (some ⟨go, 0, none⟩) m co k (by omega) (by omega) W, if_neg (by simp; omega)]
        simp [Addr.add]; omega
      have f2 : ∀ W : World, (Instr.slice 23 (.slice (some ⟨go, 0, none⟩) m co) none (some (.int .i64 k)) none).run Tryd.prog W = .ok (.slice (some ⟨go, 0, none⟩) k co) W := fun W => by
        rw [cut_to 23 3 .i64 Tryd.underlying23 hi (some ⟨go, 0, none⟩) m co k (by omega) (by omega) (by omega) W]
        simp
      have hwr : IntKind.i64.wrap ((k : Int) + (q : Int)) = ((k + q : Nat) : Int) := by rw [IntKind.wrap_i64]; omega
      have hcs : ∀ (u : World), Aside0 (Ones u go co k cur) → ∀ j v, (List.replicate q (Value.int .i64 1))[j]? = some v → u.cell? (Addr.add ⟨go, 0, none⟩ j) = some v := by
        intro u hu j v hj
        have hjq : j < q := by
          by_cases h : j < q
          · exact h
          · rw [List.getElem?_eq_none (by simp; omega)] at hj; cases hj
        rw [List.getElem?_replicate, if_pos hjq] at hj
        cases hj
        have h1 := hu.out.1
        have h2 := hu.out.2.2 j (by omega)
        by_cases h0 : j = 0
        · subst h0; simp [World.cell?, Addr.add, h1, h2]
        · simp [World.cell?, Addr.add, h1, h2, h0]
      have HCS := Aside0.mk hcs
      have HQL : Aside0 ((List.replicate q (Value.int .i64 1)).length = Nat.min k (m - k)) := ⟨by rw [List.length_replicate]; exact hq⟩
      have HQF : Aside0 (k + (List.replicate q (Value.int .i64 1)).length ≤ cur.length) := ⟨by have := HN.out.2.1; rw [List.length_replicate]; omega⟩
      clear hcs hq
      go_wp2_with fail
      go_region_law (refine step_copy_splice rfl (.tmp 41) (.tmp 44) 23 23 rfl 3 Tryd.underlying23 one_size (some ⟨go, k, none⟩) (some ⟨go, 0, none⟩) (m - k) (co - k) k co (by simp [Act.eval, Act.put]) (by simp [Act.eval, Act.put]) go k cur 3 HN.out.1 (List.replicate q (.int .i64 1)) HQL.out (fun _ => ⟨rfl, _, rfl, HCS.out _ HN⟩) HQF.out (by intro v hv; rw [List.eq_of_mem_replicate hv]; rfl) w.heap.size w (by (apply below_drew1); exact BW.out) GB.out ?_; intro w6 HG6 HB6)
      have HO6 : Aside0 (Ones w6 go co (k + q) (splice cur k (List.replicate q (.int .i64 1)))) := ⟨⟨HG6.out, by rw [length_splice _ _ _ HQF.out]; exact HN.out.2.1, ones_splice HN.out.2.2 (by have := HQF.out; rwa [List.length_replicate] at this)⟩⟩
      have HB7 := Aside0.mk HB6
      clear HG6 HB6
      go_wp2
      go_roundg (m - (k + q))
      case measure => omega
      case rel => exact ⟨k + q, _, by omega, by omega, by omega, by go_num, HB7, HO6⟩
    · have : k = m := by omega
      subst this
      have hltz : ¬ (k : Int) < (k : Int) := by omega
      go_wp2
      go_ret
      exact ⟨_, rfl, ones_row HN.out GB.out hco hcm, BW.out⟩
end Go.Proofs.YtcjpojppbmlfaaaDoor.Pr
