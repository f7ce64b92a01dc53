/- The plain laws that the claim of 'FnBrdText' leans on. -/
import Derived.Test.YtfofmdillhamkaaDoorFnBrdTextPr0
import Derived.ProofKit
import Derived.OpenShut
import Derived.ShutString
import Derived.ChangeOld
import Derived.Below
import Derived.SizedLaws
import Derived.DataElems
import Derived.Test.YtfofmdillhamkaaDoorFnBrdTextPr21
import Derived.Test.YtfofmdillhamkaaDoorFnBrdTextPr22
import Derived.Test.YtfofmdillhamkaaDoorFnBrdTextPr12
import Derived.Test.YtfofmdillhamkaaDoorFnBrdTextPr13
import Derived.Test.YtfofmdillhamkaaDoorFnBrdTextPr20
import Derived.Test.YtfofmdillhamkaaDoorFnBrdTextPr14
import Derived.Test.YtfofmdillhamkaaDoorFnBrdTextPr15
import Derived.Test.YtfofmdillhamkaaDoorFnBrdTextPr5
import Derived.Test.YtfofmdillhamkaaDoorFnBrdTextPr7
import Derived.Test.YtfofmdillhamkaaDoorFnBrdTextPr10
import Derived.Test.YtfofmdillhamkaaDoorFnBrdTextPr11
import Derived.Test.YtfofmdillhamkaaDoorFnBrdTextPr19
import Derived.Test.YtfofmdillhamkaaDoorFnBrdTextPr17
import Derived.Test.YtfofmdillhamkaaDoorFnBrdTextPr18
import Derived.Test.YtfofmdillhamkaaDoorFnBrdTextPr16
import Derived.Test.YtfofmdillhamkaaDoorFnBrdTextPr4
import Derived.Test.YtfofmdillhamkaaDoorFnBrdTextPr8
import Derived.Test.YtfofmdillhamkaaDoorFnBrdTextPr9
set_option linter.unusedVariables false
set_option linter.unusedSimpArgs false
namespace Go.Proofs.YtfofmdillhamkaaDoor.Pure
open Go.RowKit Go.Proofs.YtfofmdillhamkaaDoor.Pr Go.Proofs.YtfofmdillhamkaaDoorW.PrintWords Go.Proofs.YtfofmdillhamkaaDoorW.PrintLast Go.Proofs.YtfofmdillhamkaaDoorW.PrintMore
section
variable {H : Type} {enc : TypeId × Value → H} {P : Program} {W : World} {α β γ : Type}
structure Opens (enc : TypeId × Value → H) (P : Program) (W : World) (t : TypeId) (d : Kd α) (I : α → Prop) : Prop where
  out : ∀ (fuel : Nat) (cs : List Value) (x : DataW H × List MemPlace), DataW.trod enc P W 0 (fun _ => true) true fuel t cs = some x → ∃ y, d.K W y cs ∧ I y
theorem opens_int {t : TypeId} {k : IntKind} (hu : P.underlying t = some (.int k)) : Opens enc P W t (Kd.int k) (fun n => (Lit.int k n).wf = true) := ⟨by
  intro fuel cs x h
  cases fuel with
  | zero => simp [DataW.trod] at h
  | succ fuel =>
    simp only [DataW.trod, hu] at h
    split at h <;> simp_all
    exact ⟨_, rfl, h.1.2⟩⟩
theorem mapM_get {δ ε : Type} {f : δ → Option ε} : ∀ {xs : List δ} {ys : List ε}, xs.mapM f = some ys → ys.length = xs.length ∧ ∀ (j : Nat) x, xs[j]? = some x → ∃ y, ys[j]? = some y ∧ f x = some y
  | [], ys, h => by simp at h; subst h; simp
  | a :: xs, ys, h => by
    rw [List.mapM_cons] at h
    simp only [Option.bind_eq_bind, Option.bind_eq_some_iff, Option.pure_def, Option.some.injEq] at h
    obtain ⟨b, hb, zs, hz, rfl⟩ := h
    obtain ⟨h1, h2⟩ := mapM_get hz
    refine ⟨by simp [h1], ?_⟩
    intro j x hx
    cases j with
    | zero => simp at hx; subst hx; exact ⟨b, by simp, hb⟩
    | succ j => simpa using h2 j x (by simpa using hx)
theorem list_of {len : Nat} {Q : Nat → α → Prop} (h : ∀ j, j < len → ∃ y, Q j y) : ∃ ys : List α, ys.length = len ∧ ∀ (j : Nat) y, ys[j]? = some y → Q j y := by
  induction len with
  | zero => exact ⟨[], rfl, by simp⟩
  | succ n ih =>
    obtain ⟨ys, hl, hq⟩ := ih (fun j hj => h j (by omega))
    obtain ⟨y, hy⟩ := h n (by omega)
    refine ⟨ys ++ [y], by simp [hl], ?_⟩
    intro j z hz
    by_cases hj : j < ys.length
    · rw [List.getElem?_append_left hj] at hz; exact hq j z hz
    · rw [List.getElem?_append_right (by omega)] at hz
      have e : j - ys.length = 0 := by
        rcases Nat.eq_zero_or_pos (j - ys.length) with h0 | h0
        · exact h0
        · rw [List.getElem?_eq_none (by simp; omega)] at hz; cases hz
      rw [e] at hz
      simp at hz
      subst hz
      have : j = n := by omega
      subst this; exact hy
theorem cells_at {base : Nat} {a : Addr} {n : Nat} {c : List Value} (h : W.cells? base a n = some c) (i : Nat) (u : Value) (hu : c[i]? = some u) : W.cell? (a.add i) = some u := by
  unfold World.cells? at h
  split at h
  · obtain ⟨hl, hg⟩ := mapM_get h
    rw [List.length_range] at hl
    have hi : i < n := by rw [← hl]; exact (List.getElem?_eq_some_iff.1 hu).1
    obtain ⟨y, hy, hc⟩ := hg i i (by rw [List.getElem?_range hi])
    rw [hy] at hu
    cases hu
    exact hc
  · cases h
theorem opens_slice {t e : TypeId} {d : Kd α} {I : α → Prop} (hu : P.underlying t = some (.slice e)) (hc : P.cellsOf e = d.sz) (h : Opens enc P W e d I) : Opens enc P W t (Kd.slice e d) (fun xs => xs.length ≤ 9223372036854775807 ∧ ∀ x ∈ xs, I x) := ⟨by
  intro fuel cs x hx
  cases fuel with
  | zero => simp [DataW.trod] at hx
  | succ fuel =>
    unfold DataW.trod at hx
    rw [hu] at hx
    split at hx
    all_goals first | (rename_i heq; cases heq; done) | (rename_i heq _; cases heq; done) | (cases hx; done) | skip
    · exact ⟨[], ⟨none, 0, rfl, Nat.le_refl _, Kd.C_nil d W⟩, by simp, by simp⟩
    · rename_i e' a len cap heq
      injection heq with heq
      injection heq with heq
      subst heq
      dsimp only at hx
      split at hx
      · rename_i hlc
        obtain ⟨_, hle, hmax⟩ := hlc
        simp only [Option.bind_eq_some_iff, Option.map_eq_some_iff] at hx
        obtain ⟨elems, hel, _, _, _⟩ := hx
        obtain ⟨hlen, hget⟩ := mapM_get hel
        rw [List.length_range] at hlen
        obtain ⟨ys, hyl, hyq⟩ := list_of (len := len) (Q := fun j y => I y ∧ ∃ c, c.length = d.sz ∧ d.K W y c ∧ ∀ (i : Nat) u, c[i]? = some u → W.cell? (a.add (j * d.sz + i)) = some u) (by
          intro j hj
          obtain ⟨y, _, hy⟩ := hget j j (by rw [List.getElem?_range hj])
          rw [Option.bind_eq_some_iff] at hy
          obtain ⟨c, hcs, hy⟩ := hy
          obtain ⟨y', hK, hI⟩ := h.out fuel c _ hy
          refine ⟨y', hI, c, d.K_len hK, hK, ?_⟩
          intro i u hi
          rw [hc] at hcs
          have := cells_at hcs i u hi
          rw [Addr.add_add] at this
          exact this)
        refine ⟨ys, ⟨some a, cap, by rw [hyl], by omega, hyl ▸ rfl, by unfold maxLen at hmax; omega, fun _ => ⟨a, rfl, fun j p hj => (hyq j p hj).2⟩⟩, by unfold maxLen at hmax; omega, ?_⟩
        intro x hx
        obtain ⟨j, hj⟩ := List.getElem?_of_mem hx
        exact (hyq j x hj).1
      · cases hx⟩
theorem Opens.imp {t : TypeId} {d : Kd α} {I I' : α → Prop} (h : Opens enc P W t d I) (hi : ∀ x, I x → I' x) : Opens enc P W t d I' := ⟨fun fuel cs x hx => by
  obtain ⟨y, a, b⟩ := h.out fuel cs x hx
  exact ⟨y, a, hi y b⟩⟩
end
end Go.Proofs.YtfofmdillhamkaaDoor.Pure
set_option linter.unusedVariables false
set_option linter.unusedSimpArgs false
namespace Go.Proofs.YtfofmdillhamkaaDoor.Pure
open Go.RowKit Go.Proofs.YtfofmdillhamkaaDoor.Pr Go.Proofs.YtfofmdillhamkaaDoorW.PrintWords Go.Proofs.YtfofmdillhamkaaDoorW.PrintLast Go.Proofs.YtfofmdillhamkaaDoorW.PrintMore
theorem evIf {α : Type} {c : Prop} [Decidable c] {g f : Nat → Option α} {r : α} (hc : c) (h : Ev g r) : Ev (fun k => if c then g k else f k) r :=
  Ev.congr (fun _ => if_pos hc) h
theorem evElse {α : Type} {c : Prop} [Decidable c] {g f : Nat → Option α} {r : α} (hc : ¬ c) (h : Ev f r) : Ev (fun k => if c then g k else f k) r :=
  Ev.congr (fun _ => if_neg hc) h
theorem evSome {α β : Type} {a : α} {f : Nat → α → Option β} {r : β} (h : Ev (fun k => f k a) r) : Ev (fun k => (some a).bind (f k)) r := h
theorem evNow {α : Type} {g : Option α} {r : α} (h : g = some r) : Ev (fun _ => g) r := ⟨0, fun _ _ => h⟩
theorem evBindC {α β : Type} {g : Option α} {f : Nat → α → Option β} {a : α} {r : β} (h : g = some a) (k : Ev (fun n => f n a) r) : Ev (fun n => g.bind (f n)) r := by
  subst h; exact k
theorem in_eq (a b c : Int) : impl_in.f a b c = some (decide (b ≤ a) && decide (a ≤ c)) := by
  unfold impl_in.f; by_cases h : a ≥ b <;> simp [h] <;> omega
theorem l1In_eq (a b c : Int) : spec_l1In.f a b c = some (decide (b ≤ a) && decide (a ≤ c)) := by
  unfold spec_l1In.f; by_cases h : a ≥ b <;> simp [h] <;> omega
theorem w64 {x : Int} (h : -9223372036854775808 ≤ x) (h2 : x ≤ 9223372036854775807) : wrap64 x = x := by unfold wrap64; omega
def Run {α : Type} (g : Nat → Option α) (Q : α → Prop) : Prop := ∃ r, Ev g r ∧ Q r
theorem Run.ret {α : Type} {r : α} {Q : α → Prop} (h : Q r) : Run (fun _ => some r) Q := ⟨r, Ev.now r, h⟩
theorem Run.bind {α β : Type} {g : Nat → Option α} {f : Nat → α → Option β} {Q : α → Prop} {R : β → Prop} (h : Run g Q) (k : ∀ a, Q a → Run (fun n => f n a) R) : Run (fun n => (g n).bind (f n)) R := by
  obtain ⟨a, ha, qa⟩ := h
  obtain ⟨b, hb, rb⟩ := k a qa
  exact ⟨b, ha.bind hb, rb⟩
theorem Run.evBind {α β : Type} {g : Nat → Option α} {f : Nat → α → Option β} {a : α} {R : β → Prop} (h : Ev g a) (k : Run (fun n => f n a) R) : Run (fun n => (g n).bind (f n)) R := by
  obtain ⟨b, hb, rb⟩ := k
  exact ⟨b, h.bind hb, rb⟩
theorem Run.some {α β : Type} {a : α} {f : Nat → α → Option β} {R : β → Prop} (k : Run (fun n => f n a) R) : Run (fun n => (Option.some a).bind (f n)) R := k
theorem Run.constBind {α β : Type} {g : Option α} {f : Nat → α → Option β} {a : α} {R : β → Prop} (h : g = Option.some a) (k : Run (fun n => f n a) R) : Run (fun n => g.bind (f n)) R := by subst h; exact k
theorem Run.ite {α : Type} {c : Prop} [Decidable c] {g f : Nat → Option α} {Q : α → Prop} (h : c → Run g Q) (k : ¬ c → Run f Q) : Run (fun n => if c then g n else f n) Q := by
  by_cases hc : c
  · obtain ⟨r, e, q⟩ := h hc; exact ⟨r, evIf hc e, q⟩
  · obtain ⟨r, e, q⟩ := k hc; exact ⟨r, evElse hc e, q⟩
theorem Run.pos {α : Type} {c : Prop} [Decidable c] {g f : Nat → Option α} {Q : α → Prop} (hc : c) (h : Run g Q) : Run (fun n => if c then g n else f n) Q := Run.ite (fun _ => h) (fun k => absurd hc k)
theorem Run.neg {α : Type} {c : Prop} [Decidable c] {g f : Nat → Option α} {Q : α → Prop} (hc : ¬ c) (h : Run f Q) : Run (fun n => if c then g n else f n) Q := Run.ite (fun k => absurd k hc) (fun _ => h)
theorem Run.step {α : Type} {g f : Nat → Option α} {Q : α → Prop} (h : ∀ k, g (k + 1) = f k) (k : Run f Q) : Run g Q := by
  obtain ⟨r, e, q⟩ := k; exact ⟨r, Ev.step h e, q⟩
theorem Run.imp {α : Type} {g : Nat → Option α} {Q R : α → Prop} (h : Run g Q) (k : ∀ r, Q r → R r) : Run g R := by
  obtain ⟨r, e, q⟩ := h; exact ⟨r, e, k r q⟩
theorem Run.get {α : Type} {g : Nat → Option α} {r : α} (h : Run g (· = r)) : ∃ k, g k = Option.some r := by
  obtain ⟨r', e, rfl⟩ := h; exact e.rounds
theorem Ev.run {α : Type} {g : Nat → Option α} {r : α} (h : Ev g r) : Run g (· = r) := ⟨r, h, rfl⟩
theorem wfb {n : Int} (h : (Lit.int .u8 n).wf = true) : 0 ≤ n ∧ n ≤ 255 := by
  simp [Lit.wf, IntKind.min, IntKind.max, IntKind.bits, IntKind.signed] at h; omega
end Go.Proofs.YtfofmdillhamkaaDoor.Pure
set_option linter.unusedVariables false
set_option linter.unusedSimpArgs false
namespace Go.Proofs.YtfofmdillhamkaaDoor.Pure
open Go.RowKit Go.Proofs.YtfofmdillhamkaaDoor.Pr Go.Proofs.YtfofmdillhamkaaDoorW.PrintWords Go.Proofs.YtfofmdillhamkaaDoorW.PrintLast Go.Proofs.YtfofmdillhamkaaDoorW.PrintMore
def brdOk (s n : Int) : Bool := decide ((s = 0 ∨ s = 4) ∧ n = 0 ∨ (1 ≤ s ∧ s ≤ 3 ∧ 1 ≤ n ∧ n ≤ 3))
theorem bool_ext {a b : Bool} (h : a = true ↔ b = true) : a = b := by cases a <;> cases b <;> simp_all
theorem spec_brdOk (s n : Int) : Ev (fun k => spec_BrdOk.f k s n) (brdOk s n) := by
  unfold spec_BrdOk.f brdOk
  by_cases h : s = 0
  · refine evIf h (Ev.step (fun k => by rw [spec_BrdOk.j0]) (evNow ?_)); simp [h]
    apply bool_ext; simp
  · refine evElse h (Ev.step (fun k => by rw [spec_BrdOk.j0]) (evNow ?_))
    by_cases h4 : s = 4
    · simp [h4]; apply bool_ext; simp
    · simp only [l1In_eq, Option.bind_some]
      by_cases h1 : 1 ≤ s <;> by_cases h2 : s ≤ 3 <;> simp [h, h4, h1, h2]
theorem impl_brdOk (s n : Int) : impl_BrdOk.f s n = some (brdOk s n) := by
  unfold impl_BrdOk.f impl_BrdLine_drawn.f brdOk
  simp only [in_eq, Option.bind_some]
  by_cases h0 : s = 0
  · subst h0; simp; apply bool_ext; simp
  · by_cases h4 : s = 4
    · subst h4; simp; apply bool_ext; simp
    · by_cases h1 : 1 ≤ s <;> by_cases h2 : s ≤ 3 <;> simp [h0, h4, h1, h2]
theorem brdOk_iff (s n : Int) : brdOk s n = true ↔ ((s = 0 ∨ s = 4) ∧ n = 0 ∨ (1 ≤ s ∧ s ≤ 3 ∧ 1 ≤ n ∧ n ≤ 3)) := by unfold brdOk; simp
end Go.Proofs.YtfofmdillhamkaaDoor.Pure
set_option linter.unusedVariables false
set_option linter.unusedSimpArgs false
namespace Go.Proofs.YtfofmdillhamkaaDoor.Pure
open Go.RowKit Go.Proofs.YtfofmdillhamkaaDoor.Pr Go.Proofs.YtfofmdillhamkaaDoorW.PrintWords Go.Proofs.YtfofmdillhamkaaDoorW.PrintLast Go.Proofs.YtfofmdillhamkaaDoorW.PrintMore
theorem decS_small (n : Int) (h0 : 0 ≤ n) (h1 : n ≤ 9) : decS n = strOfNums [48 + n] ∧ (decS n).size = 1 := by
  have : n = 0 ∨ n = 1 ∨ n = 2 ∨ n = 3 ∨ n = 4 ∨ n = 5 ∨ n = 6 ∨ n = 7 ∨ n = 8 ∨ n = 9 := by omega
  rcases this with rfl | rfl | rfl | rfl | rfl | rfl | rfl | rfl | rfl | rfl <;> exact ⟨by decide +kernel, by decide +kernel⟩
theorem digits (n : Int) (h0 : 0 ≤ n) (h1 : n ≤ 9) : Ev (fun k => spec_l1Digits.f k n) (decS n) := by
  unfold spec_l1Digits.f
  obtain ⟨e, _⟩ := decS_small n h0 h1
  by_cases h : n < 1
  · have : n = 0 := by omega
    subst this
    exact evIf h (evNow (by rw [e]; rfl))
  · refine evElse h ?_
    have e1 : wrap64 (Int.tdiv n 10) = 0 := by
      have : Int.tdiv n 10 = 0 := by rw [Int.tdiv_eq_ediv_of_nonneg h0]; omega
      rw [this]; exact w64 (by omega) (by omega)
    have e2 : wrap64 (48 + Int.tmod n 10) % 256 = 48 + n := by
      have : Int.tmod n 10 = n := by rw [Int.tmod_eq_emod_of_nonneg h0]; omega
      rw [this, w64 (by omega) (by omega)]; omega
    have s1 : ∀ x : Int, (strOfNums [x]).size = 1 := fun x => rfl
    refine Ev.step (fun k => by rw [spec_l1Digits.l0]) ?_
    refine evIf (by omega) ?_
    refine evSome ?_
    refine evIf (by rw [s1]; decide) ?_
    rw [e1, e2]
    refine Ev.step (fun k => by rw [spec_l1Digits.l0]) ?_
    refine evElse (by omega) (evNow ?_)
    rw [e]
    congr 1
def brdText (s n : Int) : ByteArray := if brdOk s n = true then decS s ++ decS n else ⟨#[]⟩
theorem brdOk_range {s n : Int} (h : brdOk s n = true) : 0 ≤ s ∧ s ≤ 4 ∧ 0 ≤ n ∧ n ≤ 3 := by
  rw [brdOk_iff] at h; omega
theorem implText (s n : Int) : impl_BrdText.f s n = some (brdText s n) := by
  unfold impl_BrdText.f brdText
  rw [impl_brdOk, Option.bind_some]
  by_cases h : brdOk s n = true
  · obtain ⟨a, b, c, d⟩ := brdOk_range h
    have e1 := (decS_small s a (by omega)).2
    have e2 := (decS_small n c (by omega)).2
    rw [if_pos h, if_pos h]
    unfold strconv_Itoa_15.f
    rw [if_pos ⟨by omega, by omega⟩, if_pos ⟨by omega, by omega⟩]
    simp only [Option.bind_some]
    rw [if_pos (by omega)]
  · rw [if_neg h, if_neg h]
theorem specText (s n : Int) : Ev (fun k => spec_BrdText.f k s n) (brdText s n) := by
  unfold spec_BrdText.f brdText
  refine (spec_brdOk s n).bind ?_
  by_cases h : brdOk s n = true
  · obtain ⟨a, b, c, d⟩ := brdOk_range h
    have e1 := (decS_small s a (by omega)).2
    have e2 := (decS_small n c (by omega)).2
    rw [if_pos h]
    refine evIf h ((digits s a (by omega)).bind ((digits n c (by omega)).bind ?_))
    exact evIf (by omega) (evNow rfl)
  · rw [if_neg h]
    exact evElse h (evNow rfl)
end Go.Proofs.YtfofmdillhamkaaDoor.Pure
set_option linter.unusedVariables false
set_option linter.unusedSimpArgs false
namespace Go.Proofs.YtfofmdillhamkaaDoor.Pure
open Go.RowKit Go.Proofs.YtfofmdillhamkaaDoor.Pr Go.Proofs.YtfofmdillhamkaaDoorW.PrintWords Go.Proofs.YtfofmdillhamkaaDoorW.PrintLast Go.Proofs.YtfofmdillhamkaaDoorW.PrintMore
theorem bt_extract0 (s : ByteArray) (h : s.size = 2) : bt (s.extract 0 1) 0 = bt s 0 := by
  unfold bt; simp; rw [dif_pos (by omega), dif_pos (by omega)]; simp [ByteArray.getElem_extract]
theorem bt_extract1 (s : ByteArray) (h : s.size = 2) : bt (s.extract 1 s.size) 0 = bt s 1 := by
  unfold bt; simp; rw [dif_pos (by omega), dif_pos (by omega)]; simp [ByteArray.getElem_extract]
def dig (c : Int) : Int := if 48 ≤ c ∧ c ≤ 57 then c - 48 else -1
theorem l1Number_one (s : ByteArray) (h : s.size = 1) : Ev (fun k => spec_l1Number.f k s) (dig (bt s 0)) := by
  unfold spec_l1Number.f dig
  have hs : ((s.size : Int)) = 1 := by omega
  have hb := bt_range s 0
  rw [hs]
  refine evBindC (l1In_eq _ _ _) ?_
  refine evIf (by simp) (evElse (by omega) (Ev.step (fun k => by rw [spec_l1Number.j0]) (evElse (by simp) ?_)))
  refine Ev.step (fun k => by rw [spec_l1Number.l0]) ?_
  rw [hs]
  refine evIf (by omega) (evIf (by omega) ?_)
  by_cases h1 : bt s 0 < 48
  · refine evIf h1 (evNow ?_); rw [if_neg (by omega)]
  · refine evElse h1 ?_
    by_cases h2 : bt s 0 > 57
    · refine evIf h2 (evNow ?_); rw [if_neg (by omega)]
    · refine evElse h2 (Ev.step (fun k => by rw [spec_l1Number.l0]) ?_)
      rw [hs, w64 (x := 0 + 1) (by omega) (by omega)]
      refine evElse (by omega) (evNow ?_)
      rw [if_pos (by omega), w64 (x := 0 * 10) (by omega) (by omega), w64 (by omega) (by omega)]
      congr 1; omega
def brdRead (s : ByteArray) : Int × Int × Bool := if s.size = 2 ∧ brdOk (bt s 0 - 48) (bt s 1 - 48) = true then (bt s 0 - 48, bt s 1 - 48, true) else (0, 0, false)
theorem impl_brdRead (s : ByteArray) : impl_BrdRead.f s = some (brdRead s) := by
  unfold impl_BrdRead.f brdRead
  by_cases h2 : s.size = 2
  · have r0 := bt_range s 0
    have r1 := bt_range s 1
    rw [if_pos (by omega), if_pos (by omega), if_pos (by omega), w64 (x := bt s 0) (by omega) (by omega), w64 (x := bt s 1) (by omega) (by omega), w64 (x := bt s 0 - 48) (by omega) (by omega), w64 (x := bt s 1 - 48) (by omega) (by omega)]
    simp only [impl_brdOk, Option.bind_some, h2, true_and]
    split <;> rfl
  · rw [if_neg (by omega), if_neg (by simp [h2])]
theorem spec_brdRead (s : ByteArray) : Ev (fun k => spec_BrdRead.f k s) (brdRead s) := by
  unfold spec_BrdRead.f brdRead
  by_cases h2 : s.size = 2
  · have r0 := bt_range s 0
    have r1 := bt_range s 1
    have n0 := l1Number_one (s.extract 0 1) (by simp; omega)
    have n1 := l1Number_one (s.extract 1 s.size) (by simp; omega)
    rw [bt_extract0 s h2] at n0
    rw [bt_extract1 s h2] at n1
    refine evIf (by omega) (evIf (by omega) (evIf (by omega) (n0.bind (n1.bind ((spec_brdOk _ _).bind ?_)))))
    by_cases hb : brdOk (bt s 0 - 48) (bt s 1 - 48) = true
    · have hb' := (brdOk_iff _ _).mp hb
      have e0 : dig (bt s 0) = bt s 0 - 48 := by unfold dig; rw [if_pos (by omega)]
      have e1 : dig (bt s 1) = bt s 1 - 48 := by unfold dig; rw [if_pos (by omega)]
      rw [if_pos (show s.size = 2 ∧ brdOk (bt s 0 - 48) (bt s 1 - 48) = true from ⟨h2, hb⟩), e0, e1]
      exact evIf hb (Ev.now _)
    · have hq : ¬ brdOk (dig (bt s 0)) (dig (bt s 1)) = true := by
        rw [brdOk_iff] at hb ⊢
        unfold dig
        by_cases h0 : 48 ≤ bt s 0 ∧ bt s 0 ≤ 57
        · rw [if_pos h0]
          by_cases h1 : 48 ≤ bt s 1 ∧ bt s 1 ≤ 57
          · rw [if_pos h1]; exact hb
          · rw [if_neg h1]; omega
        · rw [if_neg h0]; omega
      rw [if_neg (show ¬ (s.size = 2 ∧ brdOk (bt s 0 - 48) (bt s 1 - 48) = true) from fun h => hb h.2)]
      exact evElse hq (Ev.now _)
  · refine evElse (by omega) (evNow ?_); rw [if_neg (by simp [h2])]
end Go.Proofs.YtfofmdillhamkaaDoor.Pure
set_option linter.unusedVariables false
set_option linter.unusedSimpArgs false
namespace Go.Proofs.YtfofmdillhamkaaDoor.Pure
open Go.RowKit Go.Proofs.YtfofmdillhamkaaDoor.Pr Go.Proofs.YtfofmdillhamkaaDoorW.PrintWords Go.Proofs.YtfofmdillhamkaaDoorW.PrintLast Go.Proofs.YtfofmdillhamkaaDoorW.PrintMore
theorem ofInt_i64 (a : Nat) (ha : a < 18446744073709551616) : (BitVec.ofInt 64 (a : Int)).toNat = a := by
  rw [BitVec.ofInt_natCast, BitVec.toNat_ofNat]; exact Nat.mod_eq_of_lt (by omega)
theorem xor_i64 (a b : Int) (h1 : 0 ≤ a) (h2 : a < 4611686018427387904) (h3 : 0 ≤ b) (h4 : b < 4611686018427387904) : 0 ≤ Go.bits .xor .i64 a b := by
  obtain ⟨A, rfl⟩ := Int.eq_ofNat_of_zero_le h1
  obtain ⟨B, rfl⟩ := Int.eq_ofNat_of_zero_le h3
  have hx : A ^^^ B < 2 ^ 62 := Nat.xor_lt_two_pow (by omega) (by omega)
  have e : Go.bits .xor .i64 (A : Int) (B : Int) = IntKind.i64.wrap ((BitVec.ofInt 64 (A : Int) ^^^ BitVec.ofInt 64 (B : Int)).toNat : Int) := rfl
  rw [e, BitVec.toNat_xor, ofInt_i64 A (by omega), ofInt_i64 B (by omega), IntKind.wrap_i64]
  omega
theorem tmod_range (a n : Int) (h : 0 ≤ a) (hn : 1 ≤ n) : 0 ≤ Int.tmod a n ∧ Int.tmod a n < n := by
  rw [Int.tmod_eq_emod_of_nonneg h]; exact ⟨Int.emod_nonneg _ (by omega), Int.emod_lt_of_pos _ (by omega)⟩
def Bytes (b : List Int) : Prop := b.length ≤ 2000 ∧ ∀ x ∈ b, 0 ≤ x ∧ x ≤ 255
theorem Bytes.at_ {b : List Int} (h : Bytes b) (i : Int) : 0 ≤ rd b i ∧ rd b i ≤ 255 := by
  unfold rd
  rw [List.getD_eq_getElem?_getD]
  cases e : b[i.toNat]? with
  | none => simp
  | some x => simpa using h.2 x (List.mem_of_getElem? e)
def LIMP : Int := 1099511627776
theorem pick_run {b : List Int} (hb : Bytes b) {p n : Int} (hp : 0 ≤ p) (hp2 : p < LIMP) : Run (fun k => spec_l20Rd_pick.f k b p n) (fun r => 0 ≤ r.1 ∧ (1 ≤ n → r.1 < n) ∧ (n < 1 → r.1 = 0) ∧ r.2 = p + 1) := by
  unfold LIMP at hp2
  have hl := hb.1
  have w1 : wrap64 (p + 1) = p + 1 := w64 (by omega) (by omega)
  have w2 : wrap64 (p + 1 - 1) = p := by rw [w64 (by omega) (by omega)]; omega
  unfold spec_l20Rd_pick.f
  by_cases hn : n < 1
  · refine Run.pos hn (Run.step (fun k => by rw [spec_l20Rd_pick.j0]) (Run.pos rfl (Run.ret ?_)))
    rw [w1]; exact ⟨by omega, by omega, fun _ => rfl, rfl⟩
  · refine Run.neg hn (Run.step (fun k => by rw [spec_l20Rd_pick.j0]) ?_)
    by_cases h0 : b.length = 0
    · refine Run.pos (by simp [h0]) (Run.ret ?_)
      rw [w1]; exact ⟨by omega, by omega, by omega, rfl⟩
    · refine Run.neg (by simp; intro h; simp [h] at h0) ?_
      rw [w1, w2]
      by_cases hlt : p < (b.length : Int)
      · refine Run.pos hlt (Run.pos hp (Run.neg (by omega) (Run.ret ?_)))
        obtain ⟨r0, r1⟩ := hb.at_ p
        rw [w64 (by omega) (by omega)]
        obtain ⟨m0, m1⟩ := tmod_range (rd b p) n r0 (by omega)
        exact ⟨m0, fun _ => m1, by omega, rfl⟩
      · have hL : (1 : Int) ≤ b.length := by omega
        have e7 : wrap64 (wrap64 (p * 7) + 3) = p * 7 + 3 := by rw [w64 (x := p * 7) (by omega) (by omega), w64 (by omega) (by omega)]
        rw [e7]
        obtain ⟨a0, a1⟩ := tmod_range p b.length hp hL
        obtain ⟨c0, c1⟩ := tmod_range (p * 7 + 3) b.length (by omega) hL
        refine Run.neg hlt (Run.neg (by omega) (Run.pos a0 (Run.pos a1 (Run.pos c0 (Run.pos c1 (Run.neg (by omega) (Run.ret ?_)))))))
        obtain ⟨x0, x1⟩ := hb.at_ (Int.tmod p b.length)
        obtain ⟨y0, y1⟩ := hb.at_ (Int.tmod (p * 7 + 3) b.length)
        have ed : Int.tdiv p (b.length : Int) = p / (b.length : Int) := Int.tdiv_eq_ediv_of_nonneg hp
        have d0 : 0 ≤ p / (b.length : Int) := Int.ediv_nonneg hp (by omega)
        have d1 : p / (b.length : Int) ≤ p := Int.ediv_le_self _ hp
        rw [ed]
        generalize p / (b.length : Int) = q at d0 d1 ⊢
        generalize rd b (Int.tmod p b.length) = x at x0 x1 ⊢
        generalize rd b (Int.tmod (p * 7 + 3) b.length) = y at y0 y1 ⊢
        have eX : wrap64 (wrap64 (wrap64 (wrap64 (wrap64 x * 131) + wrap64 (wrap64 y * 1117)) + wrap64 (p * 29)) + wrap64 (wrap64 q * 53)) = x * 131 + y * 1117 + p * 29 + q * 53 := by
          rw [w64 (x := x) (by omega) (by omega), w64 (x := y) (by omega) (by omega), w64 (x := q) (by omega) (by omega), w64 (x := x * 131) (by omega) (by omega), w64 (x := y * 1117) (by omega) (by omega), w64 (x := p * 29) (by omega) (by omega), w64 (x := q * 53) (by omega) (by omega), w64 (x := x * 131 + y * 1117) (by omega) (by omega), w64 (x := x * 131 + y * 1117 + p * 29) (by omega) (by omega), w64 (by omega) (by omega)]
        rw [eX]
        generalize hX : x * 131 + y * 1117 + p * 29 + q * 53 = X
        have X0 : 0 ≤ X := by omega
        have X1 : X < 4611686018427387904 := by omega
        have et : Int.tdiv X 64 = X / 64 := Int.tdiv_eq_ediv_of_nonneg X0
        rw [et, w64 (x := X / 64) (by omega) (by omega)]
        obtain ⟨m0, m1⟩ := tmod_range _ n (xor_i64 X (X / 64) X0 X1 (by omega) (by omega)) (by omega)
        exact ⟨m0, fun _ => m1, by omega, rfl⟩
theorem open_eq (l : List Int) (h : ∀ x ∈ l, (Lit.int .u8 x).wf = true) : ∃ b, spec_l20Open.f l = some (b, 0) ∧ Bytes b := by
  unfold spec_l20Open.f
  have hb : ∀ x ∈ l, 0 ≤ x ∧ x ≤ 255 := fun x hx => wfb (h x hx)
  by_cases hl : (l.length : Int) > 2000
  · refine ⟨_, by rw [if_pos hl, if_pos (by omega)], by simp; omega, fun x hx => hb x (List.mem_of_mem_take hx)⟩
  · exact ⟨_, by rw [if_neg hl], by omega, hb⟩
end Go.Proofs.YtfofmdillhamkaaDoor.Pure
set_option linter.unusedVariables false
set_option linter.unusedSimpArgs false
namespace Go.Proofs.YtfofmdillhamkaaDoor.Pure
open Go.RowKit Go.Proofs.YtfofmdillhamkaaDoor.Pr Go.Proofs.YtfofmdillhamkaaDoorW.PrintWords Go.Proofs.YtfofmdillhamkaaDoorW.PrintLast Go.Proofs.YtfofmdillhamkaaDoorW.PrintMore
theorem brd_run {b : List Int} (hb : Bytes b) {p n : Int} (hp : 0 ≤ p) (hp2 : p + 8 < LIMP) (hn : 1 ≤ n) : Run (fun k => spec_l20Brd.f k b p n) (fun r => p ≤ r.2.2 ∧ r.2.2 ≤ p + 8 ∧ -1 ≤ r.1 ∧ r.1 ≤ 5 ∧ -1 ≤ r.2.1 ∧ r.2.1 ≤ 4) := by
  have tail : ∀ (q s w : Int), 0 ≤ q → q + 3 < LIMP → -1 ≤ s → s ≤ 5 → -1 ≤ w → w ≤ 4 → Run (fun k => spec_l20Brd.j1 k n b q s w) (fun r => q ≤ r.2.2 ∧ r.2.2 ≤ q + 3 ∧ -1 ≤ r.1 ∧ r.1 ≤ 5 ∧ -1 ≤ r.2.1 ∧ r.2.1 ≤ 4) := by
    intro q s w hq hq2 hs hs2 hw hw2
    refine Run.step (fun k => by rw [spec_l20Brd.j1]) ?_
    refine Run.bind (pick_run hb (by omega) (by omega)) fun r1 h1 => ?_
    refine Run.ite (fun _ => ?_) (fun _ => Run.ret (by dsimp only; omega))
    refine Run.bind (pick_run hb (by omega) (by omega)) fun r2 h2 => ?_
    refine Run.ite (fun _ => ?_) (fun _ => ?_)
    · refine Run.some (Run.bind (pick_run hb (by omega) (by omega)) fun r3 h3 => Run.pos (by omega) (Run.pos (by simp; omega) (Run.ret ?_)))
      have hr : rd [(-1), 5, 1] r3.1 = -1 ∨ rd [(-1), 5, 1] r3.1 = 5 ∨ rd [(-1), 5, 1] r3.1 = 1 := by
        have : r3.1 = 0 ∨ r3.1 = 1 ∨ r3.1 = 2 := by omega
        rcases this with e | e | e <;> rw [e] <;> decide
      dsimp only; omega
    · refine Run.some (Run.bind (pick_run hb (by omega) (by omega)) fun r3 h3 => Run.pos (by omega) (Run.pos (by simp; omega) (Run.ret ?_)))
      have hr : -1 ≤ rd [(-1), 4, 0, 1] r3.1 ∧ rd [(-1), 4, 0, 1] r3.1 ≤ 4 := by
        have : r3.1 = 0 ∨ r3.1 = 1 ∨ r3.1 = 2 ∨ r3.1 = 3 := by omega
        rcases this with e | e | e | e <;> rw [e] <;> decide
      dsimp only; omega
  unfold spec_l20Brd.f
  refine Run.bind (pick_run hb (by omega) (by omega)) fun r0 h0 => ?_
  have mid : ∀ x : Bool, Run (fun k => spec_l20Brd.j0 k n r0.1 x b r0.2 0 0) (fun r => p ≤ r.2.2 ∧ r.2.2 ≤ p + 8 ∧ -1 ≤ r.1 ∧ r.1 ≤ 5 ∧ -1 ≤ r.2.1 ∧ r.2.1 ≤ 4) := by
    intro x
    refine Run.step (fun k => by rw [spec_l20Brd.j0]) ?_
    refine Run.ite (fun _ => ?_) (fun _ => Run.ite (fun _ => ?_) (fun _ => ?_))
    · refine Run.bind (pick_run hb (by omega) (by omega)) fun r1 h1 => Run.bind (pick_run hb (by omega) (by omega)) fun r2 h2 => ?_
      rw [w64 (x := 1 + r1.1) (by omega) (by omega), w64 (x := 1 + r2.1) (by omega) (by omega)]
      exact (tail _ _ _ (by omega) (by omega) (by omega) (by omega) (by omega) (by omega)).imp fun r h => by omega
    · refine Run.bind (pick_run hb (by omega) (by omega)) fun r1 h1 => Run.ite (fun _ => ?_) (fun _ => ?_)
      · exact (tail _ _ _ (by omega) (by omega) (by omega) (by omega) (by omega) (by omega)).imp fun r h => by omega
      · exact (tail _ _ _ (by omega) (by omega) (by omega) (by omega) (by omega) (by omega)).imp fun r h => by omega
    · exact (tail _ _ _ (by omega) (by omega) (by omega) (by omega) (by omega) (by omega)).imp fun r h => by omega
  exact Run.ite (fun _ => mid _) (fun _ => mid _)
end Go.Proofs.YtfofmdillhamkaaDoor.Pure
set_option linter.unusedVariables false
set_option linter.unusedSimpArgs false
namespace Go.Proofs.YtfofmdillhamkaaDoor.Pure
open Go.RowKit Go.Proofs.YtfofmdillhamkaaDoor.Pr Go.Proofs.YtfofmdillhamkaaDoorW.PrintWords Go.Proofs.YtfofmdillhamkaaDoorW.PrintLast Go.Proofs.YtfofmdillhamkaaDoorW.PrintMore
theorem read_text {s n : Int} (h : brdOk s n = true) : brdRead (brdText s n) = (s, n, true) ∧ ((brdText s n).toList != ([] : List UInt8)) = true := by
  have q := (brdOk_iff s n).mp h
  have c : (s = 0 ∧ n = 0) ∨ (s = 4 ∧ n = 0) ∨ ((s = 1 ∨ s = 2 ∨ s = 3) ∧ (n = 1 ∨ n = 2 ∨ n = 3)) := by omega
  rcases c with ⟨rfl, rfl⟩ | ⟨rfl, rfl⟩ | ⟨rfl | rfl | rfl, rfl | rfl | rfl⟩ <;> exact ⟨by decide +kernel, by decide +kernel⟩
theorem text_none {s n : Int} (h : ¬ brdOk s n = true) : brdText s n = ⟨#[]⟩ := by unfold brdText; rw [if_neg h]
theorem two_bytes (t : ByteArray) (h : t.size = 2) : ∃ a b : UInt8, t = ⟨#[a, b]⟩ := by
  obtain ⟨⟨l⟩⟩ := t
  match l, h with
  | [a, b], _ => exact ⟨a, b, rfl⟩
theorem text_read (t : ByteArray) (h : (brdRead t).2.2 = true) : brdText (brdRead t).1 (brdRead t).2.1 = t := by
  unfold brdRead at h ⊢
  by_cases c : t.size = 2 ∧ brdOk (bt t 0 - 48) (bt t 1 - 48) = true
  · rw [if_pos c] at h ⊢
    obtain ⟨a, b, rfl⟩ := two_bytes t c.1
    have ha : bt (⟨#[a, b]⟩ : ByteArray) 0 = (a.toNat : Int) := rfl
    have hb : bt (⟨#[a, b]⟩ : ByteArray) 1 = (b.toNat : Int) := rfl
    rw [ha, hb] at c ⊢
    have hok := c.2
    obtain ⟨r1, r2, r3, r4⟩ := brdOk_range hok
    show brdText ((a.toNat : Int) - 48) ((b.toNat : Int) - 48) = _
    unfold brdText
    rw [if_pos hok, (decS_small _ r1 (by omega)).1, (decS_small _ r3 (by omega)).1, show (48 + ((a.toNat : Int) - 48)) = (a.toNat : Int) by omega, show (48 + ((b.toNat : Int) - 48)) = (b.toNat : Int) by omega]
    have e : ∀ x : UInt8, strOfNums [(x.toNat : Int)] = ⟨#[x]⟩ := fun x => by
      show (⟨(([(x.toNat : Int)]).map fun z => UInt8.ofNat z.toNat).toArray⟩ : ByteArray) = _
      simp
    rw [e, e]
    rfl
  · rw [if_neg c] at h; cases h
theorem FnBrdText (l m : List Int) (h : l.length ≤ 9223372036854775807 ∧ ∀ x ∈ l, (Lit.int .u8 x).wf = true) (h2 : m.length ≤ 9223372036854775807 ∧ ∀ x ∈ m, (Lit.int .u8 x).wf = true) : ∃ k, laws_FnBrdText.f k l m = some true := by
  apply Run.get
  unfold laws_FnBrdText.f
  have done : ∀ a b, Run (fun k => laws_FnBrdText.j0 k a b true) (· = true) := fun a b => Run.step (fun k => by rw [laws_FnBrdText.j0]) (Run.pos rfl (Run.ret rfl))
  refine Run.ite (fun _ => done _ _) fun hbig => ?_
  by_cases hb2 : (m.length : Int) > 1048576
  · rw [decide_eq_true hb2]; exact done _ _
  rw [decide_eq_false hb2]
  have drawB : Run (fun k => spec_DrawBrdText.f k l) (fun _ => True) := by
    unfold spec_DrawBrdText.f
    obtain ⟨b, e, hb⟩ := open_eq l h.2
    refine Run.constBind e (Run.bind (brd_run hb (show (0 : Int) ≤ 0 by omega) (by unfold LIMP; omega) (by omega)) fun r hr => Run.ret trivial)
  have drawT : Run (fun k => spec_DrawBrdRead.f k m) (fun _ => True) := by
    unfold spec_DrawBrdRead.f
    obtain ⟨b, e, hb⟩ := open_eq m h2.2
    refine Run.constBind e (Run.bind (brd_run hb (show (0 : Int) ≤ 0 by omega) (by unfold LIMP; omega) (by omega)) fun r hr => ?_)
    refine Run.evBind (specText _ _) (Run.some (Run.bind (pick_run hb (n := 10) (by omega) (by unfold LIMP; omega)) fun q hq => ?_))
    obtain ⟨c0, c1, _, _⟩ := hq
    have c1 := c1 (by omega)
    exact Run.pos c0 (Run.pos (by show q.1 < 10; omega) (Run.ret trivial))
  refine Run.step (fun k => by rw [laws_FnBrdText.j0]) (Run.neg (by simp) (Run.bind drawB fun d _ => ?_))
  obtain ⟨s, n⟩ := d
  refine Run.constBind (implText s n) (Run.bind drawT fun t _ => Run.constBind (impl_brdRead t) (Run.evBind (spec_brdRead t) (Run.evBind (specText s n) (Run.pos rfl (Run.neg (by simp) (Run.neg (by simp) ?_))))))
  have tail : Run (fun k => (impl_BrdOk.f s n).bind fun t225 => laws_FnBrdText.j1 k (brdText s n) (((brdText s n).toList != ([] : List UInt8)) != t225) s n) (· = true) := by
    refine Run.constBind (impl_brdOk s n) ?_
    by_cases hok : brdOk s n = true
    · obtain ⟨q1, q2⟩ := read_text hok
      rw [hok, q2]
      refine Run.step (fun k => by rw [laws_FnBrdText.j1]) (Run.neg (by simp) (Run.neg (bne_iff_ne.mp q2) (Run.constBind (impl_brdRead _) ?_)))
      rw [q1]
      exact Run.pos rfl (Run.ret (by simp))
    · have e : brdOk s n = false := by simpa using hok
      rw [e, text_none hok]
      refine Run.step (fun k => by rw [laws_FnBrdText.j1]) ?_
      refine Run.neg (by decide +kernel) ?_
      refine Run.pos (by decide +kernel) ?_
      refine Run.constBind (implText 3 2) (Run.ret ?_)
      decide +kernel
  refine Run.ite (fun hr => ?_) (fun _ => tail)
  refine Run.constBind (implText _ _) ?_
  rw [text_read t hr]
  exact Run.pos rfl tail
end Go.Proofs.YtfofmdillhamkaaDoor.Pure
