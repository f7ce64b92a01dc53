/- The plain laws that the claim of 'FnShrDue' leans on. -/
import Derived.Test.YtcjpojppbmlfaaaDoorFnShrDueP0
import Derived.ProofKit
import Derived.OpenShut
import Derived.ShutString
import Derived.ChangeOld
import Derived.Below
import Derived.SizedLaws
import Derived.DataElems
import Derived.Test.YtcjpojppbmlfaaaDoorFnShrDueP1
import Derived.Test.YtcjpojppbmlfaaaDoorFnShrDueP2
import Derived.Test.YtcjpojppbmlfaaaDoorFnShrDueP3
import Derived.Test.YtcjpojppbmlfaaaDoorFnShrDueQCut
import Derived.Lib.LazyBuf
import Derived.Test.YtcjpojppbmlfaaaDoorFnShrDueP4
import Derived.Test.YtcjpojppbmlfaaaDoorFnShrDuePr86
import Derived.Test.YtcjpojppbmlfaaaDoorFnShrDueP5
import Derived.Test.YtcjpojppbmlfaaaDoorFnShrDuePr78
import Derived.Test.YtcjpojppbmlfaaaDoorFnShrDueP6
import Derived.Test.YtcjpojppbmlfaaaDoorFnShrDuePr4
set_option linter.unusedVariables false
set_option linter.unusedSimpArgs false
namespace Go.Proofs.YtcjpojppbmlfaaaDoor.Pure
open Go.RowKit Go.Proofs.YtcjpojppbmlfaaaDoor.Pr Go.Proofs.YtcjpojppbmlfaaaDoorW.PrintWords Go.Proofs.YtcjpojppbmlfaaaDoorW.PrintLast Go.Proofs.YtcjpojppbmlfaaaDoorW.PrintMore
section
variable {H : Type} {enc : TypeId × Value → H} {P : Program} {W : World} {α β γ : Type}
structure Opens (enc : TypeId × Value → H) (P : Program) (W : World) (t : TypeId) (d : Kd α) (I : α → Prop) : Prop where
  out : ∀ (fuel : Nat) (cs : List Value) (x : DataW H × List MemPlace), DataW.trod enc P W 0 (fun _ => true) true fuel t cs = some x → ∃ y, d.K W y cs ∧ I y
theorem opens_int {t : TypeId} {k : IntKind} (hu : P.underlying t = some (.int k)) : Opens enc P W t (Kd.int k) (fun n => (Lit.int k n).wf = true) := ⟨by
  intro fuel cs x h
  cases fuel with
  | zero => simp [DataW.trod] at h
  | succ fuel =>
    simp only [DataW.trod, hu] at h
    split at h <;> simp_all
    exact ⟨_, rfl, h.1.2⟩⟩
theorem mapM_get {δ ε : Type} {f : δ → Option ε} : ∀ {xs : List δ} {ys : List ε}, xs.mapM f = some ys → ys.length = xs.length ∧ ∀ (j : Nat) x, xs[j]? = some x → ∃ y, ys[j]? = some y ∧ f x = some y
  | [], ys, h => by simp at h; subst h; simp
  | a :: xs, ys, h => by
    rw [List.mapM_cons] at h
    simp only [Option.bind_eq_bind, Option.bind_eq_some_iff, Option.pure_def, Option.some.injEq] at h
    obtain ⟨b, hb, zs, hz, rfl⟩ := h
    obtain ⟨h1, h2⟩ := mapM_get hz
    refine ⟨by simp [h1], ?_⟩
    intro j x hx
    cases j with
    | zero => simp at hx; subst hx; exact ⟨b, by simp, hb⟩
    | succ j => simpa using h2 j x (by simpa using hx)
theorem list_of {len : Nat} {Q : Nat → α → Prop} (h : ∀ j, j < len → ∃ y, Q j y) : ∃ ys : List α, ys.length = len ∧ ∀ (j : Nat) y, ys[j]? = some y → Q j y := by
  induction len with
  | zero => exact ⟨[], rfl, by simp⟩
  | succ n ih =>
    obtain ⟨ys, hl, hq⟩ := ih (fun j hj => h j (by omega))
    obtain ⟨y, hy⟩ := h n (by omega)
    refine ⟨ys ++ [y], by simp [hl], ?_⟩
    intro j z hz
    by_cases hj : j < ys.length
    · rw [List.getElem?_append_left hj] at hz; exact hq j z hz
    · rw [List.getElem?_append_right (by omega)] at hz
      have e : j - ys.length = 0 := by
        rcases Nat.eq_zero_or_pos (j - ys.length) with h0 | h0
        · exact h0
        · rw [List.getElem?_eq_none (by simp; omega)] at hz; cases hz
      rw [e] at hz
      simp at hz
      subst hz
      have : j = n := by omega
      subst this; exact hy
theorem cells_at {base : Nat} {a : Addr} {n : Nat} {c : List Value} (h : W.cells? base a n = some c) (i : Nat) (u : Value) (hu : c[i]? = some u) : W.cell? (a.add i) = some u := by
  unfold World.cells? at h
  split at h
  · obtain ⟨hl, hg⟩ := mapM_get h
    rw [List.length_range] at hl
    have hi : i < n := by rw [← hl]; exact (List.getElem?_eq_some_iff.1 hu).1
    obtain ⟨y, hy, hc⟩ := hg i i (by rw [List.getElem?_range hi])
    rw [hy] at hu
    cases hu
    exact hc
  · cases h
theorem opens_slice {t e : TypeId} {d : Kd α} {I : α → Prop} (hu : P.underlying t = some (.slice e)) (hc : P.cellsOf e = d.sz) (h : Opens enc P W e d I) : Opens enc P W t (Kd.slice e d) (fun xs => xs.length ≤ 9223372036854775807 ∧ ∀ x ∈ xs, I x) := ⟨by
  intro fuel cs x hx
  cases fuel with
  | zero => simp [DataW.trod] at hx
  | succ fuel =>
    unfold DataW.trod at hx
    rw [hu] at hx
    split at hx
    all_goals first | (rename_i heq; cases heq; done) | (rename_i heq _; cases heq; done) | (cases hx; done) | skip
    · exact ⟨[], ⟨none, 0, rfl, Nat.le_refl _, Kd.C_nil d W⟩, by simp, by simp⟩
    · rename_i e' a len cap heq
      injection heq with heq
      injection heq with heq
      subst heq
      dsimp only at hx
      split at hx
      · rename_i hlc
        obtain ⟨_, hle, hmax⟩ := hlc
        simp only [Option.bind_eq_some_iff, Option.map_eq_some_iff] at hx
        obtain ⟨elems, hel, _, _, _⟩ := hx
        obtain ⟨hlen, hget⟩ := mapM_get hel
        rw [List.length_range] at hlen
        obtain ⟨ys, hyl, hyq⟩ := list_of (len := len) (Q := fun j y => I y ∧ ∃ c, c.length = d.sz ∧ d.K W y c ∧ ∀ (i : Nat) u, c[i]? = some u → W.cell? (a.add (j * d.sz + i)) = some u) (by
          intro j hj
          obtain ⟨y, _, hy⟩ := hget j j (by rw [List.getElem?_range hj])
          rw [Option.bind_eq_some_iff] at hy
          obtain ⟨c, hcs, hy⟩ := hy
          obtain ⟨y', hK, hI⟩ := h.out fuel c _ hy
          refine ⟨y', hI, c, d.K_len hK, hK, ?_⟩
          intro i u hi
          rw [hc] at hcs
          have := cells_at hcs i u hi
          rw [Addr.add_add] at this
          exact this)
        refine ⟨ys, ⟨some a, cap, by rw [hyl], by omega, hyl ▸ rfl, by unfold maxLen at hmax; omega, fun _ => ⟨a, rfl, fun j p hj => (hyq j p hj).2⟩⟩, by unfold maxLen at hmax; omega, ?_⟩
        intro x hx
        obtain ⟨j, hj⟩ := List.getElem?_of_mem hx
        exact (hyq j x hj).1
      · cases hx⟩
end
end Go.Proofs.YtcjpojppbmlfaaaDoor.Pure
set_option linter.unusedVariables false
set_option linter.unusedSimpArgs false
namespace Go.Proofs.YtcjpojppbmlfaaaDoor.Pure
open Go.RowKit Go.Proofs.YtcjpojppbmlfaaaDoor.Pr Go.Proofs.YtcjpojppbmlfaaaDoorW.PrintWords Go.Proofs.YtcjpojppbmlfaaaDoorW.PrintLast Go.Proofs.YtcjpojppbmlfaaaDoorW.PrintMore
theorem evIf {α : Type} {c : Prop} [Decidable c] {g f : Nat → Option α} {r : α} (hc : c) (h : Ev g r) : Ev (fun k => if c then g k else f k) r :=
  Ev.congr (fun _ => if_pos hc) h
theorem evElse {α : Type} {c : Prop} [Decidable c] {g f : Nat → Option α} {r : α} (hc : ¬ c) (h : Ev f r) : Ev (fun k => if c then g k else f k) r :=
  Ev.congr (fun _ => if_neg hc) h
theorem evNow {α : Type} {g : Option α} {r : α} (h : g = some r) : Ev (fun _ => g) r := ⟨0, fun _ _ => h⟩
theorem evBindC {α β : Type} {g : Option α} {f : Nat → α → Option β} {a : α} {r : β} (h : g = some a) (k : Ev (fun n => f n a) r) : Ev (fun n => g.bind (f n)) r := by
  subst h; exact k
theorem in_eq (a b c : Int) : impl_in.f a b c = some (decide (b ≤ a) && decide (a ≤ c)) := by
  unfold impl_in.f; by_cases h : a ≥ b <;> simp [h] <;> omega
theorem l1In_eq (a b c : Int) : spec_l1In.f a b c = some (decide (b ≤ a) && decide (a ≤ c)) := by
  unfold spec_l1In.f; by_cases h : a ≥ b <;> simp [h] <;> omega
theorem w64 {x : Int} (h : -9223372036854775808 ≤ x) (h2 : x ≤ 9223372036854775807) : wrap64 x = x := by unfold wrap64; omega
def Run {α : Type} (g : Nat → Option α) (Q : α → Prop) : Prop := ∃ r, Ev g r ∧ Q r
theorem Run.ret {α : Type} {r : α} {Q : α → Prop} (h : Q r) : Run (fun _ => some r) Q := ⟨r, Ev.now r, h⟩
theorem Run.bind {α β : Type} {g : Nat → Option α} {f : Nat → α → Option β} {Q : α → Prop} {R : β → Prop} (h : Run g Q) (k : ∀ a, Q a → Run (fun n => f n a) R) : Run (fun n => (g n).bind (f n)) R := by
  obtain ⟨a, ha, qa⟩ := h
  obtain ⟨b, hb, rb⟩ := k a qa
  exact ⟨b, ha.bind hb, rb⟩
theorem Run.evBind {α β : Type} {g : Nat → Option α} {f : Nat → α → Option β} {a : α} {R : β → Prop} (h : Ev g a) (k : Run (fun n => f n a) R) : Run (fun n => (g n).bind (f n)) R := by
  obtain ⟨b, hb, rb⟩ := k
  exact ⟨b, h.bind hb, rb⟩
theorem Run.some {α β : Type} {a : α} {f : Nat → α → Option β} {R : β → Prop} (k : Run (fun n => f n a) R) : Run (fun n => (Option.some a).bind (f n)) R := k
theorem Run.constBind {α β : Type} {g : Option α} {f : Nat → α → Option β} {a : α} {R : β → Prop} (h : g = Option.some a) (k : Run (fun n => f n a) R) : Run (fun n => g.bind (f n)) R := by subst h; exact k
theorem Run.ite {α : Type} {c : Prop} [Decidable c] {g f : Nat → Option α} {Q : α → Prop} (h : c → Run g Q) (k : ¬ c → Run f Q) : Run (fun n => if c then g n else f n) Q := by
  by_cases hc : c
  · obtain ⟨r, e, q⟩ := h hc; exact ⟨r, evIf hc e, q⟩
  · obtain ⟨r, e, q⟩ := k hc; exact ⟨r, evElse hc e, q⟩
theorem Run.pos {α : Type} {c : Prop} [Decidable c] {g f : Nat → Option α} {Q : α → Prop} (hc : c) (h : Run g Q) : Run (fun n => if c then g n else f n) Q := Run.ite (fun _ => h) (fun k => absurd hc k)
theorem Run.neg {α : Type} {c : Prop} [Decidable c] {g f : Nat → Option α} {Q : α → Prop} (hc : ¬ c) (h : Run f Q) : Run (fun n => if c then g n else f n) Q := Run.ite (fun k => absurd k hc) (fun _ => h)
theorem Run.step {α : Type} {g f : Nat → Option α} {Q : α → Prop} (h : ∀ k, g (k + 1) = f k) (k : Run f Q) : Run g Q := by
  obtain ⟨r, e, q⟩ := k; exact ⟨r, Ev.step h e, q⟩
theorem Run.get {α : Type} {g : Nat → Option α} {r : α} (h : Run g (· = r)) : ∃ k, g k = Option.some r := by
  obtain ⟨r', e, rfl⟩ := h; exact e.rounds
theorem Ev.run {α : Type} {g : Nat → Option α} {r : α} (h : Ev g r) : Run g (· = r) := ⟨r, h, rfl⟩
theorem wfb {n : Int} (h : (Lit.int .u8 n).wf = true) : 0 ≤ n ∧ n ≤ 255 := by
  simp [Lit.wf, IntKind.min, IntKind.max, IntKind.bits, IntKind.signed] at h; omega
end Go.Proofs.YtcjpojppbmlfaaaDoor.Pure
set_option linter.unusedVariables false
set_option linter.unusedSimpArgs false
namespace Go.Proofs.YtcjpojppbmlfaaaDoor.Pure
open Go.RowKit Go.Proofs.YtcjpojppbmlfaaaDoor.Pr Go.Proofs.YtcjpojppbmlfaaaDoorW.PrintWords Go.Proofs.YtcjpojppbmlfaaaDoorW.PrintLast Go.Proofs.YtcjpojppbmlfaaaDoorW.PrintMore
theorem ofInt_i64 (a : Nat) (ha : a < 18446744073709551616) : (BitVec.ofInt 64 (a : Int)).toNat = a := by
  rw [BitVec.ofInt_natCast, BitVec.toNat_ofNat]; exact Nat.mod_eq_of_lt (by omega)
theorem xor_i64 (a b : Int) (h1 : 0 ≤ a) (h2 : a < 4611686018427387904) (h3 : 0 ≤ b) (h4 : b < 4611686018427387904) : 0 ≤ Go.bits .xor .i64 a b := by
  obtain ⟨A, rfl⟩ := Int.eq_ofNat_of_zero_le h1
  obtain ⟨B, rfl⟩ := Int.eq_ofNat_of_zero_le h3
  have hx : A ^^^ B < 2 ^ 62 := Nat.xor_lt_two_pow (by omega) (by omega)
  have e : Go.bits .xor .i64 (A : Int) (B : Int) = IntKind.i64.wrap ((BitVec.ofInt 64 (A : Int) ^^^ BitVec.ofInt 64 (B : Int)).toNat : Int) := rfl
  rw [e, BitVec.toNat_xor, ofInt_i64 A (by omega), ofInt_i64 B (by omega), IntKind.wrap_i64]
  omega
theorem tmod_range (a n : Int) (h : 0 ≤ a) (hn : 1 ≤ n) : 0 ≤ Int.tmod a n ∧ Int.tmod a n < n := by
  rw [Int.tmod_eq_emod_of_nonneg h]; exact ⟨Int.emod_nonneg _ (by omega), Int.emod_lt_of_pos _ (by omega)⟩
def Bytes (b : List Int) : Prop := b.length ≤ 2000 ∧ ∀ x ∈ b, 0 ≤ x ∧ x ≤ 255
theorem Bytes.at_ {b : List Int} (h : Bytes b) (i : Int) : 0 ≤ rd b i ∧ rd b i ≤ 255 := by
  unfold rd
  rw [List.getD_eq_getElem?_getD]
  cases e : b[i.toNat]? with
  | none => simp
  | some x => simpa using h.2 x (List.mem_of_getElem? e)
def LIMP : Int := 1099511627776
theorem pick_run {b : List Int} (hb : Bytes b) {p n : Int} (hp : 0 ≤ p) (hp2 : p < LIMP) : Run (fun k => spec_l20Rd_pick.f k b p n) (fun r => 0 ≤ r.1 ∧ (1 ≤ n → r.1 < n) ∧ (n < 1 → r.1 = 0) ∧ r.2 = p + 1) := by
  unfold LIMP at hp2
  have hl := hb.1
  have w1 : wrap64 (p + 1) = p + 1 := w64 (by omega) (by omega)
  have w2 : wrap64 (p + 1 - 1) = p := by rw [w64 (by omega) (by omega)]; omega
  unfold spec_l20Rd_pick.f
  by_cases hn : n < 1
  · refine Run.pos hn (Run.step (fun k => by rw [spec_l20Rd_pick.j0]) (Run.pos rfl (Run.ret ?_)))
    rw [w1]; exact ⟨by omega, by omega, fun _ => rfl, rfl⟩
  · refine Run.neg hn (Run.step (fun k => by rw [spec_l20Rd_pick.j0]) ?_)
    by_cases h0 : b.length = 0
    · refine Run.pos (by simp [h0]) (Run.ret ?_)
      rw [w1]; exact ⟨by omega, by omega, by omega, rfl⟩
    · refine Run.neg (by simp; intro h; simp [h] at h0) ?_
      rw [w1, w2]
      by_cases hlt : p < (b.length : Int)
      · refine Run.pos hlt (Run.pos hp (Run.neg (by omega) (Run.ret ?_)))
        obtain ⟨r0, r1⟩ := hb.at_ p
        rw [w64 (by omega) (by omega)]
        obtain ⟨m0, m1⟩ := tmod_range (rd b p) n r0 (by omega)
        exact ⟨m0, fun _ => m1, by omega, rfl⟩
      · have hL : (1 : Int) ≤ b.length := by omega
        have e7 : wrap64 (wrap64 (p * 7) + 3) = p * 7 + 3 := by rw [w64 (x := p * 7) (by omega) (by omega), w64 (by omega) (by omega)]
        rw [e7]
        obtain ⟨a0, a1⟩ := tmod_range p b.length hp hL
        obtain ⟨c0, c1⟩ := tmod_range (p * 7 + 3) b.length (by omega) hL
        refine Run.neg hlt (Run.neg (by omega) (Run.pos a0 (Run.pos a1 (Run.pos c0 (Run.pos c1 (Run.neg (by omega) (Run.ret ?_)))))))
        obtain ⟨x0, x1⟩ := hb.at_ (Int.tmod p b.length)
        obtain ⟨y0, y1⟩ := hb.at_ (Int.tmod (p * 7 + 3) b.length)
        have ed : Int.tdiv p (b.length : Int) = p / (b.length : Int) := Int.tdiv_eq_ediv_of_nonneg hp
        have d0 : 0 ≤ p / (b.length : Int) := Int.ediv_nonneg hp (by omega)
        have d1 : p / (b.length : Int) ≤ p := Int.ediv_le_self _ hp
        rw [ed]
        generalize p / (b.length : Int) = q at d0 d1 ⊢
        generalize rd b (Int.tmod p b.length) = x at x0 x1 ⊢
        generalize rd b (Int.tmod (p * 7 + 3) b.length) = y at y0 y1 ⊢
        have eX : wrap64 (wrap64 (wrap64 (wrap64 (wrap64 x * 131) + wrap64 (wrap64 y * 1117)) + wrap64 (p * 29)) + wrap64 (wrap64 q * 53)) = x * 131 + y * 1117 + p * 29 + q * 53 := by
          rw [w64 (x := x) (by omega) (by omega), w64 (x := y) (by omega) (by omega), w64 (x := q) (by omega) (by omega), w64 (x := x * 131) (by omega) (by omega), w64 (x := y * 1117) (by omega) (by omega), w64 (x := p * 29) (by omega) (by omega), w64 (x := q * 53) (by omega) (by omega), w64 (x := x * 131 + y * 1117) (by omega) (by omega), w64 (x := x * 131 + y * 1117 + p * 29) (by omega) (by omega), w64 (by omega) (by omega)]
        rw [eX]
        generalize hX : x * 131 + y * 1117 + p * 29 + q * 53 = X
        have X0 : 0 ≤ X := by omega
        have X1 : X < 4611686018427387904 := by omega
        have et : Int.tdiv X 64 = X / 64 := Int.tdiv_eq_ediv_of_nonneg X0
        rw [et, w64 (x := X / 64) (by omega) (by omega)]
        obtain ⟨m0, m1⟩ := tmod_range _ n (xor_i64 X (X / 64) X0 X1 (by omega) (by omega)) (by omega)
        exact ⟨m0, fun _ => m1, by omega, rfl⟩
theorem open_eq (l : List Int) (h : ∀ x ∈ l, (Lit.int .u8 x).wf = true) : ∃ b, spec_l20Open.f l = some (b, 0) ∧ Bytes b := by
  unfold spec_l20Open.f
  have hb : ∀ x ∈ l, 0 ≤ x ∧ x ≤ 255 := fun x hx => wfb (h x hx)
  by_cases hl : (l.length : Int) > 2000
  · refine ⟨_, by rw [if_pos hl, if_pos (by omega)], by simp; omega, fun x hx => hb x (List.mem_of_mem_take hx)⟩
  · exact ⟨_, by rw [if_neg hl], by omega, hb⟩
end Go.Proofs.YtcjpojppbmlfaaaDoor.Pure
set_option linter.unusedVariables false
set_option linter.unusedSimpArgs false
namespace Go.Proofs.YtcjpojppbmlfaaaDoor.Pure
open Go.RowKit Go.Proofs.YtcjpojppbmlfaaaDoor.Pr Go.Proofs.YtcjpojppbmlfaaaDoorW.PrintWords Go.Proofs.YtcjpojppbmlfaaaDoorW.PrintLast Go.Proofs.YtcjpojppbmlfaaaDoorW.PrintMore
theorem weights_run {b : List Int} (hb : Bytes b) {p : Int} (hp : 0 ≤ p) (hp2 : p + 40 < LIMP) : Run (fun k => spec_l20Weights.f k b p 16) (fun r => r.1.length ≤ 9) := by
  unfold spec_l20Weights.f
  have loop : ∀ (d : Nat) (out : List Int) (q : Int), out.length + d ≤ 8 → 0 ≤ q → q + 2 * d + 5 < LIMP → Run (fun k => spec_l20Weights.l0 k 16 out (d : Int) b q) (fun r => r.1.length ≤ 9) := by
    intro d
    induction d with
    | zero =>
      intro out q ho hq hq2
      refine Run.step (fun k => by rw [spec_l20Weights.l0]) ?_
      refine Run.neg (by omega) ?_
      refine Run.bind (pick_run hb hq (n := 16) (by omega)) fun a ha => ?_
      obtain ⟨a1, a2, a3, a4⟩ := ha
      refine Run.ite (fun _ => ?_) (fun _ => Run.ret (by show out.length ≤ 9; omega))
      refine Run.some ?_
      refine Run.bind (pick_run hb (p := a.2) (n := 3) (by omega) (by rw [a4]; omega)) fun c hc => ?_
      obtain ⟨c1, c2, c3, c4⟩ := hc
      refine Run.pos c1 (Run.pos (by have := c2 (by omega); simpa using this) (Run.pos (by omega) (Run.ret ?_)))
      show (out ++ [_]).length ≤ 9
      simp; omega
    | succ d ih =>
      intro out q ho hq hq2
      refine Run.step (fun k => by rw [spec_l20Weights.l0]) ?_
      refine Run.pos (by omega) ?_
      refine Run.bind (pick_run hb hq (n := 20) (by omega)) fun a ha => ?_
      obtain ⟨a1, a2, a3, a4⟩ := ha
      refine Run.some ?_
      refine Run.bind (pick_run hb (p := a.2) (n := 7) (by omega) (by rw [a4]; omega)) fun c hc => ?_
      obtain ⟨c1, c2, c3, c4⟩ := hc
      refine Run.pos c1 (Run.pos (by have := c2 (by omega); simpa using this) (Run.pos (by omega) ?_))
      have e : wrap64 (((d + 1 : Nat) : Int) - 1) = (d : Int) := by rw [w64 (by omega) (by omega)]; omega
      rw [e]
      exact ih _ c.2 (by simp; omega) (by omega) (by rw [c4, a4]; omega)
  refine Run.bind (pick_run hb hp (n := 8) (by omega)) fun a ha => ?_
  obtain ⟨a1, a2, a3, a4⟩ := ha
  have a2' := a2 (by omega)
  obtain ⟨d, hd⟩ : ∃ d : Nat, a.1 = d := ⟨a.1.toNat, by omega⟩
  rw [hd]
  exact loop d [] a.2 (by simp; omega) (by omega) (by rw [a4]; omega)
theorem drawShr (l : List Int) (h : ∀ x ∈ l, (Lit.int .u8 x).wf = true) : Run (fun k => spec_DrawShrShare.f k l) (fun r => r.2.length ≤ 9) := by
  unfold spec_DrawShrShare.f
  obtain ⟨b, e, hb⟩ := open_eq l h
  have hL : (1000 : Int) < LIMP := by unfold LIMP; omega
  refine Run.constBind e ?_
  refine Run.bind (pick_run hb (p := 0) (n := 200) (by omega) (by omega)) fun a ha => ?_
  obtain ⟨a1, a2, a3, a4⟩ := ha
  refine Run.some ?_
  refine Run.bind (pick_run hb (p := a.2) (n := 8) (by omega) (by omega)) fun c hc => ?_
  obtain ⟨c1, c2, c3, c4⟩ := hc
  refine Run.pos c1 (Run.pos (by have := c2 (by omega); simpa using this) ?_)
  refine Run.bind (weights_run hb (p := c.2) (by omega) (by omega)) fun w hw => ?_
  exact Run.ret hw
end Go.Proofs.YtcjpojppbmlfaaaDoor.Pure
set_option linter.unusedVariables false
set_option linter.unusedSimpArgs false
namespace Go.Proofs.YtcjpojppbmlfaaaDoor.Pure
open Go.RowKit Go.Proofs.YtcjpojppbmlfaaaDoor.Pr Go.Proofs.YtcjpojppbmlfaaaDoorW.PrintWords Go.Proofs.YtcjpojppbmlfaaaDoorW.PrintLast Go.Proofs.YtcjpojppbmlfaaaDoorW.PrintMore
theorem wnext {n i : Nat} (h : i < n) (hn : n ≤ 9223372036854775807) : wrap64 ((i : Int) + 1) = ((i + 1 : Nat) : Int) := by
  rw [w64 (by omega) (by omega)]; omega
theorem rdNat (l : List Int) (i : Nat) (h : i < l.length) : rd l i = l[i] := by unfold rd; simp [h]
theorem dropCons {α : Type} (l : List α) (i : Nat) (h : i < l.length) : l.drop i = l[i] :: l.drop (i + 1) := List.drop_eq_getElem_cons h
end Go.Proofs.YtcjpojppbmlfaaaDoor.Pure
set_option linter.unusedVariables false
set_option linter.unusedSimpArgs false
namespace Go.Proofs.YtcjpojppbmlfaaaDoor.Pure
open Go.RowKit Go.Proofs.YtcjpojppbmlfaaaDoor.Pr Go.Proofs.YtcjpojppbmlfaaaDoorW.PrintWords Go.Proofs.YtcjpojppbmlfaaaDoorW.PrintLast Go.Proofs.YtcjpojppbmlfaaaDoorW.PrintMore
def bl (s : ByteArray) : List UInt8 := s.data.toList
theorem bl_len (s : ByteArray) : s.size = (bl s).length := Go.Lib.size_eq s
theorem bl_mk (l : List UInt8) : bl (⟨l.toArray⟩ : ByteArray) = l := rfl
theorem rdS (l : List ByteArray) (i : Nat) (h : i < l.length) : rdOf ByteArray.empty l (i : Int) = l[i] := by unfold rdOf; simp [h]
theorem toList_nil (s : ByteArray) : s.toList = [] ↔ bl s = [] := by rw [Go.Lib.toList_data]; rfl
theorem cutL_le : ∀ (l w : List UInt8), w ∈ cutL l → w.length ≤ l.length := by
  intro l
  induction l with
  | nil => intro w h; simp [cutL] at h; subst h; simp
  | cons b l ih =>
    intro w h
    by_cases hb : b = 32
    · subst hb
      rw [cutL_blank] at h
      rcases List.mem_cons.mp h with rfl | h
      · simp
      · have := ih w h; simp; omega
    · obtain ⟨v, vs, e⟩ := cutL_ne l
      rw [cutL_other hb e] at h
      rcases List.mem_cons.mp h with rfl | h
      · have := ih v (by rw [e]; simp); simp; omega
      · have := ih w (by rw [e]; simp [h]); simp; omega
theorem cutB_le (s w : ByteArray) (h : w ∈ cutB s) : w.size ≤ s.size := by
  obtain ⟨l, hl, rfl⟩ := List.mem_map.mp h
  rw [bl_len, bl_len, bl_mk]
  exact cutL_le _ _ hl
def goodB (w : ByteArray) : Bool := goodW (bl w)
theorem cutB_good (s : ByteArray) : (cutB s).all goodB = (cutL (bl s)).all goodW := by
  unfold cutB
  rw [List.all_map]; rfl
def txtOk (s : ByteArray) : Bool := txtOkL (bl s)
theorem trim_ok (w : ByteArray) (h : w.size ≤ 9223372036854775807) : strings_Trim.f w (⟨#[97, 98, 99, 100, 101, 102, 103, 104, 105, 106, 107, 108, 109, 110, 111, 112, 113, 114, 115, 116, 117, 118, 119, 120, 121, 122]⟩ : ByteArray) = some ⟨(Go.Lib.trimS (bl w) letters26).toArray⟩ := by
  unfold strings_Trim.f
  rw [if_pos ⟨rfl, h⟩]; rfl
theorem implTxtOk (s : ByteArray) (h : s.size < 4294967281) : Ev (fun k => impl_TxtOk.f k s) (txtOk s) := by
  unfold impl_TxtOk.f txtOk txtOkL
  by_cases h0 : bl s = []
  · refine evIf ((toList_nil s).mpr h0) (evNow ?_)
    rw [h0]; rfl
  · refine evElse (fun e => h0 ((toList_nil s).mp e)) ?_
    refine evBindC (show strings_Split.f s (⟨#[32]⟩ : ByteArray) = some (cutB s) by unfold strings_Split.f; rw [if_pos ⟨rfl, h⟩]) ?_
    have hn : (cutB s).length ≤ s.size + 1 := by
      have := List.count_le_length (a := (32 : UInt8)) (l := bl s)
      rw [show (cutB s).length = (bl s).count 32 + 1 by rw [cutB, List.length_map, cutL_length]; rfl, bl_len]; omega
    have loop : ∀ (d i : Nat), i + d = (cutB s).length → Ev (fun k => impl_TxtOk.l0 k s (cutB s) ((cutB s).length : Int) i) (((cutB s).drop i).all goodB && decide ((s.size : Int) ≤ 30)) := by
      intro d
      induction d with
      | zero =>
        intro i hi
        obtain rfl : i = (cutB s).length := by omega
        rw [List.drop_length]
        refine Ev.step (fun k => by rw [impl_TxtOk.l0]) ?_
        exact evElse (by omega) (evNow (by simp))
      | succ d ih =>
        intro i hi
        have hlt : i < (cutB s).length := by omega
        have hw : (cutB s)[i].size ≤ s.size := cutB_le s _ (List.getElem_mem _)
        rw [dropCons _ i hlt, List.all_cons]
        refine Ev.step (fun k => by rw [impl_TxtOk.l0]) (evIf (by omega) (evIf (by omega) (evIf (by omega) ?_)))
        rw [rdS _ i hlt]
        generalize (cutB s)[i] = w at hw ⊢
        by_cases he : bl w = []
        · refine evIf ((toList_nil w).mpr he) (evNow ?_)
          simp [goodB, goodW, he]
        · refine evElse (fun e => he ((toList_nil w).mp e)) (evBindC (trim_ok w (by omega)) ?_)
          have ht := trim_empty (bl w)
          have he' : (bl w).isEmpty = false := by simpa using he
          have hg : goodB w = (bl w).all letter := by simp [goodB, goodW, he']
          rw [hg, ← ht]
          cases hc : (Go.Lib.trimS (bl w) letters26).isEmpty with
          | true =>
            refine evIf ((toList_nil _).mpr (by rw [bl_mk]; simpa using hc)) ?_
            rw [wnext (n := (cutB s).length) (by omega) (by omega)]
            simpa using ih (i + 1) (by omega)
          | false =>
            refine evElse (fun e => ?_) (evNow (by simp))
            have := (toList_nil _).mp e
            rw [bl_mk] at this
            rw [this] at hc; simp at hc
    have := loop (cutB s).length 0 (by omega)
    rw [List.drop_zero, cutB_good] at this
    have he : (bl s).isEmpty = false := by simpa using h0
    have hd : decide ((s.size : Int) ≤ 30) = decide ((bl s).length ≤ 30) := by rw [← bl_len]; exact decide_eq_decide.mpr (by omega)
    rw [he, Bool.false_or, Bool.and_comm, ← hd]
    exact this
end Go.Proofs.YtcjpojppbmlfaaaDoor.Pure
set_option linter.unusedVariables false
set_option linter.unusedSimpArgs false
namespace Go.Proofs.YtcjpojppbmlfaaaDoor.Pure
open Go.RowKit Go.Proofs.YtcjpojppbmlfaaaDoor.Pr Go.Proofs.YtcjpojppbmlfaaaDoorW.PrintWords Go.Proofs.YtcjpojppbmlfaaaDoorW.PrintLast Go.Proofs.YtcjpojppbmlfaaaDoorW.PrintMore
theorem pwOk : Ev (fun k => laws_pwOk.f k) true := by
  unfold laws_pwOk.f
  have h := implTxtOk (⟨#[97, 98, 32, 99]⟩ : ByteArray) (by show 4 < 4294967281; omega)
  have e : txtOk (⟨#[97, 98, 32, 99]⟩ : ByteArray) = true := by decide +kernel
  rw [e] at h
  exact h.bind (evNow rfl)
end Go.Proofs.YtcjpojppbmlfaaaDoor.Pure
set_option linter.unusedVariables false
set_option linter.unusedSimpArgs false
namespace Go.Proofs.YtcjpojppbmlfaaaDoor.Pure
open Go.RowKit Go.Proofs.YtcjpojppbmlfaaaDoor.Pr Go.Proofs.YtcjpojppbmlfaaaDoorW.PrintWords Go.Proofs.YtcjpojppbmlfaaaDoorW.PrintLast Go.Proofs.YtcjpojppbmlfaaaDoorW.PrintMore
def bt (key : Int → Int) (x y : Int) : Prop := key y < key x ∨ (key x = key y ∧ x < y)
end Go.Proofs.YtcjpojppbmlfaaaDoor.Pure
set_option linter.unusedVariables false
set_option linter.unusedSimpArgs false
namespace Go.Proofs.YtcjpojppbmlfaaaDoor.Pure
open Go.RowKit Go.Proofs.YtcjpojppbmlfaaaDoor.Pr Go.Proofs.YtcjpojppbmlfaaaDoorW.PrintWords Go.Proofs.YtcjpojppbmlfaaaDoorW.PrintLast Go.Proofs.YtcjpojppbmlfaaaDoorW.PrintMore
inductive Blocks (key : Int → Int) (bs : Nat) : List Int → List Int → Prop
  | last (O D : List Int) (h : O.length ≤ bs) (p : D.Perm O) (s : D.Pairwise (bt key)) : Blocks key bs O D
  | cons (B B' O D : List Int) (h : B.length = bs) (p : B'.Perm B) (s : B'.Pairwise (bt key)) (r : Blocks key bs O D) : Blocks key bs (B ++ O) (B' ++ D)
theorem Blocks.len {key : Int → Int} {bs : Nat} {O D : List Int} (h : Blocks key bs O D) : D.length = O.length := by
  induction h with
  | last O D h p s => exact p.length_eq
  | cons B B' O D h p s r ih => simp [ih, p.length_eq]
theorem Blocks.split {key : Int → Int} {bs : Nat} {O D : List Int} (h : Blocks key bs O D) (hl : bs ≤ O.length) : ∃ B B' O' D', O = B ++ O' ∧ D = B' ++ D' ∧ B.length = bs ∧ B'.Perm B ∧ B'.Pairwise (bt key) ∧ Blocks key bs O' D' := by
  cases h with
  | last O D h p s => exact ⟨O, D, [], [], by simp, by simp, by omega, p, s, .last [] [] (by simp) (List.Perm.refl _) (by simp)⟩
  | cons B B' O D h p s r => exact ⟨B, B', O, D, rfl, rfl, h, p, s, r⟩
theorem Blocks.one {key : Int → Int} {bs : Nat} {O D : List Int} (h : Blocks key bs O D) (hl : O.length ≤ bs) : D.Perm O ∧ D.Pairwise (bt key) := by
  cases h with
  | last O D h p s => exact ⟨p, s⟩
  | cons B B' O D h p s r =>
    have : O = [] := List.eq_nil_of_length_eq_zero (by simp at hl; omega)
    subst this
    have h2 := r.len
    have : D = [] := List.eq_nil_of_length_eq_zero (by simpa using h2)
    subst this
    simpa using ⟨p, s⟩
end Go.Proofs.YtcjpojppbmlfaaaDoor.Pure
set_option linter.unusedVariables false
set_option linter.unusedSimpArgs false
namespace Go.Proofs.YtcjpojppbmlfaaaDoor.Pure
open Go.RowKit Go.Proofs.YtcjpojppbmlfaaaDoor.Pr Go.Proofs.YtcjpojppbmlfaaaDoorW.PrintWords Go.Proofs.YtcjpojppbmlfaaaDoorW.PrintLast Go.Proofs.YtcjpojppbmlfaaaDoorW.PrintMore
theorem spec_shrOk (t : Int) (l : List Int) (h : l.length ≤ 9223372036854775807) : Ev (fun k => spec_ShrOk.f k t l) (shrOk t l) := by
  have loop : ∀ (d i : Nat), i + d = l.length → Ev (fun k => spec_ShrOk.l0 k l i) (!((l.drop i).any fun n => !(inB 0 100000 n))) := by
    intro d
    induction d with
    | zero => exact fun i hi => Ev.step (fun k => by rw [spec_ShrOk.l0]) (evElse (by omega) (evNow (by rw [List.drop_of_length_le (by omega)]; rfl)))
    | succ d ih =>
      intro i hi
      refine Ev.step (fun k => by rw [spec_ShrOk.l0]) (evIf (by omega) (evIf (by omega) (evBindC (l1In_eq _ _ _) ?_)))
      rw [rdNat l i (by omega), dropCons l i (by omega), List.any_cons]
      cases hb : inB 0 100000 l[i] with
      | true =>
        refine evIf hb ?_
        rw [wnext (n := l.length) (by omega) (by omega)]
        simpa using ih (i + 1) (by omega)
      | false => exact evElse (by rw [show (decide (0 ≤ l[i]) && decide (l[i] ≤ 100000)) = inB 0 100000 l[i] from rfl, hb]; decide) (evNow (by simp))
  unfold spec_ShrOk.f shrOk
  refine evBindC (l1In_eq _ _ _) ?_
  cases hb : inB 0 100000 t with
  | false =>
    refine evElse (by rw [show (decide (0 ≤ t) && decide (t ≤ 100000)) = inB 0 100000 t from rfl, hb]; decide) (Ev.step (fun k => by rw [spec_ShrOk.j0]) ?_)
    exact evIf rfl (evNow rfl)
  | true =>
    refine evIf hb (Ev.step (fun k => by rw [spec_ShrOk.j0]) ?_)
    by_cases hl : (l.length : Int) ≤ 100
    · refine evElse (by simp; omega) ?_
      simpa [hl] using loop l.length 0 (by omega)
    · exact evIf (by simp; omega) (evNow (by simp [hl]))
def sumW (l : List Int) : Int := l.foldl (fun s x => wrap64 (s + x)) 0
theorem spec_sum (l : List Int) (h : l.length ≤ 9223372036854775807) : Ev (fun k => spec_l1Sum.f k l) (sumW l) := by
  have loop : ∀ (d i : Nat) (s : Int), i + d = l.length → Ev (fun k => spec_l1Sum.l0 k l s i) ((l.drop i).foldl (fun s x => wrap64 (s + x)) s) := by
    intro d
    induction d with
    | zero => exact fun i s hi => Ev.step (fun k => by rw [spec_l1Sum.l0]) (evElse (by omega) (evNow (by rw [List.drop_of_length_le (by omega)]; rfl)))
    | succ d ih =>
      intro i s hi
      refine Ev.step (fun k => by rw [spec_l1Sum.l0]) (evIf (by omega) (evIf (by omega) ?_))
      rw [rdNat l i (by omega), dropCons l i (by omega), wnext (n := l.length) (by omega) (by omega), List.foldl_cons]
      exact ih (i + 1) _ (by omega)
  exact loop l.length 0 0 (by omega)
theorem impl_sum (l : List Int) (h : l.length ≤ 9223372036854775807) : Ev (fun k => impl_sumOf.f k l) (sumW l) := by
  have loop : ∀ (d i : Nat) (s : Int), i + d = l.length → Ev (fun k => impl_sumOf.l0 k s l (l.length : Int) i) ((l.drop i).foldl (fun s x => wrap64 (s + x)) s) := by
    intro d
    induction d with
    | zero => exact fun i s hi => Ev.step (fun k => by rw [impl_sumOf.l0]) (evElse (by omega) (evNow (by rw [List.drop_of_length_le (by omega)]; rfl)))
    | succ d ih =>
      intro i s hi
      refine Ev.step (fun k => by rw [impl_sumOf.l0]) (evIf (by omega) (evIf (by omega) (evIf (by omega) ?_)))
      rw [rdNat l i (by omega), dropCons l i (by omega), wnext (n := l.length) (by omega) (by omega), List.foldl_cons]
      exact ih (i + 1) _ (by omega)
  exact loop l.length 0 0 (by omega)
def shrDue (t : Int) (l : List Int) (k : Int) : Int :=
  if shrOk t l = true ∧ 0 ≤ k ∧ k < l.length ∧ sumW l ≠ 0 then wrap64 (Int.tdiv (wrap64 (t * rd l k)) (sumW l)) else 0
theorem spec_shrDue (t : Int) (l : List Int) (x : Int) (h : l.length ≤ 9223372036854775807) : Ev (fun k => spec_ShrDue.f k t l x) (shrDue t l x) := by
  unfold spec_ShrDue.f shrDue
  refine (spec_shrOk t l h).bind ?_
  by_cases ho : shrOk t l = true
  · refine evIf ho (evBindC (l1In_eq _ _ _) ?_)
    rw [w64 (x := (l.length : Int) - 1) (by omega) (by omega)]
    by_cases hx : 0 ≤ x ∧ x < l.length
    · refine evIf (by simp; omega) ((spec_sum l h).bind ?_)
      by_cases hs : sumW l = 0
      · exact evIf hs (evNow (by rw [if_neg (by simp [hs])]))
      · refine evElse hs (evIf hx.1 (evIf hx.2 ((spec_sum l h).bind (evElse hs (evNow ?_)))))
        rw [if_pos ⟨ho, hx.1, hx.2, hs⟩]
    · exact evElse (by simp; omega) (evNow (by rw [if_neg (by omega)]))
  · exact evElse ho (evNow (by rw [if_neg (fun q => ho q.1)]))
theorem impl_shrDue (t : Int) (l : List Int) (x : Int) (h : l.length ≤ 9223372036854775807) : Ev (fun k => impl_ShrDue.f k t l x) (shrDue t l x) := by
  unfold impl_ShrDue.f shrDue
  refine evBindC (show impl_ShrOk.f t l = some (shrOk t l) from rfl) ?_
  by_cases ho : shrOk t l = true
  · refine evIf ho (evBindC (in_eq _ _ _) ?_)
    rw [w64 (x := (l.length : Int) - 1) (by omega) (by omega)]
    by_cases hx : 0 ≤ x ∧ x < l.length
    · refine evIf (by simp; omega) ((impl_sum l h).bind ?_)
      by_cases hs : sumW l = 0
      · exact evIf hs (evNow (by rw [if_neg (by simp [hs])]))
      · refine evElse hs (evIf hx.1 (evIf hx.2 ((impl_sum l h).bind (evElse hs (evNow ?_)))))
        rw [if_pos ⟨ho, hx.1, hx.2, hs⟩]
    · exact evElse (by simp; omega) (evNow (by rw [if_neg (by omega)]))
  · exact evElse ho (evNow (by rw [if_neg (fun q => ho q.1)]))
end Go.Proofs.YtcjpojppbmlfaaaDoor.Pure
set_option linter.unusedVariables false
set_option linter.unusedSimpArgs false
namespace Go.Proofs.YtcjpojppbmlfaaaDoor.Pure
open Go.RowKit Go.Proofs.YtcjpojppbmlfaaaDoor.Pr Go.Proofs.YtcjpojppbmlfaaaDoorW.PrintWords Go.Proofs.YtcjpojppbmlfaaaDoorW.PrintLast Go.Proofs.YtcjpojppbmlfaaaDoorW.PrintMore
theorem sumW_eq (l : List Int) (h : ∀ x ∈ l, 0 ≤ x ∧ x ≤ 10000000000) (hl : l.length ≤ 100) : sumW l = l.sum ∧ 0 ≤ l.sum := by
  have gen : ∀ (l : List Int) (s : Int), (∀ x ∈ l, 0 ≤ x ∧ x ≤ 10000000000) → 0 ≤ s → s + 10000000000 * l.length ≤ 2000000000000 → l.foldl (fun s x => wrap64 (s + x)) s = s + l.sum ∧ 0 ≤ l.sum := by
    intro l
    induction l with
    | nil => intro s _ _ _; simp
    | cons x l ih =>
      intro s hx h0 hb
      obtain ⟨h1, h2⟩ := hx x (by simp)
      simp only [List.length_cons] at hb
      obtain ⟨e, p⟩ := ih (s + x) (fun y hy => hx y (by simp [hy])) (by omega) (by omega)
      rw [List.foldl_cons, w64 (by omega) (by omega), e, List.sum_cons]
      exact ⟨by omega, by omega⟩
  obtain ⟨e, p⟩ := gen l 0 h (by omega) (by omega)
  exact ⟨by unfold sumW; rw [e]; omega, p⟩
theorem quoSum (t s : Int) (hs : 1 ≤ s) : ∀ (ws : List Int), (∀ x ∈ ws, 0 ≤ t * x) → 0 ≤ t * ws.sum - s * (ws.map fun x => Int.tdiv (t * x) s).sum ∧ t * ws.sum - s * (ws.map fun x => Int.tdiv (t * x) s).sum ≤ s * ws.length := by
  intro ws
  induction ws with
  | nil => intro _; simp
  | cons x ws ih =>
    intro h
    obtain ⟨i1, i2⟩ := ih (fun y hy => h y (by simp [hy]))
    have hx := h x (by simp)
    have e := Int.mul_tdiv_add_tmod (t * x) s
    have r1 := Int.tmod_nonneg s hx
    have r2 := Int.tmod_lt_of_pos (t * x) (show 0 < s by omega)
    simp only [List.sum_cons, List.map_cons, List.length_cons]
    rw [Int.mul_add, Int.mul_add, show s * (((ws.length + 1 : Nat) : Int)) = s * (ws.length : Int) + s by rw [Int.natCast_add, Int.mul_add]; simp]
    generalize t * x = a at *
    generalize s * Int.tdiv a s = b at *
    generalize t * ws.sum = c at *
    generalize s * (ws.map fun x => Int.tdiv (t * x) s).sum = d at *
    generalize s * (ws.length : Int) = f at *
    omega
theorem quoLeft (t s : Int) (hs : 1 ≤ s) (ws : List Int) (h : ∀ x ∈ ws, 0 ≤ t * x) (he : ws.sum = s) : 0 ≤ t - (ws.map fun x => Int.tdiv (t * x) s).sum ∧ t - (ws.map fun x => Int.tdiv (t * x) s).sum ≤ ws.length := by
  obtain ⟨h1, h2⟩ := quoSum t s hs ws h
  rw [he, Int.mul_comm t s, ← Int.mul_sub] at h1 h2
  generalize (ws.map fun x => Int.tdiv (t * x) s).sum = q at *
  refine ⟨?_, ?_⟩
  · by_cases hn : 0 ≤ t - q
    · exact hn
    · have : s * (t - q) ≤ s * (-1) := Int.mul_le_mul_of_nonneg_left (by omega) (by omega)
      omega
  · exact Int.le_of_mul_le_mul_left h2 (by omega)
theorem tdivBound (a s : Int) (h0 : 0 ≤ a) (h1 : a ≤ 10000000000) (hs : 1 ≤ s) : 0 ≤ Int.tdiv a s ∧ Int.tdiv a s ≤ 10000000000 := by
  refine ⟨Int.tdiv_nonneg h0 (by omega), ?_⟩
  have := Int.tdiv_le_self s h0
  omega
end Go.Proofs.YtcjpojppbmlfaaaDoor.Pure
set_option linter.unusedVariables false
set_option linter.unusedSimpArgs false
namespace Go.Proofs.YtcjpojppbmlfaaaDoor.Pure
open Go.RowKit Go.Proofs.YtcjpojppbmlfaaaDoor.Pr Go.Proofs.YtcjpojppbmlfaaaDoorW.PrintWords Go.Proofs.YtcjpojppbmlfaaaDoorW.PrintLast Go.Proofs.YtcjpojppbmlfaaaDoorW.PrintMore
theorem shrFacts {t : Int} {l : List Int} (h : shrOk t l = true) : 0 ≤ t ∧ t ≤ 100000 ∧ l.length ≤ 100 ∧ ∀ x ∈ l, 0 ≤ x ∧ x ≤ 100000 := by
  unfold shrOk inB at h
  simp at h
  obtain ⟨⟨h1, h2⟩, h3, h4⟩ := h
  exact ⟨h1, h2, by omega, fun x hx => h4 x hx⟩
theorem prodB {t x : Int} (ht : 0 ≤ t ∧ t ≤ 100000) (hx : 0 ≤ x ∧ x ≤ 100000) : 0 ≤ t * x ∧ t * x ≤ 10000000000 := by
  refine ⟨Int.mul_nonneg ht.1 hx.1, ?_⟩
  have h2 : t * x ≤ 100000 * x := Int.mul_le_mul_of_nonneg_right ht.2 hx.1
  omega
end Go.Proofs.YtcjpojppbmlfaaaDoor.Pure
set_option linter.unusedVariables false
set_option linter.unusedSimpArgs false
namespace Go.Proofs.YtcjpojppbmlfaaaDoor.Pure
open Go.RowKit Go.Proofs.YtcjpojppbmlfaaaDoor.Pr Go.Proofs.YtcjpojppbmlfaaaDoorW.PrintWords Go.Proofs.YtcjpojppbmlfaaaDoorW.PrintLast Go.Proofs.YtcjpojppbmlfaaaDoorW.PrintMore
theorem pwSum (l : List Int) (h : l.length ≤ 9223372036854775807) : Ev (fun k => laws_pwSum.f k l) (sumW l) := by
  unfold laws_pwSum.f sumW
  have loop : ∀ (d i : Nat) (s : Int), i + d = l.length → Ev (fun k => laws_pwSum.l0 k l s i) ((l.drop i).foldl (fun s x => wrap64 (s + x)) s) := by
    intro d
    induction d with
    | zero =>
      intro i s hi
      rw [show i = l.length by omega, List.drop_length]
      refine Ev.step (fun k => by rw [laws_pwSum.l0]) ?_
      exact evElse (by omega) (evNow rfl)
    | succ d ih =>
      intro i s hi
      refine Ev.step (fun k => by rw [laws_pwSum.l0]) ?_
      refine evIf (by omega) ?_
      refine evIf (by omega) ?_
      rw [rdNat l i (by omega), dropCons l i (by omega), wnext (n := l.length) (by omega) (by omega), List.foldl_cons]
      exact ih (i + 1) _ (by omega)
  exact loop l.length 0 0 (by omega)
def dueSum (t s : Int) (l : List Int) : Int := (l.map fun x => Int.tdiv (t * x) s).sum
theorem due_at {t : Int} {l : List Int} (hok : shrOk t l = true) (hs : 1 ≤ sumW l) (i : Nat) (hi : i < l.length) : shrDue t l i = Int.tdiv (t * l[i]) (sumW l) ∧ 0 ≤ Int.tdiv (t * l[i]) (sumW l) ∧ Int.tdiv (t * l[i]) (sumW l) ≤ 10000000000 := by
  obtain ⟨t0, t1, hn, hx⟩ := shrFacts hok
  have p := prodB ⟨t0, t1⟩ (hx _ (List.getElem_mem hi))
  have q := tdivBound (t * l[i]) (sumW l) p.1 p.2 hs
  refine ⟨?_, q⟩
  unfold shrDue
  rw [if_pos ⟨hok, by omega, by omega, by omega⟩, rdNat l i hi, w64 (x := t * l[i]) (by omega) (by omega), w64 (by omega) (by omega)]
theorem dueLess (t s : Int) (hs : 1 ≤ s) : ∀ (ws : List Int), ws ≠ [] → (∀ x ∈ ws, 0 ≤ t * x) → t * ws.sum - s * dueSum t s ws < s * ws.length
  | [], h, _ => absurd rfl h
  | [x], _, hx => by
    have h0 := hx x (by simp)
    have e := Int.tmod_add_mul_tdiv (t * x) s
    have m := Int.tmod_lt_of_pos (t * x) (show 0 < s by omega)
    simp only [dueSum, List.map_cons, List.map_nil, List.sum_cons, List.sum_nil, List.length_singleton, Int.add_zero]
    have : s * ((1 : Nat) : Int) = s := by simp
    rw [this]; omega
  | x :: y :: ws, _, hx => by
    have ih := dueLess t s hs (y :: ws) (by simp) (fun z hz => hx z (by simp [hz]))
    have h0 := hx x (by simp)
    have e := Int.tmod_add_mul_tdiv (t * x) s
    have m := Int.tmod_lt_of_pos (t * x) (show 0 < s by omega)
    have e1 : t * (x :: y :: ws).sum = t * x + t * (y :: ws).sum := by rw [List.sum_cons, Int.mul_add]
    have e2 : s * dueSum t s (x :: y :: ws) = s * Int.tdiv (t * x) s + s * dueSum t s (y :: ws) := by
      show s * ((x :: y :: ws).map _).sum = _
      rw [List.map_cons, List.sum_cons, Int.mul_add]; rfl
    have e3 : s * (((x :: y :: ws).length : Nat) : Int) = s + s * (((y :: ws).length : Nat) : Int) := by
      rw [List.length_cons, Int.natCast_add, Int.mul_add]; simp; omega
    rw [e1, e2, e3]; omega
theorem sumPos {t : Int} {l : List Int} (hok : shrOk t l = true) : sumW l = l.sum ∧ 0 ≤ l.sum := by
  obtain ⟨t0, t1, hn, hx⟩ := shrFacts hok
  exact sumW_eq l (fun x hx' => ⟨(hx x hx').1, by have := (hx x hx').2; omega⟩) hn
theorem dueTotal {t : Int} {l : List Int} (hok : shrOk t l = true) (h1 : 1 ≤ sumW l) : dueSum t (sumW l) l ≤ t ∧ t - (l.length : Int) < dueSum t (sumW l) l := by
  obtain ⟨t0, t1, hn, hx⟩ := shrFacts hok
  have hp : ∀ x ∈ l, 0 ≤ t * x := fun x hx' => (prodB ⟨t0, t1⟩ (hx x hx')).1
  have he := (sumPos hok).1
  have a := quoLeft t (sumW l) h1 l hp he.symm
  refine ⟨by unfold dueSum; omega, ?_⟩
  have hne : l ≠ [] := by rintro rfl; simp [sumW] at h1
  have b := dueLess t (sumW l) h1 l hne hp
  rw [← he] at b
  have e : t * sumW l - sumW l * dueSum t (sumW l) l = sumW l * (t - dueSum t (sumW l) l) := by rw [Int.mul_sub, Int.mul_comm t]
  rw [e] at b
  have := Int.lt_of_mul_lt_mul_left b (show 0 ≤ sumW l by omega)
  omega
end Go.Proofs.YtcjpojppbmlfaaaDoor.Pure
set_option linter.unusedVariables false
set_option linter.unusedSimpArgs false
namespace Go.Proofs.YtcjpojppbmlfaaaDoor.Pure
open Go.RowKit Go.Proofs.YtcjpojppbmlfaaaDoor.Pr Go.Proofs.YtcjpojppbmlfaaaDoorW.PrintWords Go.Proofs.YtcjpojppbmlfaaaDoorW.PrintLast Go.Proofs.YtcjpojppbmlfaaaDoorW.PrintMore
theorem FnShrDue (l : List Int) (h : l.length ≤ 9223372036854775807 ∧ ∀ x ∈ l, (Lit.int .u8 x).wf = true) : ∃ k, laws_FnShrDue.f k l = some true := by
  apply Run.get
  unfold laws_FnShrDue.f
  refine Run.ite (fun _ => Run.ret rfl) fun hbig => ?_
  have draw : Run (fun k => spec_DrawShrDue.f k l) (fun r => r.2.1.length ≤ 9) := by
    unfold spec_DrawShrDue.f
    exact Run.bind (drawShr l h.2) fun r hr => Run.ret hr
  refine Run.bind draw fun d hd => ?_
  obtain ⟨t, w, q⟩ := d
  have hw : w.length ≤ 9 := hd
  refine Run.evBind (impl_shrDue t w q (by omega)) (Run.evBind (spec_shrDue t w q (by omega)) (Run.pos rfl ?_))
  show Run (fun k => laws_FnShrDue.l0 k t w 0 0) (· = true)
  have fin : Run (fun k => laws_FnShrDue.j1 k t w 0 true) (· = true) := by
    refine Run.step (fun k => by rw [laws_FnShrDue.j1]) (Run.pos rfl (Run.pos rfl (Run.evBind pwOk (Run.ret rfl))))
  have ps := pwSum w (by omega)
  by_cases hok : shrOk t w = true
  case neg =>
    have loop : ∀ (d i : Nat), i + d = w.length → Run (fun k => laws_FnShrDue.l0 k t w 0 i) (· = true) := by
      intro d
      induction d with
      | zero =>
        intro i hi
        refine Run.step (fun k => by rw [laws_FnShrDue.l0]) (Run.neg (by omega) (Run.evBind (spec_shrOk t w (by omega)) (Run.neg hok fin)))
      | succ d ih =>
        intro i hi
        have e : shrDue t w i = 0 := by unfold shrDue; rw [if_neg (fun q => hok q.1)]
        have hi' := impl_shrDue t w i (by omega)
        rw [e] at hi'
        refine Run.step (fun k => by rw [laws_FnShrDue.l0]) (Run.pos (by omega) (Run.evBind hi' ?_))
        rw [wnext (n := w.length) (by omega) (by omega), show wrap64 ((0 : Int) + 0) = 0 from by rw [w64 (by omega) (by omega)]; rfl]
        exact ih (i + 1) (by omega)
    exact loop w.length 0 (by omega)
  obtain ⟨se, s0⟩ := sumPos hok
  by_cases hs : sumW w = 0
  · have loop : ∀ (d i : Nat), i + d = w.length → Run (fun k => laws_FnShrDue.l0 k t w 0 i) (· = true) := by
      intro d
      induction d with
      | zero =>
        intro i hi
        refine Run.step (fun k => by rw [laws_FnShrDue.l0]) (Run.neg (by omega) (Run.evBind (spec_shrOk t w (by omega)) (Run.pos hok (Run.evBind ps ?_))))
        rw [hs]; exact fin
      | succ d ih =>
        intro i hi
        have e : shrDue t w i = 0 := by unfold shrDue; rw [if_neg (fun q => q.2.2.2 hs)]
        have hi' := impl_shrDue t w i (by omega)
        rw [e] at hi'
        refine Run.step (fun k => by rw [laws_FnShrDue.l0]) (Run.pos (by omega) (Run.evBind hi' ?_))
        rw [wnext (n := w.length) (by omega) (by omega), show wrap64 ((0 : Int) + 0) = 0 from by rw [w64 (by omega) (by omega)]; rfl]
        exact ih (i + 1) (by omega)
    exact loop w.length 0 (by omega)
  · have h1 : 1 ≤ sumW w := by omega
    obtain ⟨d1, d2⟩ := dueTotal hok h1
    obtain ⟨t0, t1, hn, hx⟩ := shrFacts hok
    have loop : ∀ (d i : Nat) (n : Int), i + d = w.length → 0 ≤ n → n ≤ 10000000000 * i → n + dueSum t (sumW w) (w.drop i) = dueSum t (sumW w) w → Run (fun k => laws_FnShrDue.l0 k t w n i) (· = true) := by
      intro d
      induction d with
      | zero =>
        intro i n hi hn0 hn1 he
        have hdr : w.drop i = [] := by rw [show i = w.length by omega]; exact List.drop_length
        rw [hdr] at he
        have hz : dueSum t (sumW w) [] = 0 := rfl
        rw [hz] at he
        have e1 : wrap64 (t - (w.length : Int)) = t - (w.length : Int) := w64 (by omega) (by omega)
        have m1 := impl_shrDue t w (-1) (by omega)
        have m2 := impl_shrDue t w (w.length : Int) (by omega)
        rw [show shrDue t w (-1) = 0 by unfold shrDue; rw [if_neg (by omega)]] at m1
        rw [show shrDue t w (w.length : Int) = 0 by unfold shrDue; rw [if_neg (by omega)]] at m2
        refine Run.step (fun k => by rw [laws_FnShrDue.l0]) (Run.neg (by omega) (Run.evBind (spec_shrOk t w (by omega)) (Run.pos hok (Run.evBind ps ?_))))
        have eb : (sumW w == 0) = false := beq_eq_false_iff_ne.mpr hs
        rw [eb]
        refine Run.step (fun k => by rw [laws_FnShrDue.j1]) (Run.neg (by simp) (Run.pos (by omega) ?_))
        rw [e1]
        exact Run.pos (by omega) (Run.evBind m1 (Run.pos rfl (Run.evBind m2 (Run.ret rfl))))
      | succ d ih =>
        intro i n hi hn0 hn1 he
        have hlt : i < w.length := by omega
        obtain ⟨q1, q2, q3⟩ := due_at hok h1 i hlt
        have hi' := impl_shrDue t w i (by omega)
        rw [q1] at hi'
        refine Run.step (fun k => by rw [laws_FnShrDue.l0]) (Run.pos (by omega) (Run.evBind hi' ?_))
        rw [wnext (n := w.length) (by omega) (by omega), w64 (x := n + Int.tdiv (t * w[i]) (sumW w)) (by omega) (by omega)]
        refine ih (i + 1) _ (by omega) (by omega) (by omega) ?_
        rw [dropCons w i hlt] at he
        have : dueSum t (sumW w) (w[i] :: w.drop (i + 1)) = Int.tdiv (t * w[i]) (sumW w) + dueSum t (sumW w) (w.drop (i + 1)) := by unfold dueSum; rw [List.map_cons, List.sum_cons]
        omega
    exact loop w.length 0 0 (by omega) (by omega) (by omega) (by simp)
end Go.Proofs.YtcjpojppbmlfaaaDoor.Pure
