/- The plain laws that the claim of 'FnCellOk' leans on. -/
import Derived.Test.YtldmepofbkcmnaaDoorFnCellOkPr0
import Derived.ProofKit
import Derived.OpenShut
import Derived.ShutString
import Derived.ChangeOld
import Derived.Below
import Derived.SizedLaws
import Derived.DataElems
import Derived.Test.YtldmepofbkcmnaaDoorFnCellOkPr35
import Derived.Test.YtldmepofbkcmnaaDoorFnCellOkPr38
import Derived.Test.YtldmepofbkcmnaaDoorFnCellOkQCut
import Derived.Lib.LazyBuf
import Derived.Test.YtldmepofbkcmnaaDoorFnCellOkPr34
import Derived.Test.YtldmepofbkcmnaaDoorFnCellOkPr48
import Derived.Test.YtldmepofbkcmnaaDoorFnCellOkPr60
import Derived.Test.YtldmepofbkcmnaaDoorFnCellOkPr43
import Derived.Test.YtldmepofbkcmnaaDoorFnCellOkPr41
import Derived.Test.YtldmepofbkcmnaaDoorFnCellOkPr45
import Derived.Test.YtldmepofbkcmnaaDoorFnCellOkPr25
import Derived.Test.YtldmepofbkcmnaaDoorFnCellOkPr26
import Derived.Test.YtldmepofbkcmnaaDoorFnCellOkPr37
import Derived.Test.YtldmepofbkcmnaaDoorFnCellOkPr40
import Derived.Test.YtldmepofbkcmnaaDoorFnCellOkPr29
import Derived.Test.YtldmepofbkcmnaaDoorFnCellOkPr44
import Derived.Test.YtldmepofbkcmnaaDoorFnCellOkPr46
import Derived.Test.YtldmepofbkcmnaaDoorFnCellOkPr30
import Derived.Test.YtldmepofbkcmnaaDoorFnCellOkPr31
import Derived.Test.YtldmepofbkcmnaaDoorFnCellOkPr28
import Derived.Test.YtldmepofbkcmnaaDoorFnCellOkPr9
set_option linter.unusedVariables false
set_option linter.unusedSimpArgs false
namespace Go.Proofs.YtldmepofbkcmnaaDoor.Pure
open Go.RowKit Go.Proofs.YtldmepofbkcmnaaDoor.Pr Go.Proofs.YtldmepofbkcmnaaDoorW.PrintWords Go.Proofs.YtldmepofbkcmnaaDoorW.PrintLast Go.Proofs.YtldmepofbkcmnaaDoorW.PrintMore
section
variable {H : Type} {enc : TypeId × Value → H} {P : Program} {W : World} {α β γ : Type}
structure Opens (enc : TypeId × Value → H) (P : Program) (W : World) (t : TypeId) (d : Kd α) (I : α → Prop) : Prop where
  out : ∀ (fuel : Nat) (cs : List Value) (x : DataW H × List MemPlace), DataW.trod enc P W 0 (fun _ => true) true fuel t cs = some x → ∃ y, d.K W y cs ∧ I y
theorem opens_int {t : TypeId} {k : IntKind} (hu : P.underlying t = some (.int k)) : Opens enc P W t (Kd.int k) (fun n => (Lit.int k n).wf = true) := ⟨by
  intro fuel cs x h
  cases fuel with
  | zero => simp [DataW.trod] at h
  | succ fuel =>
    simp only [DataW.trod, hu] at h
    split at h <;> simp_all
    exact ⟨_, rfl, h.1.2⟩⟩
theorem mapM_get {δ ε : Type} {f : δ → Option ε} : ∀ {xs : List δ} {ys : List ε}, xs.mapM f = some ys → ys.length = xs.length ∧ ∀ (j : Nat) x, xs[j]? = some x → ∃ y, ys[j]? = some y ∧ f x = some y
  | [], ys, h => by simp at h; subst h; simp
  | a :: xs, ys, h => by
    rw [List.mapM_cons] at h
    simp only [Option.bind_eq_bind, Option.bind_eq_some_iff, Option.pure_def, Option.some.injEq] at h
    obtain ⟨b, hb, zs, hz, rfl⟩ := h
    obtain ⟨h1, h2⟩ := mapM_get hz
    refine ⟨by simp [h1], ?_⟩
    intro j x hx
    cases j with
    | zero => simp at hx; subst hx; exact ⟨b, by simp, hb⟩
    | succ j => simpa using h2 j x (by simpa using hx)
theorem list_of {len : Nat} {Q : Nat → α → Prop} (h : ∀ j, j < len → ∃ y, Q j y) : ∃ ys : List α, ys.length = len ∧ ∀ (j : Nat) y, ys[j]? = some y → Q j y := by
  induction len with
  | zero => exact ⟨[], rfl, by simp⟩
  | succ n ih =>
    obtain ⟨ys, hl, hq⟩ := ih (fun j hj => h j (by omega))
    obtain ⟨y, hy⟩ := h n (by omega)
    refine ⟨ys ++ [y], by simp [hl], ?_⟩
    intro j z hz
    by_cases hj : j < ys.length
    · rw [List.getElem?_append_left hj] at hz; exact hq j z hz
    · rw [List.getElem?_append_right (by omega)] at hz
      have e : j - ys.length = 0 := by
        rcases Nat.eq_zero_or_pos (j - ys.length) with h0 | h0
        · exact h0
        · rw [List.getElem?_eq_none (by simp; omega)] at hz; cases hz
      rw [e] at hz
      simp at hz
      subst hz
      have : j = n := by omega
      subst this; exact hy
theorem cells_at {base : Nat} {a : Addr} {n : Nat} {c : List Value} (h : W.cells? base a n = some c) (i : Nat) (u : Value) (hu : c[i]? = some u) : W.cell? (a.add i) = some u := by
  unfold World.cells? at h
  split at h
  · obtain ⟨hl, hg⟩ := mapM_get h
    rw [List.length_range] at hl
    have hi : i < n := by rw [← hl]; exact (List.getElem?_eq_some_iff.1 hu).1
    obtain ⟨y, hy, hc⟩ := hg i i (by rw [List.getElem?_range hi])
    rw [hy] at hu
    cases hu
    exact hc
  · cases h
theorem opens_slice {t e : TypeId} {d : Kd α} {I : α → Prop} (hu : P.underlying t = some (.slice e)) (hc : P.cellsOf e = d.sz) (h : Opens enc P W e d I) : Opens enc P W t (Kd.slice e d) (fun xs => xs.length ≤ 9223372036854775807 ∧ ∀ x ∈ xs, I x) := ⟨by
  intro fuel cs x hx
  cases fuel with
  | zero => simp [DataW.trod] at hx
  | succ fuel =>
    unfold DataW.trod at hx
    rw [hu] at hx
    split at hx
    all_goals first | (rename_i heq; cases heq; done) | (rename_i heq _; cases heq; done) | (cases hx; done) | skip
    · exact ⟨[], ⟨none, 0, rfl, Nat.le_refl _, Kd.C_nil d W⟩, by simp, by simp⟩
    · rename_i e' a len cap heq
      injection heq with heq
      injection heq with heq
      subst heq
      dsimp only at hx
      split at hx
      · rename_i hlc
        obtain ⟨_, hle, hmax⟩ := hlc
        simp only [Option.bind_eq_some_iff, Option.map_eq_some_iff] at hx
        obtain ⟨elems, hel, _, _, _⟩ := hx
        obtain ⟨hlen, hget⟩ := mapM_get hel
        rw [List.length_range] at hlen
        obtain ⟨ys, hyl, hyq⟩ := list_of (len := len) (Q := fun j y => I y ∧ ∃ c, c.length = d.sz ∧ d.K W y c ∧ ∀ (i : Nat) u, c[i]? = some u → W.cell? (a.add (j * d.sz + i)) = some u) (by
          intro j hj
          obtain ⟨y, _, hy⟩ := hget j j (by rw [List.getElem?_range hj])
          rw [Option.bind_eq_some_iff] at hy
          obtain ⟨c, hcs, hy⟩ := hy
          obtain ⟨y', hK, hI⟩ := h.out fuel c _ hy
          refine ⟨y', hI, c, d.K_len hK, hK, ?_⟩
          intro i u hi
          rw [hc] at hcs
          have := cells_at hcs i u hi
          rw [Addr.add_add] at this
          exact this)
        refine ⟨ys, ⟨some a, cap, by rw [hyl], by omega, hyl ▸ rfl, by unfold maxLen at hmax; omega, fun _ => ⟨a, rfl, fun j p hj => (hyq j p hj).2⟩⟩, by unfold maxLen at hmax; omega, ?_⟩
        intro x hx
        obtain ⟨j, hj⟩ := List.getElem?_of_mem hx
        exact (hyq j x hj).1
      · cases hx⟩
theorem Opens.imp {t : TypeId} {d : Kd α} {I I' : α → Prop} (h : Opens enc P W t d I) (hi : ∀ x, I x → I' x) : Opens enc P W t d I' := ⟨fun fuel cs x hx => by
  obtain ⟨y, a, b⟩ := h.out fuel cs x hx
  exact ⟨y, a, hi y b⟩⟩
end
end Go.Proofs.YtldmepofbkcmnaaDoor.Pure
set_option linter.unusedVariables false
set_option linter.unusedSimpArgs false
namespace Go.Proofs.YtldmepofbkcmnaaDoor.Pure
open Go.RowKit Go.Proofs.YtldmepofbkcmnaaDoor.Pr Go.Proofs.YtldmepofbkcmnaaDoorW.PrintWords Go.Proofs.YtldmepofbkcmnaaDoorW.PrintLast Go.Proofs.YtldmepofbkcmnaaDoorW.PrintMore
theorem evIf {α : Type} {c : Prop} [Decidable c] {g f : Nat → Option α} {r : α} (hc : c) (h : Ev g r) : Ev (fun k => if c then g k else f k) r :=
  Ev.congr (fun _ => if_pos hc) h
theorem evElse {α : Type} {c : Prop} [Decidable c] {g f : Nat → Option α} {r : α} (hc : ¬ c) (h : Ev f r) : Ev (fun k => if c then g k else f k) r :=
  Ev.congr (fun _ => if_neg hc) h
theorem evNow {α : Type} {g : Option α} {r : α} (h : g = some r) : Ev (fun _ => g) r := ⟨0, fun _ _ => h⟩
theorem evBindC {α β : Type} {g : Option α} {f : Nat → α → Option β} {a : α} {r : β} (h : g = some a) (k : Ev (fun n => f n a) r) : Ev (fun n => g.bind (f n)) r := by
  subst h; exact k
theorem w64 {x : Int} (h : -9223372036854775808 ≤ x) (h2 : x ≤ 9223372036854775807) : wrap64 x = x := by unfold wrap64; omega
def Run {α : Type} (g : Nat → Option α) (Q : α → Prop) : Prop := ∃ r, Ev g r ∧ Q r
theorem Run.ret {α : Type} {r : α} {Q : α → Prop} (h : Q r) : Run (fun _ => some r) Q := ⟨r, Ev.now r, h⟩
theorem Run.bind {α β : Type} {g : Nat → Option α} {f : Nat → α → Option β} {Q : α → Prop} {R : β → Prop} (h : Run g Q) (k : ∀ a, Q a → Run (fun n => f n a) R) : Run (fun n => (g n).bind (f n)) R := by
  obtain ⟨a, ha, qa⟩ := h
  obtain ⟨b, hb, rb⟩ := k a qa
  exact ⟨b, ha.bind hb, rb⟩
theorem Run.evBind {α β : Type} {g : Nat → Option α} {f : Nat → α → Option β} {a : α} {R : β → Prop} (h : Ev g a) (k : Run (fun n => f n a) R) : Run (fun n => (g n).bind (f n)) R := by
  obtain ⟨b, hb, rb⟩ := k
  exact ⟨b, h.bind hb, rb⟩
theorem Run.some {α β : Type} {a : α} {f : Nat → α → Option β} {R : β → Prop} (k : Run (fun n => f n a) R) : Run (fun n => (Option.some a).bind (f n)) R := k
theorem Run.constBind {α β : Type} {g : Option α} {f : Nat → α → Option β} {a : α} {R : β → Prop} (h : g = Option.some a) (k : Run (fun n => f n a) R) : Run (fun n => g.bind (f n)) R := by subst h; exact k
theorem Run.ite {α : Type} {c : Prop} [Decidable c] {g f : Nat → Option α} {Q : α → Prop} (h : c → Run g Q) (k : ¬ c → Run f Q) : Run (fun n => if c then g n else f n) Q := by
  by_cases hc : c
  · obtain ⟨r, e, q⟩ := h hc; exact ⟨r, evIf hc e, q⟩
  · obtain ⟨r, e, q⟩ := k hc; exact ⟨r, evElse hc e, q⟩
theorem Run.pos {α : Type} {c : Prop} [Decidable c] {g f : Nat → Option α} {Q : α → Prop} (hc : c) (h : Run g Q) : Run (fun n => if c then g n else f n) Q := Run.ite (fun _ => h) (fun k => absurd hc k)
theorem Run.neg {α : Type} {c : Prop} [Decidable c] {g f : Nat → Option α} {Q : α → Prop} (hc : ¬ c) (h : Run f Q) : Run (fun n => if c then g n else f n) Q := Run.ite (fun k => absurd k hc) (fun _ => h)
theorem Run.step {α : Type} {g f : Nat → Option α} {Q : α → Prop} (h : ∀ k, g (k + 1) = f k) (k : Run f Q) : Run g Q := by
  obtain ⟨r, e, q⟩ := k; exact ⟨r, Ev.step h e, q⟩
theorem Run.imp {α : Type} {g : Nat → Option α} {Q R : α → Prop} (h : Run g Q) (k : ∀ r, Q r → R r) : Run g R := by
  obtain ⟨r, e, q⟩ := h; exact ⟨r, e, k r q⟩
theorem Run.get {α : Type} {g : Nat → Option α} {r : α} (h : Run g (· = r)) : ∃ k, g k = Option.some r := by
  obtain ⟨r', e, rfl⟩ := h; exact e.rounds
theorem Run.ev {α : Type} {g : Nat → Option α} {r : α} (h : Run g (· = r)) : Ev g r := by
  obtain ⟨r', e, rfl⟩ := h; exact e
theorem Ev.run {α : Type} {g : Nat → Option α} {r : α} (h : Ev g r) : Run g (· = r) := ⟨r, h, rfl⟩
theorem wfb {n : Int} (h : (Lit.int .u8 n).wf = true) : 0 ≤ n ∧ n ≤ 255 := by
  simp [Lit.wf, IntKind.min, IntKind.max, IntKind.bits, IntKind.signed] at h; omega
end Go.Proofs.YtldmepofbkcmnaaDoor.Pure
set_option linter.unusedVariables false
set_option linter.unusedSimpArgs false
namespace Go.Proofs.YtldmepofbkcmnaaDoor.Pure
open Go.RowKit Go.Proofs.YtldmepofbkcmnaaDoor.Pr Go.Proofs.YtldmepofbkcmnaaDoorW.PrintWords Go.Proofs.YtldmepofbkcmnaaDoorW.PrintLast Go.Proofs.YtldmepofbkcmnaaDoorW.PrintMore
theorem ofInt_i64 (a : Nat) (ha : a < 18446744073709551616) : (BitVec.ofInt 64 (a : Int)).toNat = a := by
  rw [BitVec.ofInt_natCast, BitVec.toNat_ofNat]; exact Nat.mod_eq_of_lt (by omega)
theorem xor_i64 (a b : Int) (h1 : 0 ≤ a) (h2 : a < 4611686018427387904) (h3 : 0 ≤ b) (h4 : b < 4611686018427387904) : 0 ≤ Go.bits .xor .i64 a b := by
  obtain ⟨A, rfl⟩ := Int.eq_ofNat_of_zero_le h1
  obtain ⟨B, rfl⟩ := Int.eq_ofNat_of_zero_le h3
  have hx : A ^^^ B < 2 ^ 62 := Nat.xor_lt_two_pow (by omega) (by omega)
  have e : Go.bits .xor .i64 (A : Int) (B : Int) = IntKind.i64.wrap ((BitVec.ofInt 64 (A : Int) ^^^ BitVec.ofInt 64 (B : Int)).toNat : Int) := rfl
  rw [e, BitVec.toNat_xor, ofInt_i64 A (by omega), ofInt_i64 B (by omega), IntKind.wrap_i64]
  omega
theorem tmod_range (a n : Int) (h : 0 ≤ a) (hn : 1 ≤ n) : 0 ≤ Int.tmod a n ∧ Int.tmod a n < n := by
  rw [Int.tmod_eq_emod_of_nonneg h]; exact ⟨Int.emod_nonneg _ (by omega), Int.emod_lt_of_pos _ (by omega)⟩
def Bytes (b : List Int) : Prop := b.length ≤ 2000 ∧ ∀ x ∈ b, 0 ≤ x ∧ x ≤ 255
theorem Bytes.at_ {b : List Int} (h : Bytes b) (i : Int) : 0 ≤ rd b i ∧ rd b i ≤ 255 := by
  unfold rd
  rw [List.getD_eq_getElem?_getD]
  cases e : b[i.toNat]? with
  | none => simp
  | some x => simpa using h.2 x (List.mem_of_getElem? e)
def LIMP : Int := 1099511627776
theorem pick_run {b : List Int} (hb : Bytes b) {p n : Int} (hp : 0 ≤ p) (hp2 : p < LIMP) : Run (fun k => spec_l20Rd_pick.f k b p n) (fun r => 0 ≤ r.1 ∧ (1 ≤ n → r.1 < n) ∧ (n < 1 → r.1 = 0) ∧ r.2 = p + 1) := by
  unfold LIMP at hp2
  have hl := hb.1
  have w1 : wrap64 (p + 1) = p + 1 := w64 (by omega) (by omega)
  have w2 : wrap64 (p + 1 - 1) = p := by rw [w64 (by omega) (by omega)]; omega
  unfold spec_l20Rd_pick.f
  by_cases hn : n < 1
  · refine Run.pos hn (Run.step (fun k => by rw [spec_l20Rd_pick.j0]) (Run.pos rfl (Run.ret ?_)))
    rw [w1]; exact ⟨by omega, by omega, fun _ => rfl, rfl⟩
  · refine Run.neg hn (Run.step (fun k => by rw [spec_l20Rd_pick.j0]) ?_)
    by_cases h0 : b.length = 0
    · refine Run.pos (by simp [h0]) (Run.ret ?_)
      rw [w1]; exact ⟨by omega, by omega, by omega, rfl⟩
    · refine Run.neg (by simp; intro h; simp [h] at h0) ?_
      rw [w1, w2]
      by_cases hlt : p < (b.length : Int)
      · refine Run.pos hlt (Run.pos hp (Run.neg (by omega) (Run.ret ?_)))
        obtain ⟨r0, r1⟩ := hb.at_ p
        rw [w64 (by omega) (by omega)]
        obtain ⟨m0, m1⟩ := tmod_range (rd b p) n r0 (by omega)
        exact ⟨m0, fun _ => m1, by omega, rfl⟩
      · have hL : (1 : Int) ≤ b.length := by omega
        have e7 : wrap64 (wrap64 (p * 7) + 3) = p * 7 + 3 := by rw [w64 (x := p * 7) (by omega) (by omega), w64 (by omega) (by omega)]
        rw [e7]
        obtain ⟨a0, a1⟩ := tmod_range p b.length hp hL
        obtain ⟨c0, c1⟩ := tmod_range (p * 7 + 3) b.length (by omega) hL
        refine Run.neg hlt (Run.neg (by omega) (Run.pos a0 (Run.pos a1 (Run.pos c0 (Run.pos c1 (Run.neg (by omega) (Run.ret ?_)))))))
        obtain ⟨x0, x1⟩ := hb.at_ (Int.tmod p b.length)
        obtain ⟨y0, y1⟩ := hb.at_ (Int.tmod (p * 7 + 3) b.length)
        have ed : Int.tdiv p (b.length : Int) = p / (b.length : Int) := Int.tdiv_eq_ediv_of_nonneg hp
        have d0 : 0 ≤ p / (b.length : Int) := Int.ediv_nonneg hp (by omega)
        have d1 : p / (b.length : Int) ≤ p := Int.ediv_le_self _ hp
        rw [ed]
        generalize p / (b.length : Int) = q at d0 d1 ⊢
        generalize rd b (Int.tmod p b.length) = x at x0 x1 ⊢
        generalize rd b (Int.tmod (p * 7 + 3) b.length) = y at y0 y1 ⊢
        have eX : wrap64 (wrap64 (wrap64 (wrap64 (wrap64 x * 131) + wrap64 (wrap64 y * 1117)) + wrap64 (p * 29)) + wrap64 (wrap64 q * 53)) = x * 131 + y * 1117 + p * 29 + q * 53 := by
          rw [w64 (x := x) (by omega) (by omega), w64 (x := y) (by omega) (by omega), w64 (x := q) (by omega) (by omega), w64 (x := x * 131) (by omega) (by omega), w64 (x := y * 1117) (by omega) (by omega), w64 (x := p * 29) (by omega) (by omega), w64 (x := q * 53) (by omega) (by omega), w64 (x := x * 131 + y * 1117) (by omega) (by omega), w64 (x := x * 131 + y * 1117 + p * 29) (by omega) (by omega), w64 (by omega) (by omega)]
        rw [eX]
        generalize hX : x * 131 + y * 1117 + p * 29 + q * 53 = X
        have X0 : 0 ≤ X := by omega
        have X1 : X < 4611686018427387904 := by omega
        have et : Int.tdiv X 64 = X / 64 := Int.tdiv_eq_ediv_of_nonneg X0
        rw [et, w64 (x := X / 64) (by omega) (by omega)]
        obtain ⟨m0, m1⟩ := tmod_range _ n (xor_i64 X (X / 64) X0 X1 (by omega) (by omega)) (by omega)
        exact ⟨m0, fun _ => m1, by omega, rfl⟩
theorem open_eq (l : List Int) (h : ∀ x ∈ l, (Lit.int .u8 x).wf = true) : ∃ b, spec_l20Open.f l = some (b, 0) ∧ Bytes b := by
  unfold spec_l20Open.f
  have hb : ∀ x ∈ l, 0 ≤ x ∧ x ≤ 255 := fun x hx => wfb (h x hx)
  by_cases hl : (l.length : Int) > 2000
  · refine ⟨_, by rw [if_pos hl, if_pos (by omega)], by simp; omega, fun x hx => hb x (List.mem_of_mem_take hx)⟩
  · exact ⟨_, by rw [if_neg hl], by omega, hb⟩
end Go.Proofs.YtldmepofbkcmnaaDoor.Pure
set_option linter.unusedVariables false
set_option linter.unusedSimpArgs false
namespace Go.Proofs.YtldmepofbkcmnaaDoor.Pure
open Go.RowKit Go.Proofs.YtldmepofbkcmnaaDoor.Pr Go.Proofs.YtldmepofbkcmnaaDoorW.PrintWords Go.Proofs.YtldmepofbkcmnaaDoorW.PrintLast Go.Proofs.YtldmepofbkcmnaaDoorW.PrintMore
theorem wnext {n i : Nat} (h : i < n) (hn : n ≤ 9223372036854775807) : wrap64 ((i : Int) + 1) = ((i + 1 : Nat) : Int) := by
  rw [w64 (by omega) (by omega)]; omega
theorem dropCons {α : Type} (l : List α) (i : Nat) (h : i < l.length) : l.drop i = l[i] :: l.drop (i + 1) := List.drop_eq_getElem_cons h
end Go.Proofs.YtldmepofbkcmnaaDoor.Pure
set_option linter.unusedVariables false
set_option linter.unusedSimpArgs false
namespace Go.Proofs.YtldmepofbkcmnaaDoor.Pure
open Go.RowKit Go.Proofs.YtldmepofbkcmnaaDoor.Pr Go.Proofs.YtldmepofbkcmnaaDoorW.PrintWords Go.Proofs.YtldmepofbkcmnaaDoorW.PrintLast Go.Proofs.YtldmepofbkcmnaaDoorW.PrintMore
def bl (s : ByteArray) : List UInt8 := s.data.toList
theorem bl_len (s : ByteArray) : s.size = (bl s).length := Go.Lib.size_eq s
theorem bl_mk (l : List UInt8) : bl (⟨l.toArray⟩ : ByteArray) = l := rfl
theorem bt_bl (s : ByteArray) (i : Nat) (h : i < (bl s).length) : bt s (i : Int) = ((bl s)[i].toNat : Int) := by
  unfold bt
  have hs : i < s.size := by rw [bl_len]; exact h
  rw [Int.toNat_natCast, dif_pos hs]
  rfl
theorem rdS (l : List ByteArray) (i : Nat) (h : i < l.length) : rdOf ByteArray.empty l (i : Int) = l[i] := by unfold rdOf; simp [h]
theorem toList_nil (s : ByteArray) : s.toList = [] ↔ bl s = [] := by rw [Go.Lib.toList_data]; rfl
end Go.Proofs.YtldmepofbkcmnaaDoor.Pure
set_option linter.unusedVariables false
set_option linter.unusedSimpArgs false
namespace Go.Proofs.YtldmepofbkcmnaaDoor.Pure
open Go.RowKit Go.Proofs.YtldmepofbkcmnaaDoor.Pr Go.Proofs.YtldmepofbkcmnaaDoorW.PrintWords Go.Proofs.YtldmepofbkcmnaaDoorW.PrintLast Go.Proofs.YtldmepofbkcmnaaDoorW.PrintMore
theorem wordSize (t : Int) (h0 : 0 ≤ t) (h : t < 7) : (rdOf ByteArray.empty (([(⟨#[97]⟩ : ByteArray), (⟨#[97, 110]⟩ : ByteArray), (⟨#[116, 104, 101]⟩ : ByteArray), (⟨#[111, 118, 101, 114]⟩ : ByteArray), (⟨#[117, 110, 100, 101, 114]⟩ : ByteArray), (⟨#[109, 101, 97, 100, 111, 119]⟩ : ByteArray), (⟨#[108, 105, 103, 104, 116, 104, 111, 117, 115, 101]⟩ : ByteArray)] : List ByteArray)) t).size ≤ 10 := by
  have : t = 0 ∨ t = 1 ∨ t = 2 ∨ t = 3 ∨ t = 4 ∨ t = 5 ∨ t = 6 := by omega
  rcases this with e | e | e | e | e | e | e <;> rw [e] <;> decide
theorem badSize (t : Int) (h0 : 0 ≤ t) (h : t < 7) : (rdOf ByteArray.empty (([(⟨#[32]⟩ : ByteArray), (⟨#[32, 32]⟩ : ByteArray), (⟨#[65]⟩ : ByteArray), (⟨#[49]⟩ : ByteArray), (⟨#[45]⟩ : ByteArray), (⟨#[0]⟩ : ByteArray), (⟨#[97, 98, 99, 100, 101, 102, 103, 104, 105, 106, 97, 98, 99, 100, 101, 102, 103, 104, 105, 106, 97, 98, 99, 100, 101, 102, 103, 104, 105, 106, 120]⟩ : ByteArray)] : List ByteArray)) t).size ≤ 31 := by
  have : t = 0 ∨ t = 1 ∨ t = 2 ∨ t = 3 ∨ t = 4 ∨ t = 5 ∨ t = 6 := by omega
  rcases this with e | e | e | e | e | e | e <;> rw [e] <;> decide
theorem text_run {b : List Int} (hb : Bytes b) {p : Int} (hp : 0 ≤ p) (hp2 : p + 8 < LIMP) : Run (fun k => spec_l20Text.f k b p) (fun r => r.1.size ≤ 30 ∧ p ≤ r.2 ∧ r.2 ≤ p + 6) := by
  unfold spec_l20Text.f
  refine Run.bind (pick_run hb (n := 6) hp (by omega)) fun r0 h0 => ?_
  obtain ⟨a0, a1, _, a2⟩ := h0
  generalize hW : (([(⟨#[97]⟩ : ByteArray), (⟨#[97, 110]⟩ : ByteArray), (⟨#[116, 104, 101]⟩ : ByteArray), (⟨#[111, 118, 101, 114]⟩ : ByteArray), (⟨#[117, 110, 100, 101, 114]⟩ : ByteArray), (⟨#[109, 101, 97, 100, 111, 119]⟩ : ByteArray), (⟨#[108, 105, 103, 104, 116, 104, 111, 117, 115, 101]⟩ : ByteArray)] : List ByteArray)) = W
  have hWl : W.length = 7 := by rw [← hW]; rfl
  have hWs : ∀ t : Int, 0 ≤ t → t < 7 → (rdOf ByteArray.empty W t).size ≤ 10 := by rw [← hW]; exact wordSize
  clear hW
  have loop : ∀ (d : Nat) (s : ByteArray) (q : Int), d ≤ 5 → s.size ≤ 30 → 0 ≤ q → q + (d : Int) ≤ p + 6 → p ≤ q → Run (fun k => spec_l20Text.l0 k W s (d : Int) b q) (fun r => r.1.size ≤ 30 ∧ p ≤ r.2 ∧ r.2 ≤ p + 6) := by
    intro d
    induction d with
    | zero =>
      intro s q _ hs hq hq2 hpq
      refine Run.step (fun k => by rw [spec_l20Text.l0]) (Run.neg (by omega) (Run.ret ?_))
      exact ⟨hs, by show p ≤ q; omega, by show q ≤ p + 6; omega⟩
    | succ d ih =>
      intro s q hd hs hq hq2 hpq
      have e1 : wrap64 (((d + 1 : Nat) : Int) - 1) = (d : Int) := by rw [w64 (by omega) (by omega)]; omega
      refine Run.step (fun k => by rw [spec_l20Text.l0]) (Run.pos (by omega) (Run.bind (pick_run hb (n := (W.length : Int)) hq (by omega)) fun r1 h1 => ?_))
      obtain ⟨b0, b1, _, b2⟩ := h1
      have b3 := b1 (by omega)
      have hw := hWs r1.1 b0 (by omega)
      rw [e1]
      refine Run.pos b0 (Run.pos b3 ?_)
      clear e1
      generalize rdOf ByteArray.empty W r1.1 = v at hw ⊢
      have go : ∀ u : ByteArray, u.size ≤ 30 → Run (fun k => spec_l20Text.l0 k W u (d : Int) b r1.2) (fun r => r.1.size ≤ 30 ∧ p ≤ r.2 ∧ r.2 ≤ p + 6) := fun u hu => ih u r1.2 (by omega) hu (by omega) (by omega) (by omega)
      refine Run.ite (fun _ => go v (by omega)) (fun _ => ?_)
      have e2 : wrap64 (wrap64 ((s.size : Int) + 1) + (v.size : Int)) = (s.size : Int) + 1 + (v.size : Int) := by rw [w64 (x := (s.size : Int) + 1) (by omega) (by omega), w64 (by omega) (by omega)]
      rw [e2]
      clear e2
      have e3 : (s ++ (⟨#[32]⟩ : ByteArray)).size = s.size + 1 := by rw [ByteArray.size_append]; rfl
      refine Run.ite (fun hle => ?_) (fun _ => go s hs)
      refine Run.pos (by omega) (Run.pos (by rw [e3]; omega) (go _ ?_))
      rw [ByteArray.size_append, e3]; omega
  obtain ⟨t, q⟩ := r0
  obtain ⟨n, rfl⟩ : ∃ n : Nat, t = (n : Int) := ⟨t.toNat, by have a0' : 0 ≤ t := a0; omega⟩
  have a1' : (n : Int) < 6 := a1 (by omega)
  have a2' : q = p + 1 := a2
  exact loop n _ q (by omega) (by show 0 ≤ 30; omega) (by omega) (by omega) (by omega)
theorem anyText_run {b : List Int} (hb : Bytes b) {p n : Int} (hp : 0 ≤ p) (hp2 : p + 16 < LIMP) : Run (fun k => spec_l20AnyText.f k b p n) (fun r => r.1.size ≤ 100 ∧ p ≤ r.2 ∧ r.2 ≤ p + 10) := by
  unfold spec_l20AnyText.f
  refine Run.bind (text_run hb hp (by omega)) fun r0 h0 => ?_
  obtain ⟨s, q⟩ := r0
  have s1 : s.size ≤ 30 := h0.1
  have s2 : p ≤ q := h0.2.1
  have s3 : q ≤ p + 6 := h0.2.2
  refine Run.bind (pick_run hb (n := n) (show 0 ≤ q by omega) (by omega)) fun r1 h1 => ?_
  obtain ⟨_, _, _, a2⟩ := h1
  have a2' : r1.2 = q + 1 := a2
  refine Run.ite (fun _ => Run.ret ⟨by show s.size ≤ 100; omega, by show p ≤ r1.2; omega, by show r1.2 ≤ p + 10; omega⟩) (fun _ => ?_)
  have e1 : wrap64 ((s.size : Int) + 1) = (s.size : Int) + 1 := w64 (by omega) (by omega)
  show Run (fun k => (spec_l20Rd_pick.f k b r1.2 (wrap64 ((s.size : Int) + 1))).bind _) _
  rw [e1]
  refine Run.bind (pick_run hb (n := (s.size : Int) + 1) (show 0 ≤ r1.2 by omega) (by omega)) fun r2 h2 => ?_
  obtain ⟨b0, b1, _, b2⟩ := h2
  have b3 := b1 (by omega)
  refine Run.pos b0 (Run.pos (by show r2.1 ≤ (s.size : Int); omega) (Run.some (Run.bind (pick_run hb (n := 7) (show 0 ≤ r2.2 by omega) (by omega)) fun r3 h3 => ?_)))
  obtain ⟨c0, c1, _, c2⟩ := h3
  have c3 := c1 (by omega)
  have hz := badSize r3.1 c0 c3
  refine Run.pos c0 (Run.pos (by show r3.1 < 7; omega) ?_)
  have z1 : (s.extract 0 (r2.1 : Int).toNat).size ≤ 30 := by rw [ByteArray.size_extract]; omega
  have z2 : (s.extract (r2.1 : Int).toNat s.size).size ≤ 30 := by rw [ByteArray.size_extract]; omega
  refine Run.pos (by show (s.extract 0 (r2.1 : Int).toNat).size + _ ≤ _; omega) (Run.pos (by rw [ByteArray.size_append]; show (s.extract 0 (r2.1 : Int).toNat).size + _ + (s.extract (r2.1 : Int).toNat s.size).size ≤ _; omega) (Run.ret ?_))
  refine ⟨?_, by show p ≤ r3.2; omega, by show r3.2 ≤ p + 10; omega⟩
  show (ByteArray.size _) ≤ 100
  rw [ByteArray.size_append, ByteArray.size_append]
  show (s.extract 0 (r2.1 : Int).toNat).size + _ + (s.extract (r2.1 : Int).toNat s.size).size ≤ _
  omega
end Go.Proofs.YtldmepofbkcmnaaDoor.Pure
set_option linter.unusedVariables false
set_option linter.unusedSimpArgs false
namespace Go.Proofs.YtldmepofbkcmnaaDoor.Pure
open Go.RowKit Go.Proofs.YtldmepofbkcmnaaDoor.Pr Go.Proofs.YtldmepofbkcmnaaDoorW.PrintWords Go.Proofs.YtldmepofbkcmnaaDoorW.PrintLast Go.Proofs.YtldmepofbkcmnaaDoorW.PrintMore
theorem brd_run {b : List Int} (hb : Bytes b) {p n : Int} (hp : 0 ≤ p) (hp2 : p + 8 < LIMP) (hn : 1 ≤ n) : Run (fun k => spec_l20Brd.f k b p n) (fun r => p ≤ r.2.2 ∧ r.2.2 ≤ p + 8 ∧ -1 ≤ r.1 ∧ r.1 ≤ 5 ∧ -1 ≤ r.2.1 ∧ r.2.1 ≤ 4) := by
  have tail : ∀ (q s w : Int), 0 ≤ q → q + 3 < LIMP → -1 ≤ s → s ≤ 5 → -1 ≤ w → w ≤ 4 → Run (fun k => spec_l20Brd.j1 k n b q s w) (fun r => q ≤ r.2.2 ∧ r.2.2 ≤ q + 3 ∧ -1 ≤ r.1 ∧ r.1 ≤ 5 ∧ -1 ≤ r.2.1 ∧ r.2.1 ≤ 4) := by
    intro q s w hq hq2 hs hs2 hw hw2
    refine Run.step (fun k => by rw [spec_l20Brd.j1]) ?_
    refine Run.bind (pick_run hb (by omega) (by omega)) fun r1 h1 => ?_
    refine Run.ite (fun _ => ?_) (fun _ => Run.ret (by dsimp only; omega))
    refine Run.bind (pick_run hb (by omega) (by omega)) fun r2 h2 => ?_
    refine Run.ite (fun _ => ?_) (fun _ => ?_)
    · refine Run.some (Run.bind (pick_run hb (by omega) (by omega)) fun r3 h3 => Run.pos (by omega) (Run.pos (by simp; omega) (Run.ret ?_)))
      have hr : rd [(-1), 5, 1] r3.1 = -1 ∨ rd [(-1), 5, 1] r3.1 = 5 ∨ rd [(-1), 5, 1] r3.1 = 1 := by
        have : r3.1 = 0 ∨ r3.1 = 1 ∨ r3.1 = 2 := by omega
        rcases this with e | e | e <;> rw [e] <;> decide
      dsimp only; omega
    · refine Run.some (Run.bind (pick_run hb (by omega) (by omega)) fun r3 h3 => Run.pos (by omega) (Run.pos (by simp; omega) (Run.ret ?_)))
      have hr : -1 ≤ rd [(-1), 4, 0, 1] r3.1 ∧ rd [(-1), 4, 0, 1] r3.1 ≤ 4 := by
        have : r3.1 = 0 ∨ r3.1 = 1 ∨ r3.1 = 2 ∨ r3.1 = 3 := by omega
        rcases this with e | e | e | e <;> rw [e] <;> decide
      dsimp only; omega
  unfold spec_l20Brd.f
  refine Run.bind (pick_run hb (by omega) (by omega)) fun r0 h0 => ?_
  have mid : ∀ x : Bool, Run (fun k => spec_l20Brd.j0 k n r0.1 x b r0.2 0 0) (fun r => p ≤ r.2.2 ∧ r.2.2 ≤ p + 8 ∧ -1 ≤ r.1 ∧ r.1 ≤ 5 ∧ -1 ≤ r.2.1 ∧ r.2.1 ≤ 4) := by
    intro x
    refine Run.step (fun k => by rw [spec_l20Brd.j0]) ?_
    refine Run.ite (fun _ => ?_) (fun _ => Run.ite (fun _ => ?_) (fun _ => ?_))
    · refine Run.bind (pick_run hb (by omega) (by omega)) fun r1 h1 => Run.bind (pick_run hb (by omega) (by omega)) fun r2 h2 => ?_
      rw [w64 (x := 1 + r1.1) (by omega) (by omega), w64 (x := 1 + r2.1) (by omega) (by omega)]
      exact (tail _ _ _ (by omega) (by omega) (by omega) (by omega) (by omega) (by omega)).imp fun r h => by omega
    · refine Run.bind (pick_run hb (by omega) (by omega)) fun r1 h1 => Run.ite (fun _ => ?_) (fun _ => ?_)
      · exact (tail _ _ _ (by omega) (by omega) (by omega) (by omega) (by omega) (by omega)).imp fun r h => by omega
      · exact (tail _ _ _ (by omega) (by omega) (by omega) (by omega) (by omega) (by omega)).imp fun r h => by omega
    · exact (tail _ _ _ (by omega) (by omega) (by omega) (by omega) (by omega) (by omega)).imp fun r h => by omega
  exact Run.ite (fun _ => mid _) (fun _ => mid _)
end Go.Proofs.YtldmepofbkcmnaaDoor.Pure
set_option linter.unusedVariables false
set_option linter.unusedSimpArgs false
namespace Go.Proofs.YtldmepofbkcmnaaDoor.Pure
open Go.RowKit Go.Proofs.YtldmepofbkcmnaaDoor.Pr Go.Proofs.YtldmepofbkcmnaaDoorW.PrintWords Go.Proofs.YtldmepofbkcmnaaDoorW.PrintLast Go.Proofs.YtldmepofbkcmnaaDoorW.PrintMore
theorem rd6a (t : Int) (h0 : 0 ≤ t) (h : t < 6) : 1 ≤ rd ([1, 1, 1, 2, 3, 4] : List Int) t ∧ rd ([1, 1, 1, 2, 3, 4] : List Int) t ≤ 4 := by
  have : t = 0 ∨ t = 1 ∨ t = 2 ∨ t = 3 ∨ t = 4 ∨ t = 5 := by omega
  rcases this with e | e | e | e | e | e <;> rw [e] <;> decide
theorem rd6b (t : Int) (h0 : 0 ≤ t) (h : t < 6) : 1 ≤ rd ([1, 1, 1, 1, 2, 3] : List Int) t ∧ rd ([1, 1, 1, 1, 2, 3] : List Int) t ≤ 3 := by
  have : t = 0 ∨ t = 1 ∨ t = 2 ∨ t = 3 ∨ t = 4 ∨ t = 5 := by omega
  rcases this with e | e | e | e | e | e <;> rw [e] <;> decide
theorem rd3a (t : Int) (h0 : 0 ≤ t) (h : t < 3) : -1 ≤ rd ([0, 5, (-1)] : List Int) t ∧ rd ([0, 5, (-1)] : List Int) t ≤ 5 ∧ (rd ([0, 5, (-1)] : List Int) t ≤ 0 ∨ rd ([0, 5, (-1)] : List Int) t = 5) := by
  have : t = 0 ∨ t = 1 ∨ t = 2 := by omega
  rcases this with e | e | e <;> rw [e] <;> decide
structure CellD (p : Int) (r : ByteArray × Int × Int × Int × Int × Int × Int × Int × Int × Int × Int × Int) : Prop where
  s : r.1.size ≤ 100
  w : -1 ≤ r.2.1 ∧ r.2.1 ≤ 5
  h : -1 ≤ r.2.2.1 ∧ (r.2.2.1 ≤ 3 ∨ r.2.2.1 = 5)
  p0 : p ≤ r.2.2.2.2.2.2.2.2.2.2.2
  p1 : r.2.2.2.2.2.2.2.2.2.2.2 ≤ p + 80
theorem cellTail {b : List Int} (hb : Bytes b) {p n : Int} (hp : 0 ≤ p) (hp2 : p + 40 < LIMP) (s : ByteArray) (c h a1 a2 b1 b2 c1 c2 d1 d2 : Int) (hs : s.size ≤ 100) (hc : -1 ≤ c ∧ c ≤ 5) (hh : -1 ≤ h ∧ (h ≤ 3 ∨ h = 5)) :
    Run (fun k => spec_l20Cell.j0 k n b p s c h a1 a2 b1 b2 c1 c2 d1 d2) (fun r => r.1.size ≤ 100 ∧ (-1 ≤ r.2.1 ∧ r.2.1 ≤ 5) ∧ (-1 ≤ r.2.2.1 ∧ (r.2.2.1 ≤ 3 ∨ r.2.2.1 = 5)) ∧ p ≤ r.2.2.2.2.2.2.2.2.2.2.2 ∧ r.2.2.2.2.2.2.2.2.2.2.2 ≤ p + 30) := by
  refine Run.step (fun k => by rw [spec_l20Cell.j0]) ?_
  refine Run.bind (pick_run hb (n := n) hp (by omega)) fun r0 h0 => ?_
  obtain ⟨_, _, _, e0⟩ := h0
  refine Run.ite (fun _ => Run.ret ⟨hs, hc, hh, by show p ≤ r0.2; omega, by show r0.2 ≤ p + 30; omega⟩) (fun _ => ?_)
  refine Run.bind (pick_run hb (p := r0.2) (n := 4) (by omega) (by omega)) fun r1 h1 => ?_
  obtain ⟨_, _, _, e1⟩ := h1
  refine Run.ite (fun _ => ?_) (fun _ => Run.ite (fun _ => ?_) (fun _ => Run.ite (fun _ => ?_) (fun _ => ?_)))
  · refine Run.bind (anyText_run hb (p := r1.2) (n := 1) (by omega) (by omega)) fun r2 h2 => ?_
    obtain ⟨s2, p2, q2⟩ := h2
    exact Run.ret ⟨s2, hc, hh, by show p ≤ r2.2; omega, by show r2.2 ≤ p + 30; omega⟩
  · refine Run.some (Run.bind (pick_run hb (p := r1.2) (n := 3) (by omega) (by omega)) fun r2 h2 => ?_)
    obtain ⟨g0, g1, _, g2⟩ := h2
    have g3 := g1 (by omega)
    obtain ⟨k0, k1, _⟩ := rd3a r2.1 g0 g3
    exact Run.pos g0 (Run.pos (by show r2.1 < 3; omega) (Run.ret ⟨hs, ⟨k0, k1⟩, hh, by show p ≤ r2.2; omega, by show r2.2 ≤ p + 30; omega⟩))
  · refine Run.some (Run.bind (pick_run hb (p := r1.2) (n := 3) (by omega) (by omega)) fun r2 h2 => ?_)
    obtain ⟨g0, g1, _, g2⟩ := h2
    have g3 := g1 (by omega)
    obtain ⟨k0, k1, k2⟩ := rd3a r2.1 g0 g3
    refine Run.pos g0 (Run.pos (by show r2.1 < 3; omega) (Run.ret ⟨hs, hc, ⟨k0, ?_⟩, by show p ≤ r2.2; omega, by show r2.2 ≤ p + 30; omega⟩))
    rcases k2 with k2 | k2
    · exact Or.inl (by show rd ([0, 5, (-1)] : List Int) r2.1 ≤ 3; omega)
    · exact Or.inr k2
  · refine Run.bind (brd_run hb (p := r1.2) (n := 1) (by omega) (by omega) (by omega)) fun r2 h2 => ?_
    obtain ⟨p2, q2, _⟩ := h2
    exact Run.ret ⟨hs, hc, hh, by show p ≤ r2.2.2; omega, by show r2.2.2 ≤ p + 30; omega⟩
theorem cell_run {b : List Int} (hb : Bytes b) {p n : Int} (hp : 0 ≤ p) (hp2 : p + 100 < LIMP) : Run (fun k => spec_l20Cell.f k b p n) (fun r => CellD p r) := by
  unfold spec_l20Cell.f
  refine Run.bind (text_run hb hp (by omega)) fun r0 h0 => ?_
  obtain ⟨s0, p0, q0⟩ := h0
  refine Run.some (Run.bind (pick_run hb (p := r0.2) (n := 6) (by omega) (by omega)) fun r1 h1 => ?_)
  obtain ⟨a0, a1, _, a2⟩ := h1
  have a3 := a1 (by omega)
  refine Run.pos a0 (Run.pos (by show r1.1 < 6; omega) (Run.some (Run.bind (pick_run hb (p := r1.2) (n := 6) (by omega) (by omega)) fun r2 h2 => ?_)))
  obtain ⟨b0, b1, _, b2⟩ := h2
  have b3 := b1 (by omega)
  refine Run.pos b0 (Run.pos (by show r2.1 < 6; omega) ?_)
  refine Run.bind (brd_run hb (p := r2.2) (n := 999) (by omega) (by omega) (by omega)) fun r3 h3 => ?_
  obtain ⟨c0, c1, _⟩ := h3
  refine Run.bind (brd_run hb (p := r3.2.2) (n := 999) (by omega) (by omega) (by omega)) fun r4 h4 => ?_
  obtain ⟨d0, d1, _⟩ := h4
  refine Run.bind (brd_run hb (p := r4.2.2) (n := 999) (by omega) (by omega) (by omega)) fun r5 h5 => ?_
  obtain ⟨e0, e1, _⟩ := h5
  refine Run.bind (brd_run hb (p := r5.2.2) (n := 999) (by omega) (by omega) (by omega)) fun r6 h6 => ?_
  obtain ⟨f0, f1, _⟩ := h6
  refine Run.ite (fun _ => ?_) (fun _ => ?_)
  · refine (cellTail hb (p := r6.2.2) (n := n) (by omega) (by omega) (⟨#[]⟩ : ByteArray) 1 1 0 0 0 0 0 0 0 0 (by decide) (by omega) (by omega)).imp fun r hr => ?_
    obtain ⟨x1, x2, x3, x4, x5⟩ := hr
    exact ⟨x1, x2, x3, by omega, by omega⟩
  · have ka := rd6a r1.1 a0 a3
    have kb := rd6b r2.1 b0 b3
    refine (cellTail hb (p := r6.2.2) (n := n) (by omega) (by omega) r0.1 _ _ _ _ _ _ _ _ _ _ (by omega) (by omega) (by omega)).imp fun r hr => ?_
    obtain ⟨x1, x2, x3, x4, x5⟩ := hr
    exact ⟨x1, x2, x3, by omega, by omega⟩
end Go.Proofs.YtldmepofbkcmnaaDoor.Pure
set_option linter.unusedVariables false
set_option linter.unusedSimpArgs false
namespace Go.Proofs.YtldmepofbkcmnaaDoor.Pure
open Go.RowKit Go.Proofs.YtldmepofbkcmnaaDoor.Pr Go.Proofs.YtldmepofbkcmnaaDoorW.PrintWords Go.Proofs.YtldmepofbkcmnaaDoorW.PrintLast Go.Proofs.YtldmepofbkcmnaaDoorW.PrintMore
theorem in_eq (a b c : Int) : impl_in.f a b c = some (decide (b ≤ a) && decide (a ≤ c)) := by
  unfold impl_in.f; by_cases h : a ≥ b <;> simp [h] <;> omega
theorem l1In_eq (a b c : Int) : spec_l1In.f a b c = some (decide (b ≤ a) && decide (a ≤ c)) := by
  unfold spec_l1In.f; by_cases h : a ≥ b <;> simp [h] <;> omega
end Go.Proofs.YtldmepofbkcmnaaDoor.Pure
set_option linter.unusedVariables false
set_option linter.unusedSimpArgs false
namespace Go.Proofs.YtldmepofbkcmnaaDoor.Pure
open Go.RowKit Go.Proofs.YtldmepofbkcmnaaDoor.Pr Go.Proofs.YtldmepofbkcmnaaDoorW.PrintWords Go.Proofs.YtldmepofbkcmnaaDoorW.PrintLast Go.Proofs.YtldmepofbkcmnaaDoorW.PrintMore
theorem byte32 {b : UInt8} : ((b.toNat : Int) = 32) ↔ b = 32 := by
  constructor
  · intro h
    have : b.toNat = 32 := by omega
    exact UInt8.toNat_inj.mp (by rw [this]; rfl)
  · rintro rfl; rfl
theorem cutL_le : ∀ (l w : List UInt8), w ∈ cutL l → w.length ≤ l.length := by
  intro l
  induction l with
  | nil => intro w h; simp [cutL] at h; subst h; simp
  | cons b l ih =>
    intro w h
    by_cases hb : b = 32
    · subst hb
      rw [cutL_blank] at h
      rcases List.mem_cons.mp h with rfl | h
      · simp
      · have := ih w h; simp; omega
    · obtain ⟨v, vs, e⟩ := cutL_ne l
      rw [cutL_other hb e] at h
      rcases List.mem_cons.mp h with rfl | h
      · have := ih v (by rw [e]; simp); simp; omega
      · have := ih w (by rw [e]; simp [h]); simp; omega
theorem cutB_le (s w : ByteArray) (h : w ∈ cutB s) : w.size ≤ s.size := by
  obtain ⟨l, hl, rfl⟩ := List.mem_map.mp h
  rw [bl_len, bl_len, bl_mk]
  exact cutL_le _ _ hl
def goodB (w : ByteArray) : Bool := goodW (bl w)
theorem cutB_good (s : ByteArray) : (cutB s).all goodB = (cutL (bl s)).all goodW := by
  unfold cutB
  rw [List.all_map]; rfl
def txtOk (s : ByteArray) : Bool := txtOkL (bl s)
theorem trim_ok (w : ByteArray) (h : w.size ≤ 9223372036854775807) : strings_Trim.f w (⟨#[97, 98, 99, 100, 101, 102, 103, 104, 105, 106, 107, 108, 109, 110, 111, 112, 113, 114, 115, 116, 117, 118, 119, 120, 121, 122]⟩ : ByteArray) = some ⟨(Go.Lib.trimS (bl w) letters26).toArray⟩ := by
  unfold strings_Trim.f
  rw [if_pos ⟨rfl, h⟩]; rfl
theorem implTxtOk (s : ByteArray) (h : s.size < 4294967281) : Ev (fun k => impl_TxtOk.f k s) (txtOk s) := by
  unfold impl_TxtOk.f txtOk txtOkL
  by_cases h0 : bl s = []
  · refine evIf ((toList_nil s).mpr h0) (evNow ?_)
    rw [h0]; rfl
  · refine evElse (fun e => h0 ((toList_nil s).mp e)) ?_
    refine evBindC (show strings_Split.f s (⟨#[32]⟩ : ByteArray) = some (cutB s) by unfold strings_Split.f; rw [if_pos ⟨rfl, h⟩]) ?_
    have hn : (cutB s).length ≤ s.size + 1 := by
      have := List.count_le_length (a := (32 : UInt8)) (l := bl s)
      rw [show (cutB s).length = (bl s).count 32 + 1 by rw [cutB, List.length_map, cutL_length]; rfl, bl_len]; omega
    have loop : ∀ (d i : Nat), i + d = (cutB s).length → Ev (fun k => impl_TxtOk.l0 k s (cutB s) ((cutB s).length : Int) i) (((cutB s).drop i).all goodB && decide ((s.size : Int) ≤ 30)) := by
      intro d
      induction d with
      | zero =>
        intro i hi
        obtain rfl : i = (cutB s).length := by omega
        rw [List.drop_length]
        refine Ev.step (fun k => by rw [impl_TxtOk.l0]) ?_
        exact evElse (by omega) (evNow (by simp))
      | succ d ih =>
        intro i hi
        have hlt : i < (cutB s).length := by omega
        have hw : (cutB s)[i].size ≤ s.size := cutB_le s _ (List.getElem_mem _)
        rw [dropCons _ i hlt, List.all_cons]
        refine Ev.step (fun k => by rw [impl_TxtOk.l0]) (evIf (by omega) (evIf (by omega) (evIf (by omega) ?_)))
        rw [rdS _ i hlt]
        generalize (cutB s)[i] = w at hw ⊢
        by_cases he : bl w = []
        · refine evIf ((toList_nil w).mpr he) (evNow ?_)
          simp [goodB, goodW, he]
        · refine evElse (fun e => he ((toList_nil w).mp e)) (evBindC (trim_ok w (by omega)) ?_)
          have ht := trim_empty (bl w)
          have he' : (bl w).isEmpty = false := by simpa using he
          have hg : goodB w = (bl w).all letter := by simp [goodB, goodW, he']
          rw [hg, ← ht]
          cases hc : (Go.Lib.trimS (bl w) letters26).isEmpty with
          | true =>
            refine evIf ((toList_nil _).mpr (by rw [bl_mk]; simpa using hc)) ?_
            rw [wnext (n := (cutB s).length) (by omega) (by omega)]
            simpa using ih (i + 1) (by omega)
          | false =>
            refine evElse (fun e => ?_) (evNow (by simp))
            have := (toList_nil _).mp e
            rw [bl_mk] at this
            rw [this] at hc; simp at hc
    have := loop (cutB s).length 0 (by omega)
    rw [List.drop_zero, cutB_good] at this
    have he : (bl s).isEmpty = false := by simpa using h0
    have hd : decide ((s.size : Int) ≤ 30) = decide ((bl s).length ≤ 30) := by rw [← bl_len]; exact decide_eq_decide.mpr (by omega)
    rw [he, Bool.false_or, Bool.and_comm, ← hd]
    exact this
theorem specTxtOk (s : ByteArray) (h : s.size ≤ 9223372036854775807) : Ev (fun k => spec_TxtOk.f k s) (txtOk s) := by
  unfold spec_TxtOk.f txtOk txtOkL
  have hsz := bl_len s
  by_cases h30 : (s.size : Int) > 30
  · refine evIf h30 (evNow ?_)
    have h1 : (bl s).isEmpty = false := by
      cases hb : bl s with
      | nil => rw [hsz, hb] at h30; simp at h30
      | cons _ _ => rfl
    have h2 : decide ((bl s).length ≤ 30) = false := decide_eq_false (by omega)
    rw [h1, h2]; rfl
  · refine evElse h30 ?_
    have hd : decide ((bl s).length ≤ 30) = true := decide_eq_true (by omega)
    have loop : ∀ (d i : Nat) (p : Bool), i + d = (bl s).length → (i = 0 → p = true) → (∀ j, i = j + 1 → ∀ b, (bl s)[j]? = some b → (p = true ↔ b = 32)) → (d = 0 → p = false) → Ev (fun k => spec_TxtOk.l0 k s i) (okFrom p ((bl s).drop i)) := by
      intro d
      induction d with
      | zero =>
        intro i p hi _ _ hp
        rw [hp rfl, show i = (bl s).length by omega, List.drop_length]
        refine Ev.step (fun k => by rw [spec_TxtOk.l0]) ?_
        exact evElse (by omega) (evNow rfl)
      | succ d ih =>
        intro i p hi h0 hprev _
        have hlt : i < (bl s).length := by omega
        have hx : (bl s)[i]? = some (bl s)[i] := by simp [hlt]
        rw [dropCons _ i hlt, okFrom]
        refine Ev.step (fun k => by rw [spec_TxtOk.l0]) (evIf (by omega) (evIf (by omega) ?_))
        have hb := bt_bl s i hlt
        rw [hb]
        have bad : Ev (fun k => spec_TxtOk.j1 k s i true) false := by
          refine Ev.step (fun k => by rw [spec_TxtOk.j1]) ?_
          exact evIf rfl (evNow rfl)
        generalize hbe : (bl s)[i] = b at hx hb ⊢
        have en := wnext (n := (bl s).length) (i := i) (by omega) (by omega)
        have hx' : ∀ q : Bool, (q = true ↔ b = 32) → ∀ j, i + 1 = j + 1 → ∀ b', (bl s)[j]? = some b' → (q = true ↔ b' = 32) := by
          intro q hq j hj b' hb'
          obtain rfl : j = i := by omega
          rw [hx] at hb'; cases hb'; exact hq
        by_cases h32 : b = 32
        · subst h32
          rw [if_pos rfl]
          have good : i + 1 < (bl s).length → Ev (fun k => spec_TxtOk.j1 k s i false) (okFrom true ((bl s).drop (i + 1))) := by
            intro hlt2
            refine Ev.step (fun k => by rw [spec_TxtOk.j1]) ?_
            refine evElse (by simp) (evIf (by omega) (evIf (by omega) ?_))
            rw [hb]
            refine evIf (by rfl) ?_
            rw [en]
            exact ih (i + 1) true (by omega) (by omega) (hx' true (by simp)) (by omega)
          refine evIf (by rfl) ?_
          by_cases hi0 : i = 0
          · refine evIf (by omega) ?_
            rw [h0 hi0]
            exact bad
          · refine evElse (by omega) ?_
            have el : wrap64 ((s.size : Int) - 1) = (s.size : Int) - 1 := w64 (by omega) (by omega)
            rw [el]
            by_cases hl : i + 1 = (bl s).length
            · refine evIf (by omega) ?_
              have e2 : (bl s).drop (i + 1) = [] := by rw [hl]; exact List.drop_length
              rw [e2]
              have : (!p && okFrom true []) = false := by simp [okFrom]
              rw [this]
              exact bad
            · refine evElse (by omega) ?_
              obtain ⟨j, rfl⟩ : ∃ j, i = j + 1 := ⟨i - 1, by omega⟩
              have ej : wrap64 (((j + 1 : Nat) : Int) - 1) = (j : Int) := by rw [w64 (by omega) (by omega)]; omega
              rw [ej]
              refine evIf (by omega) (evIf (by omega) ?_)
              have hp := hprev j rfl (bl s)[j] (by simp [show j < (bl s).length by omega])
              rw [bt_bl s j (by omega)]
              cases hpp : p with
              | true =>
                have e3 : (bl s)[j] = 32 := hp.mp hpp
                rw [e3]
                exact bad
              | false =>
                have e3 : ¬ (bl s)[j] = 32 := fun e => by rw [hp.mpr e] at hpp; cases hpp
                have e4 : (((bl s)[j].toNat : Int) == 32) = false := beq_eq_false_iff_ne.mpr (fun e => e3 (byte32.mp e))
                rw [e4]
                simpa using good (by omega)
        · rw [if_neg h32]
          refine evElse (fun e => h32 (byte32.mp e)) ?_
          refine Ev.step (fun k => by rw [spec_TxtOk.j1]) ?_
          refine evElse (by simp) (evIf (by omega) (evIf (by omega) ?_))
          rw [hb]
          refine evElse (fun e => h32 (byte32.mp e)) ?_
          have hr := b.toNat_lt
          rw [w64 (x := (b.toNat : Int)) (by omega) (by omega)]
          refine evBindC (l1In_eq _ _ _) ?_
          have hle : (decide (97 ≤ (b.toNat : Int)) && decide ((b.toNat : Int) ≤ 122)) = letter b := by unfold letter; congr 1 <;> simp <;> omega
          rw [hle]
          cases hll : letter b with
          | false => exact evElse (by simp) (evNow (by simp))
          | true =>
            refine evIf rfl ?_
            rw [en]
            simpa using ih (i + 1) false (by omega) (by omega) (hx' false (by simp [h32])) (fun _ => rfl)
    by_cases h0 : bl s = []
    · rw [h0]
      refine Ev.step (fun k => by rw [spec_TxtOk.l0]) ?_
      have : s.size = 0 := by rw [hsz, h0]; rfl
      exact evElse (by omega) (evNow rfl)
    · have h1 : (bl s).isEmpty = false := by simpa using h0
      have hp : 0 < (bl s).length := List.length_pos_iff.mpr h0
      have := loop (bl s).length 0 true (by omega) (fun _ => rfl) (fun j hj => by omega) (by omega)
      rw [List.drop_zero, okFrom_words] at this
      rw [h1, hd, Bool.false_or, Bool.true_and]
      exact this
end Go.Proofs.YtldmepofbkcmnaaDoor.Pure
set_option linter.unusedVariables false
set_option linter.unusedSimpArgs false
namespace Go.Proofs.YtldmepofbkcmnaaDoor.Pure
open Go.RowKit Go.Proofs.YtldmepofbkcmnaaDoor.Pr Go.Proofs.YtldmepofbkcmnaaDoorW.PrintWords Go.Proofs.YtldmepofbkcmnaaDoorW.PrintLast Go.Proofs.YtldmepofbkcmnaaDoorW.PrintMore
def brdOk (s n : Int) : Bool := decide ((s = 0 ∨ s = 4) ∧ n = 0 ∨ (1 ≤ s ∧ s ≤ 3 ∧ 1 ≤ n ∧ n ≤ 3))
theorem bool_ext {a b : Bool} (h : a = true ↔ b = true) : a = b := by cases a <;> cases b <;> simp_all
theorem spec_brdOk (s n : Int) : Ev (fun k => spec_BrdOk.f k s n) (brdOk s n) := by
  unfold spec_BrdOk.f brdOk
  by_cases h : s = 0
  · refine evIf h (Ev.step (fun k => by rw [spec_BrdOk.j0]) (evNow ?_)); simp [h]
    apply bool_ext; simp
  · refine evElse h (Ev.step (fun k => by rw [spec_BrdOk.j0]) (evNow ?_))
    by_cases h4 : s = 4
    · simp [h4]; apply bool_ext; simp
    · simp only [l1In_eq, Option.bind_some]
      by_cases h1 : 1 ≤ s <;> by_cases h2 : s ≤ 3 <;> simp [h, h4, h1, h2]
theorem impl_brdOk (s n : Int) : impl_BrdOk.f s n = some (brdOk s n) := by
  unfold impl_BrdOk.f impl_BrdLine_drawn.f brdOk
  simp only [in_eq, Option.bind_some]
  by_cases h0 : s = 0
  · subst h0; simp; apply bool_ext; simp
  · by_cases h4 : s = 4
    · subst h4; simp; apply bool_ext; simp
    · by_cases h1 : 1 ≤ s <;> by_cases h2 : s ≤ 3 <;> simp [h0, h4, h1, h2]
end Go.Proofs.YtldmepofbkcmnaaDoor.Pure
set_option linter.unusedVariables false
set_option linter.unusedSimpArgs false
namespace Go.Proofs.YtldmepofbkcmnaaDoor.Pure
open Go.RowKit Go.Proofs.YtldmepofbkcmnaaDoor.Pr Go.Proofs.YtldmepofbkcmnaaDoorW.PrintWords Go.Proofs.YtldmepofbkcmnaaDoorW.PrintLast Go.Proofs.YtldmepofbkcmnaaDoorW.PrintMore
def tinV (lo hi n : Int) : Bool := decide (lo ≤ n) && decide (n ≤ hi)
theorem tinVI (a b c : Int) : impl_in.f a b c = some (tinV b c a) := in_eq a b c
theorem tinVS (a b c : Int) : spec_l1In.f a b c = some (tinV b c a) := l1In_eq a b c
def cellOkV (s : ByteArray) (c r a1 a2 b1 b2 d1 d2 e1 e2 : Int) : Bool := txtOk s && (tinV 1 4 c && (tinV 1 4 r && (brdOk a1 a2 && (brdOk b1 b2 && (brdOk d1 d2 && brdOk e1 e2)))))
theorem implCellV (s : ByteArray) (c r a1 a2 b1 b2 d1 d2 e1 e2 : Int) (h : s.size < 4294967281) : Ev (fun k => impl_CellOk.f k s c r a1 a2 b1 b2 d1 d2 e1 e2) (cellOkV s c r a1 a2 b1 b2 d1 d2 e1 e2) := by
  unfold impl_CellOk.f cellOkV
  refine (implTxtOk s h).bind ?_
  cases txtOk s with
  | false => exact evElse (by simp) (evNow rfl)
  | true =>
  refine evIf rfl (evBindC (tinVI c 1 4) ?_)
  cases tinV 1 4 c with
  | false => exact evElse (by simp) (evNow rfl)
  | true =>
  refine evIf rfl (evBindC (tinVI r 1 4) ?_)
  cases tinV 1 4 r with
  | false => exact evElse (by simp) (evNow rfl)
  | true =>
  refine evIf rfl (evBindC (impl_brdOk a1 a2) ?_)
  cases brdOk a1 a2 with
  | false => exact evElse (by simp) (evNow rfl)
  | true =>
  refine evIf rfl (evBindC (impl_brdOk b1 b2) ?_)
  cases brdOk b1 b2 with
  | false => exact evElse (by simp) (evNow rfl)
  | true =>
  refine evIf rfl (evBindC (impl_brdOk d1 d2) ?_)
  cases brdOk d1 d2 with
  | false => exact evElse (by simp) (evNow rfl)
  | true => exact evIf rfl (evBindC (impl_brdOk e1 e2) (evNow rfl))
theorem specCellV (s : ByteArray) (c r a1 a2 b1 b2 d1 d2 e1 e2 : Int) (h : s.size < 4294967281) : Ev (fun k => spec_CellOk.f k s c r a1 a2 b1 b2 d1 d2 e1 e2) (cellOkV s c r a1 a2 b1 b2 d1 d2 e1 e2) := by
  unfold spec_CellOk.f cellOkV
  refine (specTxtOk s (by omega)).bind ?_
  cases txtOk s with
  | false => exact evElse (by simp) (evNow rfl)
  | true =>
  refine evIf rfl (evBindC (tinVS c 1 4) ?_)
  cases tinV 1 4 c with
  | false => exact evElse (by simp) (evNow rfl)
  | true =>
  refine evIf rfl (evBindC (tinVS r 1 4) ?_)
  cases tinV 1 4 r with
  | false => exact evElse (by simp) (evNow rfl)
  | true =>
  refine evIf rfl ((spec_brdOk a1 a2).bind ?_)
  cases brdOk a1 a2 with
  | false => exact evElse (by simp) (evNow rfl)
  | true =>
  refine evIf rfl ((spec_brdOk b1 b2).bind ?_)
  cases brdOk b1 b2 with
  | false => exact evElse (by simp) (evNow rfl)
  | true =>
  refine evIf rfl ((spec_brdOk d1 d2).bind ?_)
  cases brdOk d1 d2 with
  | false => exact evElse (by simp) (evNow rfl)
  | true => exact evIf rfl ((spec_brdOk e1 e2).bind (evNow rfl))
end Go.Proofs.YtldmepofbkcmnaaDoor.Pure
set_option linter.unusedVariables false
set_option linter.unusedSimpArgs false
namespace Go.Proofs.YtldmepofbkcmnaaDoor.Pure
open Go.RowKit Go.Proofs.YtldmepofbkcmnaaDoor.Pr Go.Proofs.YtldmepofbkcmnaaDoorW.PrintWords Go.Proofs.YtldmepofbkcmnaaDoorW.PrintLast Go.Proofs.YtldmepofbkcmnaaDoorW.PrintMore
theorem FnCellOk (l : List Int) (h : l.length ≤ 9223372036854775807 ∧ ∀ x ∈ l, (Lit.int .u8 x).wf = true) : ∃ k, laws_FnCellOk.f k l = some true := by
  apply Run.get
  unfold laws_FnCellOk.f
  refine Run.ite (fun _ => Run.ret rfl) fun hbig => ?_
  have draw : Run (fun k => spec_DrawCellOk.f k l) (fun r => r.1.size ≤ 100) := by
    unfold spec_DrawCellOk.f
    obtain ⟨b, e, hb⟩ := open_eq l h.2
    refine Run.constBind e (Run.bind (cell_run hb (p := 0) (n := 2) (by omega) (by unfold LIMP; omega)) fun r hr => Run.ret hr.s)
  refine Run.bind draw fun y hs => ?_
  obtain ⟨s, c, r, a1, a2, b1, b2, d1, d2, e1, e2⟩ := y
  have hs : s.size ≤ 100 := hs
  have z0 : Ev (fun k => impl_CellOk.f k (⟨#[]⟩ : ByteArray) 1 1 0 0 0 0 0 0 0 0) true := by
    have := implCellV (⟨#[]⟩ : ByteArray) 1 1 0 0 0 0 0 0 0 0 (by decide)
    have e : cellOkV (⟨#[]⟩ : ByteArray) 1 1 0 0 0 0 0 0 0 0 = true := by decide
    rwa [e] at this
  have iC := implCellV s c r a1 a2 b1 b2 d1 d2 e1 e2 (by omega)
  have sC := specCellV s c r a1 a2 b1 b2 d1 d2 e1 e2 (by omega)
  have j1 : ∀ x : Bool, x = cellOkV s c r a1 a2 b1 b2 d1 d2 e1 e2 → Run (fun k => laws_FnCellOk.j1 k x s c r a1 a2 b1 b2 d1 d2 e1 e2) (· = true) := by
    intro x hx
    subst hx
    refine Run.step (fun k => by rw [laws_FnCellOk.j1]) (Run.evBind iC ?_)
    refine Run.pos (beq_self_eq_true _) (Run.evBind iC (Run.evBind sC ?_))
    exact Run.pos (beq_self_eq_true _) (Run.evBind z0 (Run.ret rfl))
  have j0 : ∀ x : Bool, (x && (brdOk a1 a2 && (brdOk b1 b2 && (brdOk d1 d2 && brdOk e1 e2)))) = cellOkV s c r a1 a2 b1 b2 d1 d2 e1 e2 → Run (fun k => laws_FnCellOk.j0 k x s c r a1 a2 b1 b2 d1 d2 e1 e2) (· = true) := by
    intro x hx
    refine Run.step (fun k => by rw [laws_FnCellOk.j0]) (Run.ite (fun h1 => ?_) (fun h1 => j1 false (by rw [← hx]; simp [h1])))
    refine Run.constBind (impl_brdOk a1 a2) (Run.ite (fun h2 => ?_) (fun h2 => j1 false (by rw [← hx]; simp [h2])))
    refine Run.constBind (impl_brdOk b1 b2) (Run.ite (fun h3 => ?_) (fun h3 => j1 false (by rw [← hx]; simp [h3])))
    refine Run.constBind (impl_brdOk d1 d2) (Run.ite (fun h4 => ?_) (fun h4 => j1 false (by rw [← hx]; simp [h4])))
    exact Run.constBind (impl_brdOk e1 e2) (j1 _ (by rw [← hx, h1, h2, h3, h4]; simp))
  have key : cellOkV s c r a1 a2 b1 b2 d1 d2 e1 e2 = (txtOk s && (tinV 1 4 c && (tinV 1 4 r && (brdOk a1 a2 && (brdOk b1 b2 && (brdOk d1 d2 && brdOk e1 e2)))))) := rfl
  refine Run.evBind (implTxtOk s (by omega)) (Run.ite (fun h1 => ?_) (fun h1 => j0 false (by rw [key]; simp [h1])))
  refine Run.ite (fun h2 => ?_) (fun h2 => j0 false (by rw [key]; have : ¬ (1 ≤ c) := h2; simp [tinV, this]))
  refine Run.ite (fun h3 => ?_) (fun h3 => j0 false (by rw [key]; have : ¬ (c ≤ 4) := h3; simp [tinV, this]))
  have h2 : 1 ≤ c := h2
  have h3 : c ≤ 4 := h3
  refine Run.ite (fun h4 => ?_) (fun h4 => j0 false (by rw [key]; have : ¬ (1 ≤ r) := h4; simp [tinV, this]))
  have h4 : 1 ≤ r := h4
  exact j0 _ (by rw [key, h1]; simp [tinV, h2, h3, h4])
end Go.Proofs.YtldmepofbkcmnaaDoor.Pure
