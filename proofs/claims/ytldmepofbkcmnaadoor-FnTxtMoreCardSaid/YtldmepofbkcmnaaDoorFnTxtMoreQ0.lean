/- The plain laws that the claim of 'FnTxtMore' leans on. -/
import Derived.Test.YtldmepofbkcmnaaDoorFnTxtMorePr0
import Derived.ProofKit
import Derived.OpenShut
import Derived.ShutString
import Derived.ChangeOld
import Derived.Below
import Derived.SizedLaws
import Derived.DataElems
import Derived.Test.YtldmepofbkcmnaaDoorFnTxtMorePr35
import Derived.Test.YtldmepofbkcmnaaDoorFnTxtMorePr38
import Derived.Test.YtldmepofbkcmnaaDoorFnTxtMoreQCut
import Derived.Lib.LazyBuf
import Derived.Test.YtldmepofbkcmnaaDoorFnTxtMorePr34
import Derived.Test.YtldmepofbkcmnaaDoorFnTxtMorePr48
import Derived.Test.YtldmepofbkcmnaaDoorFnTxtMorePr11
import Derived.Test.YtldmepofbkcmnaaDoorFnTxtMorePr18
import Derived.Test.YtldmepofbkcmnaaDoorFnTxtMorePr23
import Derived.Test.YtldmepofbkcmnaaDoorFnTxtMorePr41
import Derived.Test.YtldmepofbkcmnaaDoorFnTxtMorePr45
import Derived.Test.YtldmepofbkcmnaaDoorFnTxtMorePr25
import Derived.Test.YtldmepofbkcmnaaDoorFnTxtMorePr26
import Derived.Test.YtldmepofbkcmnaaDoorFnTxtMorePr37
import Derived.Test.YtldmepofbkcmnaaDoorFnTxtMorePr40
import Derived.Test.YtldmepofbkcmnaaDoorFnTxtMorePr14
import Derived.Test.YtldmepofbkcmnaaDoorFnTxtMorePr15
import Derived.Test.YtldmepofbkcmnaaDoorFnTxtMorePr16
import Derived.Test.YtldmepofbkcmnaaDoorFnTxtMorePr24
import Derived.Test.YtldmepofbkcmnaaDoorFnTxtMorePr39
import Derived.Test.YtldmepofbkcmnaaDoorFnTxtMorePr19
import Derived.Test.YtldmepofbkcmnaaDoorFnTxtMorePr21
import Derived.Lib.Join
import Derived.Test.YtldmepofbkcmnaaDoorFnTxtMorePr12
import Derived.Test.YtldmepofbkcmnaaDoorFnTxtMorePr13
import Derived.Test.YtldmepofbkcmnaaDoorFnTxtMorePr36
import Derived.Test.YtldmepofbkcmnaaDoorFnTxtMorePr17
import Derived.Test.YtldmepofbkcmnaaDoorFnTxtMorePr20
import Derived.Test.YtldmepofbkcmnaaDoorFnTxtMorePr22
import Derived.Test.YtldmepofbkcmnaaDoorFnTxtMorePr5
set_option linter.unusedVariables false
set_option linter.unusedSimpArgs false
namespace Go.Proofs.YtldmepofbkcmnaaDoor.Pure
open Go.RowKit Go.Proofs.YtldmepofbkcmnaaDoor.Pr Go.Proofs.YtldmepofbkcmnaaDoorW.PrintWords Go.Proofs.YtldmepofbkcmnaaDoorW.PrintLast Go.Proofs.YtldmepofbkcmnaaDoorW.PrintMore
section
variable {H : Type} {enc : TypeId × Value → H} {P : Program} {W : World} {α β γ : Type}
structure Opens (enc : TypeId × Value → H) (P : Program) (W : World) (t : TypeId) (d : Kd α) (I : α → Prop) : Prop where
  out : ∀ (fuel : Nat) (cs : List Value) (x : DataW H × List MemPlace), DataW.trod enc P W 0 (fun _ => true) true fuel t cs = some x → ∃ y, d.K W y cs ∧ I y
theorem opens_int {t : TypeId} {k : IntKind} (hu : P.underlying t = some (.int k)) : Opens enc P W t (Kd.int k) (fun n => (Lit.int k n).wf = true) := ⟨by
  intro fuel cs x h
  cases fuel with
  | zero => simp [DataW.trod] at h
  | succ fuel =>
    simp only [DataW.trod, hu] at h
    split at h <;> simp_all
    exact ⟨_, rfl, h.1.2⟩⟩
theorem mapM_get {δ ε : Type} {f : δ → Option ε} : ∀ {xs : List δ} {ys : List ε}, xs.mapM f = some ys → ys.length = xs.length ∧ ∀ (j : Nat) x, xs[j]? = some x → ∃ y, ys[j]? = some y ∧ f x = some y
  | [], ys, h => by simp at h; subst h; simp
  | a :: xs, ys, h => by
    rw [List.mapM_cons] at h
    simp only [Option.bind_eq_bind, Option.bind_eq_some_iff, Option.pure_def, Option.some.injEq] at h
    obtain ⟨b, hb, zs, hz, rfl⟩ := h
    obtain ⟨h1, h2⟩ := mapM_get hz
    refine ⟨by simp [h1], ?_⟩
    intro j x hx
    cases j with
    | zero => simp at hx; subst hx; exact ⟨b, by simp, hb⟩
    | succ j => simpa using h2 j x (by simpa using hx)
theorem list_of {len : Nat} {Q : Nat → α → Prop} (h : ∀ j, j < len → ∃ y, Q j y) : ∃ ys : List α, ys.length = len ∧ ∀ (j : Nat) y, ys[j]? = some y → Q j y := by
  induction len with
  | zero => exact ⟨[], rfl, by simp⟩
  | succ n ih =>
    obtain ⟨ys, hl, hq⟩ := ih (fun j hj => h j (by omega))
    obtain ⟨y, hy⟩ := h n (by omega)
    refine ⟨ys ++ [y], by simp [hl], ?_⟩
    intro j z hz
    by_cases hj : j < ys.length
    · rw [List.getElem?_append_left hj] at hz; exact hq j z hz
    · rw [List.getElem?_append_right (by omega)] at hz
      have e : j - ys.length = 0 := by
        rcases Nat.eq_zero_or_pos (j - ys.length) with h0 | h0
        · exact h0
        · rw [List.getElem?_eq_none (by simp; omega)] at hz; cases hz
      rw [e] at hz
      simp at hz
      subst hz
      have : j = n := by omega
      subst this; exact hy
theorem cells_at {base : Nat} {a : Addr} {n : Nat} {c : List Value} (h : W.cells? base a n = some c) (i : Nat) (u : Value) (hu : c[i]? = some u) : W.cell? (a.add i) = some u := by
  unfold World.cells? at h
  split at h
  · obtain ⟨hl, hg⟩ := mapM_get h
    rw [List.length_range] at hl
    have hi : i < n := by rw [← hl]; exact (List.getElem?_eq_some_iff.1 hu).1
    obtain ⟨y, hy, hc⟩ := hg i i (by rw [List.getElem?_range hi])
    rw [hy] at hu
    cases hu
    exact hc
  · cases h
theorem opens_slice {t e : TypeId} {d : Kd α} {I : α → Prop} (hu : P.underlying t = some (.slice e)) (hc : P.cellsOf e = d.sz) (h : Opens enc P W e d I) : Opens enc P W t (Kd.slice e d) (fun xs => xs.length ≤ 9223372036854775807 ∧ ∀ x ∈ xs, I x) := ⟨by
  intro fuel cs x hx
  cases fuel with
  | zero => simp [DataW.trod] at hx
  | succ fuel =>
    unfold DataW.trod at hx
    rw [hu] at hx
    split at hx
    all_goals first | (rename_i heq; cases heq; done) | (rename_i heq _; cases heq; done) | (cases hx; done) | skip
    · exact ⟨[], ⟨none, 0, rfl, Nat.le_refl _, Kd.C_nil d W⟩, by simp, by simp⟩
    · rename_i e' a len cap heq
      injection heq with heq
      injection heq with heq
      subst heq
      dsimp only at hx
      split at hx
      · rename_i hlc
        obtain ⟨_, hle, hmax⟩ := hlc
        simp only [Option.bind_eq_some_iff, Option.map_eq_some_iff] at hx
        obtain ⟨elems, hel, _, _, _⟩ := hx
        obtain ⟨hlen, hget⟩ := mapM_get hel
        rw [List.length_range] at hlen
        obtain ⟨ys, hyl, hyq⟩ := list_of (len := len) (Q := fun j y => I y ∧ ∃ c, c.length = d.sz ∧ d.K W y c ∧ ∀ (i : Nat) u, c[i]? = some u → W.cell? (a.add (j * d.sz + i)) = some u) (by
          intro j hj
          obtain ⟨y, _, hy⟩ := hget j j (by rw [List.getElem?_range hj])
          rw [Option.bind_eq_some_iff] at hy
          obtain ⟨c, hcs, hy⟩ := hy
          obtain ⟨y', hK, hI⟩ := h.out fuel c _ hy
          refine ⟨y', hI, c, d.K_len hK, hK, ?_⟩
          intro i u hi
          rw [hc] at hcs
          have := cells_at hcs i u hi
          rw [Addr.add_add] at this
          exact this)
        refine ⟨ys, ⟨some a, cap, by rw [hyl], by omega, hyl ▸ rfl, by unfold maxLen at hmax; omega, fun _ => ⟨a, rfl, fun j p hj => (hyq j p hj).2⟩⟩, by unfold maxLen at hmax; omega, ?_⟩
        intro x hx
        obtain ⟨j, hj⟩ := List.getElem?_of_mem hx
        exact (hyq j x hj).1
      · cases hx⟩
end
end Go.Proofs.YtldmepofbkcmnaaDoor.Pure
set_option linter.unusedVariables false
set_option linter.unusedSimpArgs false
namespace Go.Proofs.YtldmepofbkcmnaaDoor.Pure
open Go.RowKit Go.Proofs.YtldmepofbkcmnaaDoor.Pr Go.Proofs.YtldmepofbkcmnaaDoorW.PrintWords Go.Proofs.YtldmepofbkcmnaaDoorW.PrintLast Go.Proofs.YtldmepofbkcmnaaDoorW.PrintMore
theorem evIf {α : Type} {c : Prop} [Decidable c] {g f : Nat → Option α} {r : α} (hc : c) (h : Ev g r) : Ev (fun k => if c then g k else f k) r :=
  Ev.congr (fun _ => if_pos hc) h
theorem evElse {α : Type} {c : Prop} [Decidable c] {g f : Nat → Option α} {r : α} (hc : ¬ c) (h : Ev f r) : Ev (fun k => if c then g k else f k) r :=
  Ev.congr (fun _ => if_neg hc) h
theorem evSome {α β : Type} {a : α} {f : Nat → α → Option β} {r : β} (h : Ev (fun k => f k a) r) : Ev (fun k => (some a).bind (f k)) r := h
theorem evNow {α : Type} {g : Option α} {r : α} (h : g = some r) : Ev (fun _ => g) r := ⟨0, fun _ _ => h⟩
theorem evBindC {α β : Type} {g : Option α} {f : Nat → α → Option β} {a : α} {r : β} (h : g = some a) (k : Ev (fun n => f n a) r) : Ev (fun n => g.bind (f n)) r := by
  subst h; exact k
theorem w64 {x : Int} (h : -9223372036854775808 ≤ x) (h2 : x ≤ 9223372036854775807) : wrap64 x = x := by unfold wrap64; omega
def Run {α : Type} (g : Nat → Option α) (Q : α → Prop) : Prop := ∃ r, Ev g r ∧ Q r
theorem Run.ret {α : Type} {r : α} {Q : α → Prop} (h : Q r) : Run (fun _ => some r) Q := ⟨r, Ev.now r, h⟩
theorem Run.bind {α β : Type} {g : Nat → Option α} {f : Nat → α → Option β} {Q : α → Prop} {R : β → Prop} (h : Run g Q) (k : ∀ a, Q a → Run (fun n => f n a) R) : Run (fun n => (g n).bind (f n)) R := by
  obtain ⟨a, ha, qa⟩ := h
  obtain ⟨b, hb, rb⟩ := k a qa
  exact ⟨b, ha.bind hb, rb⟩
theorem Run.evBind {α β : Type} {g : Nat → Option α} {f : Nat → α → Option β} {a : α} {R : β → Prop} (h : Ev g a) (k : Run (fun n => f n a) R) : Run (fun n => (g n).bind (f n)) R := by
  obtain ⟨b, hb, rb⟩ := k
  exact ⟨b, h.bind hb, rb⟩
theorem Run.some {α β : Type} {a : α} {f : Nat → α → Option β} {R : β → Prop} (k : Run (fun n => f n a) R) : Run (fun n => (Option.some a).bind (f n)) R := k
theorem Run.constBind {α β : Type} {g : Option α} {f : Nat → α → Option β} {a : α} {R : β → Prop} (h : g = Option.some a) (k : Run (fun n => f n a) R) : Run (fun n => g.bind (f n)) R := by subst h; exact k
theorem Run.ite {α : Type} {c : Prop} [Decidable c] {g f : Nat → Option α} {Q : α → Prop} (h : c → Run g Q) (k : ¬ c → Run f Q) : Run (fun n => if c then g n else f n) Q := by
  by_cases hc : c
  · obtain ⟨r, e, q⟩ := h hc; exact ⟨r, evIf hc e, q⟩
  · obtain ⟨r, e, q⟩ := k hc; exact ⟨r, evElse hc e, q⟩
theorem Run.pos {α : Type} {c : Prop} [Decidable c] {g f : Nat → Option α} {Q : α → Prop} (hc : c) (h : Run g Q) : Run (fun n => if c then g n else f n) Q := Run.ite (fun _ => h) (fun k => absurd hc k)
theorem Run.neg {α : Type} {c : Prop} [Decidable c] {g f : Nat → Option α} {Q : α → Prop} (hc : ¬ c) (h : Run f Q) : Run (fun n => if c then g n else f n) Q := Run.ite (fun k => absurd k hc) (fun _ => h)
theorem Run.step {α : Type} {g f : Nat → Option α} {Q : α → Prop} (h : ∀ k, g (k + 1) = f k) (k : Run f Q) : Run g Q := by
  obtain ⟨r, e, q⟩ := k; exact ⟨r, Ev.step h e, q⟩
theorem Run.get {α : Type} {g : Nat → Option α} {r : α} (h : Run g (· = r)) : ∃ k, g k = Option.some r := by
  obtain ⟨r', e, rfl⟩ := h; exact e.rounds
theorem Ev.run {α : Type} {g : Nat → Option α} {r : α} (h : Ev g r) : Run g (· = r) := ⟨r, h, rfl⟩
theorem wfb {n : Int} (h : (Lit.int .u8 n).wf = true) : 0 ≤ n ∧ n ≤ 255 := by
  simp [Lit.wf, IntKind.min, IntKind.max, IntKind.bits, IntKind.signed] at h; omega
end Go.Proofs.YtldmepofbkcmnaaDoor.Pure
set_option linter.unusedVariables false
set_option linter.unusedSimpArgs false
namespace Go.Proofs.YtldmepofbkcmnaaDoor.Pure
open Go.RowKit Go.Proofs.YtldmepofbkcmnaaDoor.Pr Go.Proofs.YtldmepofbkcmnaaDoorW.PrintWords Go.Proofs.YtldmepofbkcmnaaDoorW.PrintLast Go.Proofs.YtldmepofbkcmnaaDoorW.PrintMore
theorem ofInt_i64 (a : Nat) (ha : a < 18446744073709551616) : (BitVec.ofInt 64 (a : Int)).toNat = a := by
  rw [BitVec.ofInt_natCast, BitVec.toNat_ofNat]; exact Nat.mod_eq_of_lt (by omega)
theorem xor_i64 (a b : Int) (h1 : 0 ≤ a) (h2 : a < 4611686018427387904) (h3 : 0 ≤ b) (h4 : b < 4611686018427387904) : 0 ≤ Go.bits .xor .i64 a b := by
  obtain ⟨A, rfl⟩ := Int.eq_ofNat_of_zero_le h1
  obtain ⟨B, rfl⟩ := Int.eq_ofNat_of_zero_le h3
  have hx : A ^^^ B < 2 ^ 62 := Nat.xor_lt_two_pow (by omega) (by omega)
  have e : Go.bits .xor .i64 (A : Int) (B : Int) = IntKind.i64.wrap ((BitVec.ofInt 64 (A : Int) ^^^ BitVec.ofInt 64 (B : Int)).toNat : Int) := rfl
  rw [e, BitVec.toNat_xor, ofInt_i64 A (by omega), ofInt_i64 B (by omega), IntKind.wrap_i64]
  omega
theorem tmod_range (a n : Int) (h : 0 ≤ a) (hn : 1 ≤ n) : 0 ≤ Int.tmod a n ∧ Int.tmod a n < n := by
  rw [Int.tmod_eq_emod_of_nonneg h]; exact ⟨Int.emod_nonneg _ (by omega), Int.emod_lt_of_pos _ (by omega)⟩
def Bytes (b : List Int) : Prop := b.length ≤ 2000 ∧ ∀ x ∈ b, 0 ≤ x ∧ x ≤ 255
theorem Bytes.at_ {b : List Int} (h : Bytes b) (i : Int) : 0 ≤ rd b i ∧ rd b i ≤ 255 := by
  unfold rd
  rw [List.getD_eq_getElem?_getD]
  cases e : b[i.toNat]? with
  | none => simp
  | some x => simpa using h.2 x (List.mem_of_getElem? e)
def LIMP : Int := 1099511627776
theorem pick_run {b : List Int} (hb : Bytes b) {p n : Int} (hp : 0 ≤ p) (hp2 : p < LIMP) : Run (fun k => spec_l20Rd_pick.f k b p n) (fun r => 0 ≤ r.1 ∧ (1 ≤ n → r.1 < n) ∧ (n < 1 → r.1 = 0) ∧ r.2 = p + 1) := by
  unfold LIMP at hp2
  have hl := hb.1
  have w1 : wrap64 (p + 1) = p + 1 := w64 (by omega) (by omega)
  have w2 : wrap64 (p + 1 - 1) = p := by rw [w64 (by omega) (by omega)]; omega
  unfold spec_l20Rd_pick.f
  by_cases hn : n < 1
  · refine Run.pos hn (Run.step (fun k => by rw [spec_l20Rd_pick.j0]) (Run.pos rfl (Run.ret ?_)))
    rw [w1]; exact ⟨by omega, by omega, fun _ => rfl, rfl⟩
  · refine Run.neg hn (Run.step (fun k => by rw [spec_l20Rd_pick.j0]) ?_)
    by_cases h0 : b.length = 0
    · refine Run.pos (by simp [h0]) (Run.ret ?_)
      rw [w1]; exact ⟨by omega, by omega, by omega, rfl⟩
    · refine Run.neg (by simp; intro h; simp [h] at h0) ?_
      rw [w1, w2]
      by_cases hlt : p < (b.length : Int)
      · refine Run.pos hlt (Run.pos hp (Run.neg (by omega) (Run.ret ?_)))
        obtain ⟨r0, r1⟩ := hb.at_ p
        rw [w64 (by omega) (by omega)]
        obtain ⟨m0, m1⟩ := tmod_range (rd b p) n r0 (by omega)
        exact ⟨m0, fun _ => m1, by omega, rfl⟩
      · have hL : (1 : Int) ≤ b.length := by omega
        have e7 : wrap64 (wrap64 (p * 7) + 3) = p * 7 + 3 := by rw [w64 (x := p * 7) (by omega) (by omega), w64 (by omega) (by omega)]
        rw [e7]
        obtain ⟨a0, a1⟩ := tmod_range p b.length hp hL
        obtain ⟨c0, c1⟩ := tmod_range (p * 7 + 3) b.length (by omega) hL
        refine Run.neg hlt (Run.neg (by omega) (Run.pos a0 (Run.pos a1 (Run.pos c0 (Run.pos c1 (Run.neg (by omega) (Run.ret ?_)))))))
        obtain ⟨x0, x1⟩ := hb.at_ (Int.tmod p b.length)
        obtain ⟨y0, y1⟩ := hb.at_ (Int.tmod (p * 7 + 3) b.length)
        have ed : Int.tdiv p (b.length : Int) = p / (b.length : Int) := Int.tdiv_eq_ediv_of_nonneg hp
        have d0 : 0 ≤ p / (b.length : Int) := Int.ediv_nonneg hp (by omega)
        have d1 : p / (b.length : Int) ≤ p := Int.ediv_le_self _ hp
        rw [ed]
        generalize p / (b.length : Int) = q at d0 d1 ⊢
        generalize rd b (Int.tmod p b.length) = x at x0 x1 ⊢
        generalize rd b (Int.tmod (p * 7 + 3) b.length) = y at y0 y1 ⊢
        have eX : wrap64 (wrap64 (wrap64 (wrap64 (wrap64 x * 131) + wrap64 (wrap64 y * 1117)) + wrap64 (p * 29)) + wrap64 (wrap64 q * 53)) = x * 131 + y * 1117 + p * 29 + q * 53 := by
          rw [w64 (x := x) (by omega) (by omega), w64 (x := y) (by omega) (by omega), w64 (x := q) (by omega) (by omega), w64 (x := x * 131) (by omega) (by omega), w64 (x := y * 1117) (by omega) (by omega), w64 (x := p * 29) (by omega) (by omega), w64 (x := q * 53) (by omega) (by omega), w64 (x := x * 131 + y * 1117) (by omega) (by omega), w64 (x := x * 131 + y * 1117 + p * 29) (by omega) (by omega), w64 (by omega) (by omega)]
        rw [eX]
        generalize hX : x * 131 + y * 1117 + p * 29 + q * 53 = X
        have X0 : 0 ≤ X := by omega
        have X1 : X < 4611686018427387904 := by omega
        have et : Int.tdiv X 64 = X / 64 := Int.tdiv_eq_ediv_of_nonneg X0
        rw [et, w64 (x := X / 64) (by omega) (by omega)]
        obtain ⟨m0, m1⟩ := tmod_range _ n (xor_i64 X (X / 64) X0 X1 (by omega) (by omega)) (by omega)
        exact ⟨m0, fun _ => m1, by omega, rfl⟩
theorem open_eq (l : List Int) (h : ∀ x ∈ l, (Lit.int .u8 x).wf = true) : ∃ b, spec_l20Open.f l = some (b, 0) ∧ Bytes b := by
  unfold spec_l20Open.f
  have hb : ∀ x ∈ l, 0 ≤ x ∧ x ≤ 255 := fun x hx => wfb (h x hx)
  by_cases hl : (l.length : Int) > 2000
  · refine ⟨_, by rw [if_pos hl, if_pos (by omega)], by simp; omega, fun x hx => hb x (List.mem_of_mem_take hx)⟩
  · exact ⟨_, by rw [if_neg hl], by omega, hb⟩
end Go.Proofs.YtldmepofbkcmnaaDoor.Pure
set_option linter.unusedVariables false
set_option linter.unusedSimpArgs false
namespace Go.Proofs.YtldmepofbkcmnaaDoor.Pure
open Go.RowKit Go.Proofs.YtldmepofbkcmnaaDoor.Pr Go.Proofs.YtldmepofbkcmnaaDoorW.PrintWords Go.Proofs.YtldmepofbkcmnaaDoorW.PrintLast Go.Proofs.YtldmepofbkcmnaaDoorW.PrintMore
theorem wnext {n i : Nat} (h : i < n) (hn : n ≤ 9223372036854775807) : wrap64 ((i : Int) + 1) = ((i + 1 : Nat) : Int) := by
  rw [w64 (by omega) (by omega)]; omega
theorem dropCons {α : Type} (l : List α) (i : Nat) (h : i < l.length) : l.drop i = l[i] :: l.drop (i + 1) := List.drop_eq_getElem_cons h
end Go.Proofs.YtldmepofbkcmnaaDoor.Pure
set_option linter.unusedVariables false
set_option linter.unusedSimpArgs false
namespace Go.Proofs.YtldmepofbkcmnaaDoor.Pure
open Go.RowKit Go.Proofs.YtldmepofbkcmnaaDoor.Pr Go.Proofs.YtldmepofbkcmnaaDoorW.PrintWords Go.Proofs.YtldmepofbkcmnaaDoorW.PrintLast Go.Proofs.YtldmepofbkcmnaaDoorW.PrintMore
def bl (s : ByteArray) : List UInt8 := s.data.toList
theorem bl_len (s : ByteArray) : s.size = (bl s).length := Go.Lib.size_eq s
theorem bl_mk (l : List UInt8) : bl (⟨l.toArray⟩ : ByteArray) = l := rfl
theorem bl_ext {s t : ByteArray} (h : bl s = bl t) : s = t := by
  have : s.data = t.data := by rw [← Array.toArray_toList (xs := s.data), ← Array.toArray_toList (xs := t.data)]; exact congrArg List.toArray h
  cases s; cases t; simp only at this; subst this; rfl
theorem bl_app (s t : ByteArray) : bl (s ++ t) = bl s ++ bl t := by simp [bl]
theorem bt_bl (s : ByteArray) (i : Nat) (h : i < (bl s).length) : bt s (i : Int) = ((bl s)[i].toNat : Int) := by
  unfold bt
  have hs : i < s.size := by rw [bl_len]; exact h
  rw [Int.toNat_natCast, dif_pos hs]
  rfl
theorem rdS (l : List ByteArray) (i : Nat) (h : i < l.length) : rdOf ByteArray.empty l (i : Int) = l[i] := by unfold rdOf; simp [h]
theorem toList_nil (s : ByteArray) : s.toList = [] ↔ bl s = [] := by rw [Go.Lib.toList_data]; rfl
end Go.Proofs.YtldmepofbkcmnaaDoor.Pure
set_option linter.unusedVariables false
set_option linter.unusedSimpArgs false
namespace Go.Proofs.YtldmepofbkcmnaaDoor.Pure
open Go.RowKit Go.Proofs.YtldmepofbkcmnaaDoor.Pr Go.Proofs.YtldmepofbkcmnaaDoorW.PrintWords Go.Proofs.YtldmepofbkcmnaaDoorW.PrintLast Go.Proofs.YtldmepofbkcmnaaDoorW.PrintMore
theorem wordSize (t : Int) (h0 : 0 ≤ t) (h : t < 7) : (rdOf ByteArray.empty (([(⟨#[97]⟩ : ByteArray), (⟨#[97, 110]⟩ : ByteArray), (⟨#[116, 104, 101]⟩ : ByteArray), (⟨#[111, 118, 101, 114]⟩ : ByteArray), (⟨#[117, 110, 100, 101, 114]⟩ : ByteArray), (⟨#[109, 101, 97, 100, 111, 119]⟩ : ByteArray), (⟨#[108, 105, 103, 104, 116, 104, 111, 117, 115, 101]⟩ : ByteArray)] : List ByteArray)) t).size ≤ 10 := by
  have : t = 0 ∨ t = 1 ∨ t = 2 ∨ t = 3 ∨ t = 4 ∨ t = 5 ∨ t = 6 := by omega
  rcases this with e | e | e | e | e | e | e <;> rw [e] <;> decide
theorem badSize (t : Int) (h0 : 0 ≤ t) (h : t < 7) : (rdOf ByteArray.empty (([(⟨#[32]⟩ : ByteArray), (⟨#[32, 32]⟩ : ByteArray), (⟨#[65]⟩ : ByteArray), (⟨#[49]⟩ : ByteArray), (⟨#[45]⟩ : ByteArray), (⟨#[0]⟩ : ByteArray), (⟨#[97, 98, 99, 100, 101, 102, 103, 104, 105, 106, 97, 98, 99, 100, 101, 102, 103, 104, 105, 106, 97, 98, 99, 100, 101, 102, 103, 104, 105, 106, 120]⟩ : ByteArray)] : List ByteArray)) t).size ≤ 31 := by
  have : t = 0 ∨ t = 1 ∨ t = 2 ∨ t = 3 ∨ t = 4 ∨ t = 5 ∨ t = 6 := by omega
  rcases this with e | e | e | e | e | e | e <;> rw [e] <;> decide
theorem text_run {b : List Int} (hb : Bytes b) {p : Int} (hp : 0 ≤ p) (hp2 : p + 8 < LIMP) : Run (fun k => spec_l20Text.f k b p) (fun r => r.1.size ≤ 30 ∧ p ≤ r.2 ∧ r.2 ≤ p + 6) := by
  unfold spec_l20Text.f
  refine Run.bind (pick_run hb (n := 6) hp (by omega)) fun r0 h0 => ?_
  obtain ⟨a0, a1, _, a2⟩ := h0
  generalize hW : (([(⟨#[97]⟩ : ByteArray), (⟨#[97, 110]⟩ : ByteArray), (⟨#[116, 104, 101]⟩ : ByteArray), (⟨#[111, 118, 101, 114]⟩ : ByteArray), (⟨#[117, 110, 100, 101, 114]⟩ : ByteArray), (⟨#[109, 101, 97, 100, 111, 119]⟩ : ByteArray), (⟨#[108, 105, 103, 104, 116, 104, 111, 117, 115, 101]⟩ : ByteArray)] : List ByteArray)) = W
  have hWl : W.length = 7 := by rw [← hW]; rfl
  have hWs : ∀ t : Int, 0 ≤ t → t < 7 → (rdOf ByteArray.empty W t).size ≤ 10 := by rw [← hW]; exact wordSize
  clear hW
  have loop : ∀ (d : Nat) (s : ByteArray) (q : Int), d ≤ 5 → s.size ≤ 30 → 0 ≤ q → q + (d : Int) ≤ p + 6 → p ≤ q → Run (fun k => spec_l20Text.l0 k W s (d : Int) b q) (fun r => r.1.size ≤ 30 ∧ p ≤ r.2 ∧ r.2 ≤ p + 6) := by
    intro d
    induction d with
    | zero =>
      intro s q _ hs hq hq2 hpq
      refine Run.step (fun k => by rw [spec_l20Text.l0]) (Run.neg (by omega) (Run.ret ?_))
      exact ⟨hs, by show p ≤ q; omega, by show q ≤ p + 6; omega⟩
    | succ d ih =>
      intro s q hd hs hq hq2 hpq
      have e1 : wrap64 (((d + 1 : Nat) : Int) - 1) = (d : Int) := by rw [w64 (by omega) (by omega)]; omega
      refine Run.step (fun k => by rw [spec_l20Text.l0]) (Run.pos (by omega) (Run.bind (pick_run hb (n := (W.length : Int)) hq (by omega)) fun r1 h1 => ?_))
      obtain ⟨b0, b1, _, b2⟩ := h1
      have b3 := b1 (by omega)
      have hw := hWs r1.1 b0 (by omega)
      rw [e1]
      refine Run.pos b0 (Run.pos b3 ?_)
      clear e1
      generalize rdOf ByteArray.empty W r1.1 = v at hw ⊢
      have go : ∀ u : ByteArray, u.size ≤ 30 → Run (fun k => spec_l20Text.l0 k W u (d : Int) b r1.2) (fun r => r.1.size ≤ 30 ∧ p ≤ r.2 ∧ r.2 ≤ p + 6) := fun u hu => ih u r1.2 (by omega) hu (by omega) (by omega) (by omega)
      refine Run.ite (fun _ => go v (by omega)) (fun _ => ?_)
      have e2 : wrap64 (wrap64 ((s.size : Int) + 1) + (v.size : Int)) = (s.size : Int) + 1 + (v.size : Int) := by rw [w64 (x := (s.size : Int) + 1) (by omega) (by omega), w64 (by omega) (by omega)]
      rw [e2]
      clear e2
      have e3 : (s ++ (⟨#[32]⟩ : ByteArray)).size = s.size + 1 := by rw [ByteArray.size_append]; rfl
      refine Run.ite (fun hle => ?_) (fun _ => go s hs)
      refine Run.pos (by omega) (Run.pos (by rw [e3]; omega) (go _ ?_))
      rw [ByteArray.size_append, e3]; omega
  obtain ⟨t, q⟩ := r0
  obtain ⟨n, rfl⟩ : ∃ n : Nat, t = (n : Int) := ⟨t.toNat, by have a0' : 0 ≤ t := a0; omega⟩
  have a1' : (n : Int) < 6 := a1 (by omega)
  have a2' : q = p + 1 := a2
  exact loop n _ q (by omega) (by show 0 ≤ 30; omega) (by omega) (by omega) (by omega)
theorem anyText_run {b : List Int} (hb : Bytes b) {p n : Int} (hp : 0 ≤ p) (hp2 : p + 16 < LIMP) : Run (fun k => spec_l20AnyText.f k b p n) (fun r => r.1.size ≤ 100 ∧ p ≤ r.2 ∧ r.2 ≤ p + 10) := by
  unfold spec_l20AnyText.f
  refine Run.bind (text_run hb hp (by omega)) fun r0 h0 => ?_
  obtain ⟨s, q⟩ := r0
  have s1 : s.size ≤ 30 := h0.1
  have s2 : p ≤ q := h0.2.1
  have s3 : q ≤ p + 6 := h0.2.2
  refine Run.bind (pick_run hb (n := n) (show 0 ≤ q by omega) (by omega)) fun r1 h1 => ?_
  obtain ⟨_, _, _, a2⟩ := h1
  have a2' : r1.2 = q + 1 := a2
  refine Run.ite (fun _ => Run.ret ⟨by show s.size ≤ 100; omega, by show p ≤ r1.2; omega, by show r1.2 ≤ p + 10; omega⟩) (fun _ => ?_)
  have e1 : wrap64 ((s.size : Int) + 1) = (s.size : Int) + 1 := w64 (by omega) (by omega)
  show Run (fun k => (spec_l20Rd_pick.f k b r1.2 (wrap64 ((s.size : Int) + 1))).bind _) _
  rw [e1]
  refine Run.bind (pick_run hb (n := (s.size : Int) + 1) (show 0 ≤ r1.2 by omega) (by omega)) fun r2 h2 => ?_
  obtain ⟨b0, b1, _, b2⟩ := h2
  have b3 := b1 (by omega)
  refine Run.pos b0 (Run.pos (by show r2.1 ≤ (s.size : Int); omega) (Run.some (Run.bind (pick_run hb (n := 7) (show 0 ≤ r2.2 by omega) (by omega)) fun r3 h3 => ?_)))
  obtain ⟨c0, c1, _, c2⟩ := h3
  have c3 := c1 (by omega)
  have hz := badSize r3.1 c0 c3
  refine Run.pos c0 (Run.pos (by show r3.1 < 7; omega) ?_)
  have z1 : (s.extract 0 (r2.1 : Int).toNat).size ≤ 30 := by rw [ByteArray.size_extract]; omega
  have z2 : (s.extract (r2.1 : Int).toNat s.size).size ≤ 30 := by rw [ByteArray.size_extract]; omega
  refine Run.pos (by show (s.extract 0 (r2.1 : Int).toNat).size + _ ≤ _; omega) (Run.pos (by rw [ByteArray.size_append]; show (s.extract 0 (r2.1 : Int).toNat).size + _ + (s.extract (r2.1 : Int).toNat s.size).size ≤ _; omega) (Run.ret ?_))
  refine ⟨?_, by show p ≤ r3.2; omega, by show r3.2 ≤ p + 10; omega⟩
  show (ByteArray.size _) ≤ 100
  rw [ByteArray.size_append, ByteArray.size_append]
  show (s.extract 0 (r2.1 : Int).toNat).size + _ + (s.extract (r2.1 : Int).toNat s.size).size ≤ _
  omega
end Go.Proofs.YtldmepofbkcmnaaDoor.Pure
set_option linter.unusedVariables false
set_option linter.unusedSimpArgs false
namespace Go.Proofs.YtldmepofbkcmnaaDoor.Pure
open Go.RowKit Go.Proofs.YtldmepofbkcmnaaDoor.Pr Go.Proofs.YtldmepofbkcmnaaDoorW.PrintWords Go.Proofs.YtldmepofbkcmnaaDoorW.PrintLast Go.Proofs.YtldmepofbkcmnaaDoorW.PrintMore
theorem drawLines (l : List Int) (h : ∀ x ∈ l, (Lit.int .u8 x).wf = true) : Run (fun k => spec_DrawTxtLines.f k l) (fun r => r.1.size ≤ 100 ∧ -1 ≤ r.2 ∧ r.2 ≤ 30) := by
  unfold spec_DrawTxtLines.f
  obtain ⟨b, e, hb⟩ := open_eq l h
  have hL : (1000 : Int) < LIMP := by unfold LIMP; omega
  refine Run.constBind e ?_
  refine Run.bind (anyText_run hb (p := 0) (n := 12) (by omega) (by omega)) fun s hs => ?_
  obtain ⟨s1, s2, s3⟩ := hs
  refine Run.bind (pick_run hb (p := s.2) (n := 31) s2 (by omega)) fun a ha => ?_
  obtain ⟨a1, a2, a3, a4⟩ := ha
  have a5 := a2 (by omega)
  refine Run.some ?_
  refine Run.bind (pick_run hb (p := a.2) (n := 9) (by omega) (by omega)) fun c hc => ?_
  obtain ⟨c1, c2, c3, c4⟩ := hc
  have c5 := c2 (by omega)
  refine Run.pos c1 (Run.pos (by show c.1 < 9; omega) (Run.ret ⟨s1, ?_⟩))
  have : c.1 = 0 ∨ c.1 = 1 ∨ c.1 = 2 ∨ c.1 = 3 ∨ c.1 = 4 ∨ c.1 = 5 ∨ c.1 = 6 ∨ c.1 = 7 ∨ c.1 = 8 := by omega
  rcases this with e | e | e | e | e | e | e | e | e <;> rw [e] <;> simp [rd] <;> omega
end Go.Proofs.YtldmepofbkcmnaaDoor.Pure
set_option linter.unusedVariables false
set_option linter.unusedSimpArgs false
namespace Go.Proofs.YtldmepofbkcmnaaDoor.Pure
open Go.RowKit Go.Proofs.YtldmepofbkcmnaaDoor.Pr Go.Proofs.YtldmepofbkcmnaaDoorW.PrintWords Go.Proofs.YtldmepofbkcmnaaDoorW.PrintLast Go.Proofs.YtldmepofbkcmnaaDoorW.PrintMore
theorem l1In_eq (a b c : Int) : spec_l1In.f a b c = some (decide (b ≤ a) && decide (a ≤ c)) := by
  unfold spec_l1In.f; by_cases h : a ≥ b <;> simp [h] <;> omega
end Go.Proofs.YtldmepofbkcmnaaDoor.Pure
set_option linter.unusedVariables false
set_option linter.unusedSimpArgs false
namespace Go.Proofs.YtldmepofbkcmnaaDoor.Pure
open Go.RowKit Go.Proofs.YtldmepofbkcmnaaDoor.Pr Go.Proofs.YtldmepofbkcmnaaDoorW.PrintWords Go.Proofs.YtldmepofbkcmnaaDoorW.PrintLast Go.Proofs.YtldmepofbkcmnaaDoorW.PrintMore
theorem byte32 {b : UInt8} : ((b.toNat : Int) = 32) ↔ b = 32 := by
  constructor
  · intro h
    have : b.toNat = 32 := by omega
    exact UInt8.toNat_inj.mp (by rw [this]; rfl)
  · rintro rfl; rfl
theorem cutL_le : ∀ (l w : List UInt8), w ∈ cutL l → w.length ≤ l.length := by
  intro l
  induction l with
  | nil => intro w h; simp [cutL] at h; subst h; simp
  | cons b l ih =>
    intro w h
    by_cases hb : b = 32
    · subst hb
      rw [cutL_blank] at h
      rcases List.mem_cons.mp h with rfl | h
      · simp
      · have := ih w h; simp; omega
    · obtain ⟨v, vs, e⟩ := cutL_ne l
      rw [cutL_other hb e] at h
      rcases List.mem_cons.mp h with rfl | h
      · have := ih v (by rw [e]; simp); simp; omega
      · have := ih w (by rw [e]; simp [h]); simp; omega
theorem cutB_le (s w : ByteArray) (h : w ∈ cutB s) : w.size ≤ s.size := by
  obtain ⟨l, hl, rfl⟩ := List.mem_map.mp h
  rw [bl_len, bl_len, bl_mk]
  exact cutL_le _ _ hl
def goodB (w : ByteArray) : Bool := goodW (bl w)
theorem cutB_good (s : ByteArray) : (cutB s).all goodB = (cutL (bl s)).all goodW := by
  unfold cutB
  rw [List.all_map]; rfl
def txtOk (s : ByteArray) : Bool := txtOkL (bl s)
theorem txtOk_le {s : ByteArray} (h : txtOk s = true) : s.size ≤ 30 := by
  unfold txtOk txtOkL at h
  rw [bl_len]
  rcases Bool.or_eq_true_iff.mp h with h | h
  · have : bl s = [] := by simpa using h
    rw [this]; simp
  · rw [Bool.and_eq_true] at h; simpa using h.1
theorem trim_ok (w : ByteArray) (h : w.size ≤ 9223372036854775807) : strings_Trim.f w (⟨#[97, 98, 99, 100, 101, 102, 103, 104, 105, 106, 107, 108, 109, 110, 111, 112, 113, 114, 115, 116, 117, 118, 119, 120, 121, 122]⟩ : ByteArray) = some ⟨(Go.Lib.trimS (bl w) letters26).toArray⟩ := by
  unfold strings_Trim.f
  rw [if_pos ⟨rfl, h⟩]; rfl
theorem implTxtOk (s : ByteArray) (h : s.size < 4294967281) : Ev (fun k => impl_TxtOk.f k s) (txtOk s) := by
  unfold impl_TxtOk.f txtOk txtOkL
  by_cases h0 : bl s = []
  · refine evIf ((toList_nil s).mpr h0) (evNow ?_)
    rw [h0]; rfl
  · refine evElse (fun e => h0 ((toList_nil s).mp e)) ?_
    refine evBindC (show strings_Split.f s (⟨#[32]⟩ : ByteArray) = some (cutB s) by unfold strings_Split.f; rw [if_pos ⟨rfl, h⟩]) ?_
    have hn : (cutB s).length ≤ s.size + 1 := by
      have := List.count_le_length (a := (32 : UInt8)) (l := bl s)
      rw [show (cutB s).length = (bl s).count 32 + 1 by rw [cutB, List.length_map, cutL_length]; rfl, bl_len]; omega
    have loop : ∀ (d i : Nat), i + d = (cutB s).length → Ev (fun k => impl_TxtOk.l0 k s (cutB s) ((cutB s).length : Int) i) (((cutB s).drop i).all goodB && decide ((s.size : Int) ≤ 30)) := by
      intro d
      induction d with
      | zero =>
        intro i hi
        obtain rfl : i = (cutB s).length := by omega
        rw [List.drop_length]
        refine Ev.step (fun k => by rw [impl_TxtOk.l0]) ?_
        exact evElse (by omega) (evNow (by simp))
      | succ d ih =>
        intro i hi
        have hlt : i < (cutB s).length := by omega
        have hw : (cutB s)[i].size ≤ s.size := cutB_le s _ (List.getElem_mem _)
        rw [dropCons _ i hlt, List.all_cons]
        refine Ev.step (fun k => by rw [impl_TxtOk.l0]) (evIf (by omega) (evIf (by omega) (evIf (by omega) ?_)))
        rw [rdS _ i hlt]
        generalize (cutB s)[i] = w at hw ⊢
        by_cases he : bl w = []
        · refine evIf ((toList_nil w).mpr he) (evNow ?_)
          simp [goodB, goodW, he]
        · refine evElse (fun e => he ((toList_nil w).mp e)) (evBindC (trim_ok w (by omega)) ?_)
          have ht := trim_empty (bl w)
          have he' : (bl w).isEmpty = false := by simpa using he
          have hg : goodB w = (bl w).all letter := by simp [goodB, goodW, he']
          rw [hg, ← ht]
          cases hc : (Go.Lib.trimS (bl w) letters26).isEmpty with
          | true =>
            refine evIf ((toList_nil _).mpr (by rw [bl_mk]; simpa using hc)) ?_
            rw [wnext (n := (cutB s).length) (by omega) (by omega)]
            simpa using ih (i + 1) (by omega)
          | false =>
            refine evElse (fun e => ?_) (evNow (by simp))
            have := (toList_nil _).mp e
            rw [bl_mk] at this
            rw [this] at hc; simp at hc
    have := loop (cutB s).length 0 (by omega)
    rw [List.drop_zero, cutB_good] at this
    have he : (bl s).isEmpty = false := by simpa using h0
    have hd : decide ((s.size : Int) ≤ 30) = decide ((bl s).length ≤ 30) := by rw [← bl_len]; exact decide_eq_decide.mpr (by omega)
    rw [he, Bool.false_or, Bool.and_comm, ← hd]
    exact this
theorem specTxtOk (s : ByteArray) (h : s.size ≤ 9223372036854775807) : Ev (fun k => spec_TxtOk.f k s) (txtOk s) := by
  unfold spec_TxtOk.f txtOk txtOkL
  have hsz := bl_len s
  by_cases h30 : (s.size : Int) > 30
  · refine evIf h30 (evNow ?_)
    have h1 : (bl s).isEmpty = false := by
      cases hb : bl s with
      | nil => rw [hsz, hb] at h30; simp at h30
      | cons _ _ => rfl
    have h2 : decide ((bl s).length ≤ 30) = false := decide_eq_false (by omega)
    rw [h1, h2]; rfl
  · refine evElse h30 ?_
    have hd : decide ((bl s).length ≤ 30) = true := decide_eq_true (by omega)
    have loop : ∀ (d i : Nat) (p : Bool), i + d = (bl s).length → (i = 0 → p = true) → (∀ j, i = j + 1 → ∀ b, (bl s)[j]? = some b → (p = true ↔ b = 32)) → (d = 0 → p = false) → Ev (fun k => spec_TxtOk.l0 k s i) (okFrom p ((bl s).drop i)) := by
      intro d
      induction d with
      | zero =>
        intro i p hi _ _ hp
        rw [hp rfl, show i = (bl s).length by omega, List.drop_length]
        refine Ev.step (fun k => by rw [spec_TxtOk.l0]) ?_
        exact evElse (by omega) (evNow rfl)
      | succ d ih =>
        intro i p hi h0 hprev _
        have hlt : i < (bl s).length := by omega
        have hx : (bl s)[i]? = some (bl s)[i] := by simp [hlt]
        rw [dropCons _ i hlt, okFrom]
        refine Ev.step (fun k => by rw [spec_TxtOk.l0]) (evIf (by omega) (evIf (by omega) ?_))
        have hb := bt_bl s i hlt
        rw [hb]
        have bad : Ev (fun k => spec_TxtOk.j1 k s i true) false := by
          refine Ev.step (fun k => by rw [spec_TxtOk.j1]) ?_
          exact evIf rfl (evNow rfl)
        generalize hbe : (bl s)[i] = b at hx hb ⊢
        have en := wnext (n := (bl s).length) (i := i) (by omega) (by omega)
        have hx' : ∀ q : Bool, (q = true ↔ b = 32) → ∀ j, i + 1 = j + 1 → ∀ b', (bl s)[j]? = some b' → (q = true ↔ b' = 32) := by
          intro q hq j hj b' hb'
          obtain rfl : j = i := by omega
          rw [hx] at hb'; cases hb'; exact hq
        by_cases h32 : b = 32
        · subst h32
          rw [if_pos rfl]
          have good : i + 1 < (bl s).length → Ev (fun k => spec_TxtOk.j1 k s i false) (okFrom true ((bl s).drop (i + 1))) := by
            intro hlt2
            refine Ev.step (fun k => by rw [spec_TxtOk.j1]) ?_
            refine evElse (by simp) (evIf (by omega) (evIf (by omega) ?_))
            rw [hb]
            refine evIf (by rfl) ?_
            rw [en]
            exact ih (i + 1) true (by omega) (by omega) (hx' true (by simp)) (by omega)
          refine evIf (by rfl) ?_
          by_cases hi0 : i = 0
          · refine evIf (by omega) ?_
            rw [h0 hi0]
            exact bad
          · refine evElse (by omega) ?_
            have el : wrap64 ((s.size : Int) - 1) = (s.size : Int) - 1 := w64 (by omega) (by omega)
            rw [el]
            by_cases hl : i + 1 = (bl s).length
            · refine evIf (by omega) ?_
              have e2 : (bl s).drop (i + 1) = [] := by rw [hl]; exact List.drop_length
              rw [e2]
              have : (!p && okFrom true []) = false := by simp [okFrom]
              rw [this]
              exact bad
            · refine evElse (by omega) ?_
              obtain ⟨j, rfl⟩ : ∃ j, i = j + 1 := ⟨i - 1, by omega⟩
              have ej : wrap64 (((j + 1 : Nat) : Int) - 1) = (j : Int) := by rw [w64 (by omega) (by omega)]; omega
              rw [ej]
              refine evIf (by omega) (evIf (by omega) ?_)
              have hp := hprev j rfl (bl s)[j] (by simp [show j < (bl s).length by omega])
              rw [bt_bl s j (by omega)]
              cases hpp : p with
              | true =>
                have e3 : (bl s)[j] = 32 := hp.mp hpp
                rw [e3]
                exact bad
              | false =>
                have e3 : ¬ (bl s)[j] = 32 := fun e => by rw [hp.mpr e] at hpp; cases hpp
                have e4 : (((bl s)[j].toNat : Int) == 32) = false := beq_eq_false_iff_ne.mpr (fun e => e3 (byte32.mp e))
                rw [e4]
                simpa using good (by omega)
        · rw [if_neg h32]
          refine evElse (fun e => h32 (byte32.mp e)) ?_
          refine Ev.step (fun k => by rw [spec_TxtOk.j1]) ?_
          refine evElse (by simp) (evIf (by omega) (evIf (by omega) ?_))
          rw [hb]
          refine evElse (fun e => h32 (byte32.mp e)) ?_
          have hr := b.toNat_lt
          rw [w64 (x := (b.toNat : Int)) (by omega) (by omega)]
          refine evBindC (l1In_eq _ _ _) ?_
          have hle : (decide (97 ≤ (b.toNat : Int)) && decide ((b.toNat : Int) ≤ 122)) = letter b := by unfold letter; congr 1 <;> simp <;> omega
          rw [hle]
          cases hll : letter b with
          | false => exact evElse (by simp) (evNow (by simp))
          | true =>
            refine evIf rfl ?_
            rw [en]
            simpa using ih (i + 1) false (by omega) (by omega) (hx' false (by simp [h32])) (fun _ => rfl)
    by_cases h0 : bl s = []
    · rw [h0]
      refine Ev.step (fun k => by rw [spec_TxtOk.l0]) ?_
      have : s.size = 0 := by rw [hsz, h0]; rfl
      exact evElse (by omega) (evNow rfl)
    · have h1 : (bl s).isEmpty = false := by simpa using h0
      have hp : 0 < (bl s).length := List.length_pos_iff.mpr h0
      have := loop (bl s).length 0 true (by omega) (fun _ => rfl) (fun j hj => by omega) (by omega)
      rw [List.drop_zero, okFrom_words] at this
      rw [h1, hd, Bool.false_or, Bool.true_and]
      exact this
end Go.Proofs.YtldmepofbkcmnaaDoor.Pure
set_option linter.unusedVariables false
set_option linter.unusedSimpArgs false
namespace Go.Proofs.YtldmepofbkcmnaaDoor.Pure
open Go.RowKit Go.Proofs.YtldmepofbkcmnaaDoor.Pr Go.Proofs.YtldmepofbkcmnaaDoorW.PrintWords Go.Proofs.YtldmepofbkcmnaaDoorW.PrintLast Go.Proofs.YtldmepofbkcmnaaDoorW.PrintMore
def wordsOf (s : ByteArray) : List ByteArray := if bl s = [] then [] else if txtOk s = true then cutB s else []
theorem one_byteB (s : ByteArray) (i : Nat) (h : i < (bl s).length) : bl (strOfNums [bt s (i : Int)]) = [(bl s)[i]] := by
  rw [bt_bl s i h]
  show (([((bl s)[i].toNat : Int)]).map fun z => UInt8.ofNat z.toNat).toArray.toList = _
  simp
theorem sizeOne (s : ByteArray) (i : Nat) (h : i < (bl s).length) : (strOfNums [bt s (i : Int)]).size = 1 := by
  rw [bl_len, one_byteB s i h]; rfl
def glue (w : ByteArray) : List (List UInt8) → List ByteArray
  | [] => [w]
  | v :: vs => ⟨(bl w ++ v).toArray⟩ :: vs.map fun l => ⟨l.toArray⟩
theorem specCut (s : ByteArray) (h : s.size ≤ 1048576) : Ev (fun k => spec_l1Cut.f k s) (cutB s) := by
  unfold spec_l1Cut.f
  have hsz := bl_len s
  have loop : ∀ (d i : Nat) (out : List ByteArray) (w : ByteArray), i + d = (bl s).length → out.length ≤ i → w.size ≤ i → Ev (fun k => spec_l1Cut.l0 k s out w i) (out ++ glue w (cutL ((bl s).drop i))) := by
    intro d
    induction d with
    | zero =>
      intro i out w hi ho hw
      rw [show i = (bl s).length by omega, List.drop_length]
      refine Ev.step (fun k => by rw [spec_l1Cut.l0]) ?_
      refine evElse (by omega) (evIf (by omega) (evNow ?_))
      have : glue w (cutL []) = [w] := by
        have e : (⟨(bl w ++ []).toArray⟩ : ByteArray) = w := bl_ext (by rw [List.append_nil, bl_mk])
        show [(⟨(bl w ++ []).toArray⟩ : ByteArray)] = [w]
        rw [e]
      rw [this]
    | succ d ih =>
      intro i out w hi ho hw
      have hlt : i < (bl s).length := by omega
      have en := wnext (n := (bl s).length) (i := i) (by omega) (by omega)
      have hb := bt_bl s i hlt
      have h1 := one_byteB s i hlt
      have h2 := sizeOne s i hlt
      rw [dropCons _ i hlt]
      refine Ev.step (fun k => by rw [spec_l1Cut.l0]) (evIf (by omega) (evIf (by omega) ?_))
      by_cases h32 : (bl s)[i] = 32
      · refine evIf (by rw [hb]; exact byte32.mpr h32) (evIf (by omega) ?_)
        rw [en, h32, cutL_blank]
        have := ih (i + 1) (out ++ [w]) (⟨#[]⟩ : ByteArray) (by omega) (by simp; omega) (by show 0 ≤ i + 1; omega)
        obtain ⟨v, vs, e⟩ := cutL_ne ((bl s).drop (i + 1))
        rw [e] at this ⊢
        have e2 : out ++ glue w ([] :: v :: vs) = out ++ [w] ++ glue (⟨#[]⟩ : ByteArray) (v :: vs) := by
          simp only [glue, List.append_nil, List.map_cons, List.append_assoc, List.singleton_append]
          congr 1
        rw [e2]; exact this
      · refine evElse (by rw [hb]; exact fun e => h32 (byte32.mp e)) ?_
        refine evSome (evIf (by rw [h2]; omega) ?_)
        rw [en]
        have := ih (i + 1) out (w ++ strOfNums [bt s (i : Int)]) (by omega) (by omega) (by rw [bl_len, bl_app, List.length_append, ← bl_len, ← bl_len, h2]; omega)
        obtain ⟨v, vs, e⟩ := cutL_ne ((bl s).drop (i + 1))
        rw [cutL_other h32 e]
        rw [e] at this
        have e2 : glue (w ++ strOfNums [bt s (i : Int)]) (v :: vs) = glue w (((bl s)[i] :: v) :: vs) := by
          unfold glue
          rw [bl_app, h1]; simp
        rw [e2] at this; exact this
  have := loop (bl s).length 0 [] (⟨#[]⟩ : ByteArray) (by omega) (by simp) (by show 0 ≤ 0; omega)
  rw [List.drop_zero, List.nil_append] at this
  have e : glue (⟨#[]⟩ : ByteArray) (cutL (bl s)) = cutB s := by
    unfold cutB
    obtain ⟨v, vs, e⟩ := cutL_ne (bl s)
    rw [show s.data.toList = bl s from rfl, e]; rfl
  rw [e] at this
  exact this
theorem specWords (s : ByteArray) (h : s.size ≤ 9223372036854775807) : Ev (fun k => spec_TxtWords.f k s) (wordsOf s) := by
  unfold spec_TxtWords.f wordsOf
  by_cases h0 : bl s = []
  · rw [if_pos h0]; exact evIf ((toList_nil s).mpr h0) (evNow rfl)
  · rw [if_neg h0]
    refine evElse (fun e => h0 ((toList_nil s).mp e)) ((specTxtOk s h).bind ?_)
    cases ho : txtOk s with
    | false => exact evElse (by simp) (evNow rfl)
    | true => have := txtOk_le ho; exact evIf rfl ((specCut s (by omega)).bind (evNow rfl))
theorem implWords (s : ByteArray) (h : s.size < 4294967281) : Ev (fun k => impl_TxtWords.f k s) (wordsOf s) := by
  unfold impl_TxtWords.f wordsOf
  by_cases h0 : bl s = []
  · rw [if_pos h0]; exact evIf ((toList_nil s).mpr h0) (evNow rfl)
  · rw [if_neg h0]
    refine evElse (fun e => h0 ((toList_nil s).mp e)) ((implTxtOk s h).bind ?_)
    cases ho : txtOk s with
    | false => exact evElse (by simp) (evNow rfl)
    | true => exact evIf rfl (evBindC (show strings_Split.f s (⟨#[32]⟩ : ByteArray) = some (cutB s) by unfold strings_Split.f; rw [if_pos ⟨rfl, h⟩]) (evNow rfl))
end Go.Proofs.YtldmepofbkcmnaaDoor.Pure
set_option linter.unusedVariables false
set_option linter.unusedSimpArgs false
namespace Go.Proofs.YtldmepofbkcmnaaDoor.Pure
open Go.RowKit Go.Proofs.YtldmepofbkcmnaaDoor.Pr Go.Proofs.YtldmepofbkcmnaaDoorW.PrintWords Go.Proofs.YtldmepofbkcmnaaDoorW.PrintLast Go.Proofs.YtldmepofbkcmnaaDoorW.PrintMore
abbrev Wd := List UInt8
def joinL : List Wd → Wd
  | [] => []
  | [v] => v
  | v :: u :: vs => v ++ 32 :: joinL (u :: vs)
theorem joinL_cons (v : Wd) {vs : List Wd} (h : vs ≠ []) : joinL (v :: vs) = v ++ 32 :: joinL vs := by
  cases vs with
  | nil => exact absurd rfl h
  | cons u vs => rfl
theorem joinL_app : ∀ (a b : List Wd), a ≠ [] → b ≠ [] → joinL (a ++ b) = joinL a ++ 32 :: joinL b
  | [v], b, _, hb => by rw [List.singleton_append, joinL_cons v hb]; rfl
  | v :: u :: a, b, _, hb => by
    rw [List.cons_append, joinL_cons v (by simp), joinL_app (u :: a) b (by simp) hb, joinL_cons v (by simp)]
    simp
theorem joinL_snoc {g : List Wd} (v : Wd) (h : g ≠ []) : joinL (g ++ [v]) = joinL g ++ 32 :: v := joinL_app g [v] h (by simp)
theorem joinL_cut : ∀ l : Wd, joinL (cutL l) = l
  | [] => rfl
  | b :: l => by
    obtain ⟨w, ws, e⟩ := cutL_ne l
    have ih := joinL_cut l
    by_cases hb : b = 32
    · subst hb
      rw [cutL_blank, joinL_cons [] (by rw [e]; simp), ih]; rfl
    · rw [cutL_other hb e]
      rw [e] at ih
      cases ws with
      | nil => rw [← ih]; rfl
      | cons u us => rw [← ih]; rfl
theorem good_no32 {w : Wd} (h : goodW w = true) : ∀ b ∈ w, b ≠ 32 := by
  intro b hb e
  subst e
  simp only [goodW, Bool.and_eq_true, List.all_eq_true] at h
  have := h.2 _ hb
  simp [letter] at this
theorem good_ne {w : Wd} (h : goodW w = true) : w ≠ [] := by
  intro e; subst e; simp [goodW] at h
theorem cut_word : ∀ (w : Wd), (∀ b ∈ w, b ≠ 32) → cutL w = [w]
  | [], _ => rfl
  | b :: w, h => by rw [cutL_other (h b (by simp)) (cut_word w (fun x hx => h x (by simp [hx])))]
theorem cut_app : ∀ (w l : Wd), (∀ b ∈ w, b ≠ 32) → cutL (w ++ 32 :: l) = w :: cutL l
  | [], l, _ => by rw [List.nil_append, cutL_blank]
  | b :: w, l, h => by
    rw [List.cons_append, cutL_other (h b (by simp)) (cut_app w l (fun x hx => h x (by simp [hx])))]
theorem cut_join : ∀ (g : List Wd), g ≠ [] → (∀ w ∈ g, goodW w = true) → cutL (joinL g) = g
  | [w], _, h => by
    show cutL w = [w]
    exact cut_word w (good_no32 (h w (by simp)))
  | w :: u :: g, _, h => by
    rw [joinL_cons w (by simp), cut_app w _ (good_no32 (h w (by simp))), cut_join (u :: g) (by simp) (fun x hx => h x (by simp at hx ⊢; right; exact hx))]
theorem joinL_len (v : Wd) (g : List Wd) (h : g ≠ []) : (joinL (g ++ [v])).length = (joinL g).length + 1 + v.length := by
  rw [joinL_snoc v h]; simp; omega
theorem joinL_flat : ∀ (gs : List (List Wd)), (∀ g ∈ gs, g ≠ []) → joinL (gs.map joinL) = joinL gs.flatten
  | [], _ => rfl
  | [g], _ => by simp [joinL]
  | g :: h :: gs, hne => by
    have hg := hne g (by simp)
    have hh := hne h (by simp)
    rw [List.map_cons, joinL_cons _ (by simp), joinL_flat (h :: gs) (fun x hx => hne x (by simp at hx ⊢; right; exact hx)), show (g :: h :: gs).flatten = g ++ (h :: gs).flatten from rfl, joinL_app g _ hg (by simp [hh])]
def grpFrom (w : Int) : List Wd → List Wd → List (List Wd)
  | cur, [] => [cur]
  | cur, v :: vs => if ((joinL cur).length : Int) + 1 + (v.length : Int) ≤ w then grpFrom w (cur ++ [v]) vs else cur :: grpFrom w [v] vs
def grps (w : Int) : List Wd → List (List Wd)
  | [] => []
  | v :: vs => grpFrom w [v] vs
theorem grpFrom_flat (w : Int) : ∀ (vs cur : List Wd), (grpFrom w cur vs).flatten = cur ++ vs
  | [], cur => by simp [grpFrom]
  | v :: vs, cur => by
    unfold grpFrom
    split
    · rw [grpFrom_flat w vs]; simp
    · rw [List.flatten_cons, grpFrom_flat w vs]; simp
theorem grps_flat (w : Int) (vs : List Wd) : (grps w vs).flatten = vs := by
  cases vs with
  | nil => rfl
  | cons v vs => show (grpFrom w [v] vs).flatten = _; rw [grpFrom_flat]; rfl
theorem grpFrom_all (w : Int) : ∀ (vs cur : List Wd), cur ≠ [] → ((joinL cur).length : Int) ≤ w ∨ cur.length = 1 → ∀ g ∈ grpFrom w cur vs, g ≠ [] ∧ (((joinL g).length : Int) ≤ w ∨ g.length = 1)
  | [], cur, h0, h1, g, hg => by
    simp only [grpFrom, List.mem_singleton] at hg
    subst hg; exact ⟨h0, h1⟩
  | v :: vs, cur, h0, h1, g, hg => by
    unfold grpFrom at hg
    split at hg
    · rename_i hf
      exact grpFrom_all w vs _ (by simp) (Or.inl (by rw [joinL_len v cur h0]; omega)) g hg
    · rcases List.mem_cons.mp hg with rfl | hg
      · exact ⟨h0, h1⟩
      · exact grpFrom_all w vs [v] (by simp) (Or.inr rfl) g hg
theorem grps_all (w : Int) (vs : List Wd) : ∀ g ∈ grps w vs, g ≠ [] ∧ (((joinL g).length : Int) ≤ w ∨ g.length = 1) := by
  cases vs with
  | nil => intro g hg; cases hg
  | cons v vs => exact grpFrom_all w vs [v] (by simp) (Or.inr rfl)
theorem grpFrom_more (w : Int) (v : Wd) : ∀ (vs cur : List Wd), ∃ gs g, grpFrom w cur vs = gs ++ [g] ∧ grpFrom w cur (vs ++ [v]) = if ((joinL g).length : Int) + 1 + (v.length : Int) ≤ w then gs ++ [g ++ [v]] else gs ++ [g, [v]]
  | [], cur => ⟨[], cur, by simp [grpFrom], by
      rw [List.nil_append]
      unfold grpFrom
      split <;> simp [grpFrom]⟩
  | u :: vs, cur => by
    rw [List.cons_append]
    unfold grpFrom
    split
    · exact grpFrom_more w v vs (cur ++ [u])
    · obtain ⟨gs, g, e1, e2⟩ := grpFrom_more w v vs [u]
      refine ⟨cur :: gs, g, by rw [e1]; rfl, ?_⟩
      rw [e2]
      split <;> rfl
theorem grps_more (w : Int) (v : Wd) (vs : List Wd) (h0 : vs ≠ []) : ∃ gs g, grps w vs = gs ++ [g] ∧ grps w (vs ++ [v]) = if ((joinL g).length : Int) + 1 + (v.length : Int) ≤ w then gs ++ [g ++ [v]] else gs ++ [g, [v]] := by
  cases vs with
  | nil => exact absurd rfl h0
  | cons u vs => exact grpFrom_more w v vs [u]
end Go.Proofs.YtldmepofbkcmnaaDoor.Pure
set_option linter.unusedVariables false
set_option linter.unusedSimpArgs false
namespace Go.Proofs.YtldmepofbkcmnaaDoor.Pure
open Go.RowKit Go.Proofs.YtldmepofbkcmnaaDoor.Pr Go.Proofs.YtldmepofbkcmnaaDoorW.PrintWords Go.Proofs.YtldmepofbkcmnaaDoorW.PrintLast Go.Proofs.YtldmepofbkcmnaaDoorW.PrintMore
def mkB (l : Wd) : ByteArray := ⟨l.toArray⟩
theorem bl_mkB (l : Wd) : bl (mkB l) = l := rfl
theorem mkB_size (l : Wd) : (mkB l).size = l.length := by rw [bl_len]; rfl
def wordsL (s : ByteArray) : List Wd := if bl s = [] then [] else if txtOk s = true then cutL (bl s) else []
theorem wordsOf_L (s : ByteArray) : wordsOf s = (wordsL s).map mkB := by
  unfold wordsOf wordsL cutB
  split
  · rfl
  · split <;> rfl
theorem wordsL_good (s : ByteArray) : ∀ w ∈ wordsL s, goodW w = true := by
  intro w hw
  unfold wordsL at hw
  split at hw
  · cases hw
  · rename_i h0
    split at hw
    · rename_i hok
      unfold txtOk txtOkL at hok
      have : (bl s).isEmpty = false := by simpa using h0
      rw [this, Bool.false_or, Bool.and_eq_true, List.all_eq_true] at hok
      exact hok.2 w hw
    · cases hw
theorem wordsL_join {s : ByteArray} (h : txtOk s = true) : joinL (wordsL s) = bl s := by
  unfold wordsL
  by_cases h0 : bl s = []
  · rw [if_pos h0, h0]; rfl
  · rw [if_neg h0, if_pos h, joinL_cut]
theorem wordsL_len (s : ByteArray) : (wordsL s).length ≤ 31 ∧ ∀ w ∈ wordsL s, w.length ≤ 30 := by
  unfold wordsL
  split
  · exact ⟨by simp, fun w h => by cases h⟩
  · split
    · rename_i hok
      have h30 := txtOk_le hok
      rw [bl_len] at h30
      refine ⟨?_, fun w hw => by have := cutL_le _ _ hw; omega⟩
      rw [cutL_length]
      have := List.count_le_length (a := (32 : UInt8)) (l := bl s)
      omega
    · exact ⟨by simp, fun w h => by cases h⟩
def lineB (g : List Wd) : ByteArray := mkB (joinL g)
def linesOf (s : ByteArray) (w : Int) : List ByteArray := (grps w (wordsL s)).map lineB
theorem setLast {α : Type} (l : List α) (c x : α) : (l ++ [c]).set l.length x = l ++ [x] := by
  rw [List.set_append_right _ _ (Nat.le_refl _), Nat.sub_self]; rfl
theorem rdLast (l : List ByteArray) (c : ByteArray) : rdOf ByteArray.empty (l ++ [c]) ((l.length : Nat) : Int) = c := by
  rw [rdS _ l.length (by simp)]; simp
theorem lineSnoc (cur : List Wd) (v : Wd) (h : cur ≠ []) : (lineB cur ++ (⟨#[32]⟩ : ByteArray)) ++ mkB v = lineB (cur ++ [v]) := by
  apply bl_ext
  unfold lineB
  rw [bl_app, bl_app, bl_mkB, bl_mkB, bl_mkB, joinL_snoc v h]
  show (joinL cur ++ [32]) ++ v = _
  simp
theorem lineSnoc2 (cur : List Wd) (v : Wd) (h : cur ≠ []) : lineB cur ++ ((⟨#[32]⟩ : ByteArray) ++ mkB v) = lineB (cur ++ [v]) := by
  apply bl_ext
  unfold lineB
  rw [bl_app, bl_app, bl_mkB, bl_mkB, bl_mkB, joinL_snoc v h]
  rfl
theorem rdWord (s : ByteArray) (i : Nat) (h : i < (wordsL s).length) : rdOf ByteArray.empty (wordsOf s) (i : Int) = mkB (wordsL s)[i] := by
  rw [wordsOf_L, rdS _ i (by simpa using h), List.getElem_map]
theorem lineW {a b : Nat} (ha : a ≤ 10000) (hb : b ≤ 10000) : wrap64 ((a : Int) + 1) = (a : Int) + 1 ∧ wrap64 ((a : Int) + 1 + (b : Int)) = (a : Int) + 1 + (b : Int) := ⟨w64 (by omega) (by omega), w64 (by omega) (by omega)⟩
theorem specLines (s : ByteArray) (w : Int) (h : s.size ≤ 1048576) : Ev (fun k => spec_TxtLines.f k s w) (linesOf s w) := by
  unfold spec_TxtLines.f linesOf
  refine (specWords s (by omega)).bind ?_
  obtain ⟨hn, hw⟩ := wordsL_len s
  have hl : (wordsOf s).length = (wordsL s).length := by rw [wordsOf_L, List.length_map]
  have loop : ∀ (d i : Nat) (done : List ByteArray) (cur : List Wd), i + d = (wordsL s).length → cur ≠ [] → (joinL cur).length ≤ 31 * i → done.length ≤ i → Ev (fun k => spec_TxtLines.l0 k w (wordsOf s) (done ++ [lineB cur]) i) (done ++ (grpFrom w cur ((wordsL s).drop i)).map lineB) := by
    intro d
    induction d with
    | zero =>
      intro i done cur hi h0 hc hd
      rw [show i = (wordsL s).length by omega, List.drop_length]
      refine Ev.step (fun k => by rw [spec_TxtLines.l0]) ?_
      exact evElse (by omega) (evNow rfl)
    | succ d ih =>
      intro i done cur hi h0 hc hd
      have hlt : i < (wordsL s).length := by omega
      have hv := hw _ (List.getElem_mem hlt)
      rw [dropCons _ i hlt, grpFrom]
      have ln : ((done ++ [lineB cur]).length : Int) = (done.length : Int) + 1 := by simp
      have el : wrap64 (((done ++ [lineB cur]).length : Int) - 1) = (done.length : Int) := by rw [ln, w64 (by omega) (by omega)]; omega
      have en := wnext (n := (wordsL s).length) (i := i) (by omega) (by omega)
      have hs1 : (lineB cur).size = (joinL cur).length := mkB_size _
      have hrd := rdWord s i hlt
      generalize (wordsL s)[i] = v at hv hrd ⊢
      have hs2 : (mkB v).size = v.length := mkB_size _
      obtain ⟨e1, e2⟩ := lineW (a := (joinL cur).length) (b := v.length) (by omega) (by omega)
      refine Ev.step (fun k => by rw [spec_TxtLines.l0]) ?_
      rw [el, rdLast, hrd, hs1, hs2, e1, e2, en]
      clear el e1 e2 en hrd hs2
      refine evIf (by omega) (evIf (by omega) (evIf (by omega) (evIf (by omega) (evIf (by omega) ?_))))
      by_cases hf : ((joinL cur).length : Int) + 1 + (v.length : Int) ≤ w
      · rw [if_pos hf]
        refine evIf hf (evIf (by omega) (evIf ?_ ?_))
        · rw [bl_len, bl_app, List.length_append, ← bl_len, hs1]
          show (joinL cur).length + 1 + _ ≤ _
          omega
        · rw [Int.toNat_natCast, setLast, lineSnoc cur _ h0]
          exact ih (i + 1) done (cur ++ [v]) (by omega) (by simp) (by rw [joinL_len _ _ h0]; omega) (by omega)
      · rw [if_neg hf]
        refine evElse hf (evIf (by simp; omega) ?_)
        have := ih (i + 1) (done ++ [lineB cur]) [v] (by omega) (by simp) (by show v.length ≤ _; omega) (by simp; omega)
        have ee : done ++ lineB cur :: (grpFrom w [v] ((wordsL s).drop (i + 1))).map lineB = done ++ [lineB cur] ++ (grpFrom w [v] ((wordsL s).drop (i + 1))).map lineB := by simp
        rw [List.map_cons, ee]
        exact this
  cases hws : wordsL s with
  | nil =>
    have hz : (wordsOf s).length = 0 := by rw [hl, hws]; rfl
    refine Ev.step (fun k => by rw [spec_TxtLines.l0]) ?_
    exact evElse (by rw [hz]; simp) (evNow rfl)
  | cons v vs =>
    have hlt : 0 < (wordsL s).length := by rw [hws]; simp
    have e0 : (wordsL s)[0] = v := by simp [hws]
    have hv := hw _ (List.getElem_mem hlt)
    refine Ev.step (fun k => by rw [spec_TxtLines.l0]) ?_
    have := loop ((wordsL s).length - 1) 1 [] [v] (by omega) (by simp) (by show v.length ≤ _; rw [← e0]; omega) (by simp)
    refine evIf (by omega) (evElse (by simp) (evIf (by omega) (evIf (by simp) ?_)))
    have er : rdOf ByteArray.empty (wordsOf s) 0 = mkB v := by rw [← e0]; exact rdWord s 0 hlt
    rw [er, show wrap64 (0 + 1) = ((1 : Nat) : Int) from w64 (by omega) (by omega)]
    have ed : (wordsL s).drop 1 = vs := by rw [hws]; rfl
    rw [ed] at this
    exact this
theorem implLines (s : ByteArray) (w : Int) (h : s.size < 4294967281) : Ev (fun k => impl_TxtLines.f k s w) (linesOf s w) := by
  unfold impl_TxtLines.f linesOf
  refine (implWords s h).bind ?_
  obtain ⟨hn, hw⟩ := wordsL_len s
  have hl : (wordsOf s).length = (wordsL s).length := by rw [wordsOf_L, List.length_map]
  have loop : ∀ (d i : Nat) (done : List ByteArray) (cur : List Wd), i + d = (wordsL s).length → cur ≠ [] → (joinL cur).length ≤ 31 * i → done.length ≤ i → Ev (fun k => impl_TxtLines.l0 k w (done ++ [lineB cur]) (wordsOf s) ((wordsOf s).length : Int) i) (done ++ (grpFrom w cur ((wordsL s).drop i)).map lineB) := by
    intro d
    induction d with
    | zero =>
      intro i done cur hi h0 hc hd
      rw [show i = (wordsL s).length by omega, List.drop_length]
      refine Ev.step (fun k => by rw [impl_TxtLines.l0]) ?_
      exact evElse (by omega) (evNow rfl)
    | succ d ih =>
      intro i done cur hi h0 hc hd
      have hlt : i < (wordsL s).length := by omega
      have hv := hw _ (List.getElem_mem hlt)
      rw [dropCons _ i hlt, grpFrom]
      have ln : ((done ++ [lineB cur]).length : Int) = (done.length : Int) + 1 := by simp
      have el : wrap64 (((done ++ [lineB cur]).length : Int) - 1) = (done.length : Int) := by rw [ln, w64 (by omega) (by omega)]; omega
      have en := wnext (n := (wordsL s).length) (i := i) (by omega) (by omega)
      have hs1 : (lineB cur).size = (joinL cur).length := mkB_size _
      have hrd := rdWord s i hlt
      generalize (wordsL s)[i] = v at hv hrd ⊢
      have hs2 : (mkB v).size = v.length := mkB_size _
      obtain ⟨e1, e2⟩ := lineW (a := (joinL cur).length) (b := v.length) (by omega) (by omega)
      refine Ev.step (fun k => by rw [impl_TxtLines.l0]) ?_
      rw [el, rdLast, hrd, hs1, hs2, e1, e2, en]
      clear el e1 e2 en hrd hs2
      refine evIf (by omega) (evIf (by omega) (evIf (by omega) (evIf (by omega) (evIf (by omega) (evIf (by omega) ?_)))))
      by_cases hf : ((joinL cur).length : Int) + 1 + (v.length : Int) ≤ w
      · rw [if_pos hf]
        refine evIf hf (evIf (by omega) (evIf ?_ ?_))
        · rw [show ((⟨#[32]⟩ : ByteArray) ++ mkB v).size = 1 + v.length by rw [bl_len, bl_app, List.length_append, bl_mkB]; rfl]
          omega
        · rw [Int.toNat_natCast, setLast, lineSnoc2 cur _ h0]
          exact ih (i + 1) done (cur ++ [v]) (by omega) (by simp) (by rw [joinL_len _ _ h0]; omega) (by omega)
      · rw [if_neg hf]
        refine evElse hf (evIf (by simp; omega) ?_)
        have := ih (i + 1) (done ++ [lineB cur]) [v] (by omega) (by simp) (by show v.length ≤ _; omega) (by simp; omega)
        have ee : done ++ lineB cur :: (grpFrom w [v] ((wordsL s).drop (i + 1))).map lineB = done ++ [lineB cur] ++ (grpFrom w [v] ((wordsL s).drop (i + 1))).map lineB := by simp
        rw [List.map_cons, ee]
        exact this
  cases hws : wordsL s with
  | nil =>
    have hz : (wordsOf s).length = 0 := by rw [hl, hws]; rfl
    refine Ev.step (fun k => by rw [impl_TxtLines.l0]) ?_
    exact evElse (by rw [hz]; simp) (evNow rfl)
  | cons v vs =>
    have hlt : 0 < (wordsL s).length := by rw [hws]; simp
    have e0 : (wordsL s)[0] = v := by simp [hws]
    have hv := hw _ (List.getElem_mem hlt)
    refine Ev.step (fun k => by rw [impl_TxtLines.l0]) ?_
    have := loop ((wordsL s).length - 1) 1 [] [v] (by omega) (by simp) (by show v.length ≤ _; rw [← e0]; omega) (by simp)
    refine evIf (by omega) (evIf (by omega) (evIf (by omega) (evElse (by simp [wrap64]) (evIf (by simp) ?_))))
    have er : rdOf ByteArray.empty (wordsOf s) 0 = mkB v := by rw [← e0]; exact rdWord s 0 hlt
    rw [er, show wrap64 (0 + 1) = ((1 : Nat) : Int) from w64 (by omega) (by omega)]
    have ed : (wordsL s).drop 1 = vs := by rw [hws]; rfl
    rw [ed] at this
    exact this
theorem grps_le (w : Int) (vs : List Wd) : (grps w vs).length ≤ vs.length := by
  have gen : ∀ (vs cur : List Wd), (grpFrom w cur vs).length ≤ vs.length + 1 := by
    intro vs
    induction vs with
    | nil => intro cur; simp [grpFrom]
    | cons v vs ih =>
      intro cur
      unfold grpFrom
      split
      · have := ih (cur ++ [v]); simp; omega
      · have := ih [v]; simp; omega
  cases vs with
  | nil => simp [grps]
  | cons v vs => have := gen vs [v]; simpa [grps] using this
theorem linesOf_le (s : ByteArray) (w : Int) : (linesOf s w).length ≤ 31 := by
  unfold linesOf
  rw [List.length_map]
  have := grps_le w (wordsL s)
  have := (wordsL_len s).1
  omega
end Go.Proofs.YtldmepofbkcmnaaDoor.Pure
set_option linter.unusedVariables false
set_option linter.unusedSimpArgs false
namespace Go.Proofs.YtldmepofbkcmnaaDoor.Pure
open Go.RowKit Go.Proofs.YtldmepofbkcmnaaDoor.Pr Go.Proofs.YtldmepofbkcmnaaDoorW.PrintWords Go.Proofs.YtldmepofbkcmnaaDoorW.PrintLast Go.Proofs.YtldmepofbkcmnaaDoorW.PrintMore
theorem joinL_mem : ∀ (l : List Wd) (v : Wd), v ∈ l → v.length ≤ (joinL l).length
  | [u], v, h => by
    simp only [List.mem_singleton] at h
    subst h; exact Nat.le_refl _
  | u :: x :: l, v, h => by
    rw [joinL_cons u (by simp), List.length_append, List.length_cons]
    rcases List.mem_cons.mp h with rfl | h
    · omega
    · have := joinL_mem (x :: l) v h
      omega
theorem joinL_ne {g : List Wd} (h0 : g ≠ []) (hg : ∀ w ∈ g, goodW w = true) : joinL g ≠ [] := by
  obtain ⟨v, vs, rfl⟩ := List.exists_cons_of_ne_nil h0
  have h1 := joinL_mem (v :: vs) v (by simp)
  have h2 := good_ne (hg v (by simp))
  intro e
  rw [e] at h1
  cases v with
  | nil => exact h2 rfl
  | cons a v => simp at h1
theorem line_ok {g : List Wd} (hg : ∀ w ∈ g, goodW w = true) (hl : (joinL g).length ≤ 30) : txtOk (lineB g) = true := by
  by_cases h0 : g = []
  · subst h0; rfl
  · unfold txtOk txtOkL
    rw [show bl (lineB g) = joinL g from rfl, cut_join g h0 hg]
    have : g.all goodW = true := List.all_eq_true.mpr hg
    rw [this, decide_eq_true hl]; simp
theorem line_words {g : List Wd} (h0 : g ≠ []) (hg : ∀ w ∈ g, goodW w = true) (hl : (joinL g).length ≤ 30) : wordsL (lineB g) = g := by
  unfold wordsL
  rw [if_neg (show ¬ bl (lineB g) = [] from joinL_ne h0 hg), if_pos (line_ok hg hl)]
  exact cut_join g h0 hg
theorem wordsL_no {s : ByteArray} (h : ¬ txtOk s = true) : wordsL s = [] := by
  unfold wordsL
  rw [if_neg h]; simp
theorem txt_some {s : ByteArray} (h : wordsL s ≠ []) : txtOk s = true := by
  by_cases h1 : txtOk s = true
  · exact h1
  · exact absurd (wordsL_no h1) h
theorem grp_facts (s : ByteArray) (w : Int) (g : List Wd) (hg : g ∈ grps w (wordsL s)) : g ≠ [] ∧ (∀ v ∈ g, goodW v = true) ∧ (joinL g).length ≤ s.size ∧ (joinL g).length ≤ 30 ∧ (((joinL g).length : Int) ≤ w ∨ g.length = 1) ∧ ∀ v ∈ g, v ∈ wordsL s := by
  have ha := grps_all w (wordsL s)
  have hf := grps_flat w (wordsL s)
  have hm : ∀ v ∈ g, v ∈ wordsL s := fun v hv => by rw [← hf]; exact List.mem_flatten.mpr ⟨g, hg, hv⟩
  have hok : txtOk s = true := txt_some fun e => by rw [e] at hg; cases hg
  have hj := wordsL_join hok
  have h1 := joinL_mem ((grps w (wordsL s)).map joinL) (joinL g) (List.mem_map.mpr ⟨g, hg, rfl⟩)
  rw [joinL_flat _ (fun x hx => (ha x hx).1), hf, hj, ← bl_len] at h1
  have h2 := txtOk_le hok
  exact ⟨(ha g hg).1, fun v hv => wordsL_good s v (hm v hv), h1, by omega, (ha g hg).2, hm⟩
end Go.Proofs.YtldmepofbkcmnaaDoor.Pure
set_option linter.unusedVariables false
set_option linter.unusedSimpArgs false
namespace Go.Proofs.YtldmepofbkcmnaaDoor.Pure
open Go.RowKit Go.Proofs.YtldmepofbkcmnaaDoor.Pr Go.Proofs.YtldmepofbkcmnaaDoorW.PrintWords Go.Proofs.YtldmepofbkcmnaaDoorW.PrintLast Go.Proofs.YtldmepofbkcmnaaDoorW.PrintMore
theorem linesOf_mem {s x : ByteArray} {w : Int} (h : x ∈ linesOf s w) : ∃ g, x = lineB g ∧ g ∈ grps w (wordsL s) := by
  obtain ⟨g, hg, rfl⟩ := List.mem_map.mp h
  exact ⟨g, rfl, hg⟩
theorem line_facts {s x : ByteArray} {w : Int} (h : x ∈ linesOf s w) : x.size ≤ s.size ∧ x.size ≤ 30 ∧ ((x.size : Int) ≤ w ∨ ((wordsOf x).length = 1 ∧ x ∈ wordsOf s)) := by
  obtain ⟨g, rfl, hg⟩ := linesOf_mem h
  obtain ⟨f1, f2, f3, f4, f5, f6⟩ := grp_facts s w g hg
  have hs : (lineB g).size = (joinL g).length := mkB_size _
  refine ⟨by omega, by omega, ?_⟩
  rcases f5 with f5 | f5
  · exact Or.inl (by omega)
  · refine Or.inr ?_
    have e := line_words f1 f2 f4
    refine ⟨by rw [wordsOf_L, List.length_map, e, f5], ?_⟩
    obtain ⟨v, rfl⟩ := List.length_eq_one_iff.mp f5
    rw [wordsOf_L]
    exact List.mem_map.mpr ⟨v, f6 v (by simp), rfl⟩
theorem words_more {s : ByteArray} (v : Wd) (hv : goodW v = true) (h0 : wordsL s ≠ []) (h : s.size + 1 + v.length ≤ 30) : wordsL (s ++ mkB (32 :: v)) = wordsL s ++ [v] := by
  have hok := txt_some h0
  have hj := wordsL_join hok
  have e : s ++ mkB (32 :: v) = lineB (wordsL s ++ [v]) := by
    apply bl_ext
    unfold lineB
    rw [bl_app, bl_mkB, bl_mkB, joinL_snoc v h0, hj]
  rw [e]
  refine line_words (by simp) ?_ ?_
  · intro w hw
    rcases List.mem_append.mp hw with hw | hw
    · exact wordsL_good s w hw
    · simp at hw; subst hw; exact hv
  · rw [joinL_len v _ h0, hj, ← bl_len]; omega
theorem lines_ne {s : ByteArray} {w : Int} (h : wordsL s ≠ []) : linesOf s w ≠ [] := by
  intro e
  have := grps_flat w (wordsL s)
  unfold linesOf at e
  rw [List.map_eq_nil_iff] at e
  rw [e] at this
  exact h this.symm
theorem lines_nil {s : ByteArray} {w : Int} (h : wordsL s = []) : linesOf s w = [] := by unfold linesOf; rw [h]; rfl
theorem lines_more {s : ByteArray} (w : Int) (v : Wd) (hv : goodW v = true) (h0 : wordsL s ≠ []) (h : s.size + 1 + v.length ≤ 30) : ∃ xs x, linesOf s w = xs ++ [x] ∧ linesOf (s ++ mkB (32 :: v)) w = if (x.size : Int) + 1 + (v.length : Int) ≤ w then xs ++ [x ++ mkB (32 :: v)] else xs ++ [x, mkB v] := by
  obtain ⟨gs, g, e1, e2⟩ := grps_more w v (wordsL s) h0
  have hgm : g ∈ grps w (wordsL s) := by rw [e1]; simp
  have g0 := (grps_all w (wordsL s) g hgm).1
  refine ⟨gs.map lineB, lineB g, by unfold linesOf; rw [e1]; simp, ?_⟩
  unfold linesOf
  rw [words_more v hv h0 h, e2, show (lineB g).size = (joinL g).length from mkB_size _]
  have es : lineB (g ++ [v]) = lineB g ++ mkB (32 :: v) := by
    apply bl_ext
    unfold lineB
    rw [bl_app, bl_mkB, bl_mkB, bl_mkB, joinL_snoc v g0]
  split
  · rw [List.map_append, List.map_singleton, es]
  · rw [List.map_append]; rfl
end Go.Proofs.YtldmepofbkcmnaaDoor.Pure
set_option linter.unusedVariables false
set_option linter.unusedSimpArgs false
namespace Go.Proofs.YtldmepofbkcmnaaDoor.Pure
open Go.RowKit Go.Proofs.YtldmepofbkcmnaaDoor.Pr Go.Proofs.YtldmepofbkcmnaaDoorW.PrintWords Go.Proofs.YtldmepofbkcmnaaDoorW.PrintLast Go.Proofs.YtldmepofbkcmnaaDoorW.PrintMore
theorem pwOk : Ev (fun k => laws_pwOk.f k) true := by
  unfold laws_pwOk.f
  have h := implTxtOk (⟨#[97, 98, 32, 99]⟩ : ByteArray) (by show 4 < 4294967281; omega)
  have e : txtOk (⟨#[97, 98, 32, 99]⟩ : ByteArray) = true := by decide +kernel
  rw [e] at h
  exact h.bind (evNow rfl)
theorem pwOkFin : Run (fun k => (laws_pwOk.f k).bind fun t => some t) (· = true) := Run.evBind pwOk (Run.ret rfl)
end Go.Proofs.YtldmepofbkcmnaaDoor.Pure
set_option linter.unusedVariables false
set_option linter.unusedSimpArgs false
namespace Go.Proofs.YtldmepofbkcmnaaDoor.Pure
open Go.RowKit Go.Proofs.YtldmepofbkcmnaaDoor.Pr Go.Proofs.YtldmepofbkcmnaaDoorW.PrintWords Go.Proofs.YtldmepofbkcmnaaDoorW.PrintLast Go.Proofs.YtldmepofbkcmnaaDoorW.PrintMore
theorem pwTexts (l : List ByteArray) (h : l.length ≤ 9223372036854775807) : Ev (fun k => laws_pwTexts.f k l l) true := by
  unfold laws_pwTexts.f
  have loop : ∀ (d i : Nat), i + d = l.length → Ev (fun k => laws_pwTexts.l0 k l l i) true := by
    intro d
    induction d with
    | zero =>
      intro i hi
      refine Ev.step (fun k => by rw [laws_pwTexts.l0]) ?_
      exact evElse (by omega) (evNow rfl)
    | succ d ih =>
      intro i hi
      refine Ev.step (fun k => by rw [laws_pwTexts.l0]) (evIf (by omega) (evIf (by omega) (evIf (by omega) (evIf rfl ?_))))
      rw [wnext (n := l.length) (by omega) (by omega)]
      exact ih (i + 1) (by omega)
  exact evIf rfl (loop l.length 0 (by omega))
end Go.Proofs.YtldmepofbkcmnaaDoor.Pure
set_option linter.unusedVariables false
set_option linter.unusedSimpArgs false
namespace Go.Proofs.YtldmepofbkcmnaaDoor.Pure
open Go.RowKit Go.Proofs.YtldmepofbkcmnaaDoor.Pr Go.Proofs.YtldmepofbkcmnaaDoorW.PrintWords Go.Proofs.YtldmepofbkcmnaaDoorW.PrintLast Go.Proofs.YtldmepofbkcmnaaDoorW.PrintMore
theorem FnTxtMore (l : List Int) (h : l.length ≤ 9223372036854775807 ∧ ∀ x ∈ l, (Lit.int .u8 x).wf = true) : ∃ k, laws_FnTxtMore.f k l = some true := by
  apply Run.get
  unfold laws_FnTxtMore.f
  refine Run.ite (fun _ => Run.ret rfl) fun hbig => ?_
  refine Run.bind (drawLines l h.2) fun sw hsw => ?_
  obtain ⟨s, w⟩ := sw
  obtain ⟨hs, hw0, hw1⟩ := hsw
  have hs : s.size ≤ 100 := hs
  have hw0 : -1 ≤ w := hw0
  have hw1 : w ≤ 30 := hw1
  have hll := linesOf_le s w
  refine Run.evBind (implLines s w (by omega)) (Run.evBind (specLines s w (by omega)) (Run.evBind (pwTexts (linesOf s w) (by omega)) (Run.pos rfl ?_)))
  have hc : Ev (fun k => impl_TxtCount.f k s) (((wordsOf s).length : Nat) : Int) := (implWords s (by omega)).bind (evNow rfl)
  have hboth : (linesOf s w).length = 0 ↔ (wordsOf s).length = 0 := by
    rw [wordsOf_L, List.length_map]
    constructor
    · intro e
      by_cases h0 : wordsL s = []
      · rw [h0]; rfl
      · exact absurd (List.length_eq_zero_iff.mp e) (lines_ne h0)
    · intro e
      rw [lines_nil (List.length_eq_zero_iff.mp e)]; rfl
  have short : Run (fun k => laws_FnTxtMore.j0 k s w (linesOf s w) ((linesOf s w).length : Int) true) (· = true) := by
    refine Run.step (fun k => by rw [laws_FnTxtMore.j0]) (Run.pos rfl (Run.evBind hc (Run.pos ?_ pwOkFin)))
    have : ((((linesOf s w).length : Int) == 0)) = ((((wordsOf s).length : Int) == 0)) := by
      rw [Bool.eq_iff_iff, beq_iff_eq, beq_iff_eq]
      omega
    rw [this]; simp
  refine Run.ite (fun _ => short) (fun hn0 => ?_)
  show Run (fun k => laws_FnTxtMore.j0 k s w (linesOf s w) ((linesOf s w).length : Int) (decide ((wrap64 ((s.size : Int) + 3)) > 30))) (· = true)
  rw [show wrap64 ((s.size : Int) + 3) = (s.size : Int) + 3 from w64 (by omega) (by omega)]
  by_cases h30 : (s.size : Int) + 3 > 30
  · rw [decide_eq_true h30]; exact short
  rw [decide_eq_false h30]
  have h0 : wordsL s ≠ [] := fun e => hn0 (by rw [lines_nil e]; rfl)
  obtain ⟨xs, x, e1, e2⟩ := lines_more (s := s) w [111, 102] (by decide) h0 (by show s.size + 1 + 2 ≤ 30; omega)
  have emk : mkB (32 :: [111, 102]) = (⟨#[32, 111, 102]⟩ : ByteArray) := rfl
  rw [emk] at e2
  have ev2 : ((([111, 102] : Wd).length : Nat) : Int) = 2 := rfl
  rw [ev2] at e2
  have eadd : (s ++ (⟨#[32, 111, 102]⟩ : ByteArray)).size = s.size + 3 := by rw [ByteArray.size_append]; rfl
  have hx30 : x.size ≤ 30 := (line_facts (s := s) (w := w) (x := x) (by rw [e1]; simp)).2.1
  have iw2 := implLines (s ++ (⟨#[32, 111, 102]⟩ : ByteArray)) w (by omega)
  have s3 : s.size + 3 ≤ 9223372036854775807 := by omega
  refine Run.step (fun k => by rw [laws_FnTxtMore.j0]) (Run.neg (by simp) (Run.pos s3 (Run.evBind iw2 ?_)))
  rw [e1]
  have ln : ((xs ++ [x]).length : Int) = (xs.length : Int) + 1 := by simp
  have hxs : xs.length ≤ 31 := by rw [e1] at hll; simp at hll; omega
  have n0 : (0 : Int) ≤ (xs.length : Int) := by omega
  have n1 : (xs.length : Int) < ((xs ++ [x]).length : Int) := by omega
  have n2 : (xs.length : Int) ≤ ((xs ++ [x]).length : Int) := by omega
  have n3 : (0 : Int) ≤ ((xs ++ [x]).length : Int) := by omega
  have sz : x.size + 3 ≤ 9223372036854775807 := by omega
  have p1 : ((xs ++ [x ++ (⟨#[32, 111, 102]⟩ : ByteArray)]).length : Int) = ((xs ++ [x]).length : Int) := by simp
  have p2 : (xs.length : Int) ≤ ((xs ++ [x ++ (⟨#[32, 111, 102]⟩ : ByteArray)]).length : Int) := by simp; omega
  have p3 : (xs.length : Int) < ((xs ++ [x ++ (⟨#[32, 111, 102]⟩ : ByteArray)]).length : Int) := by simp; omega
  have q1 : ((xs ++ [x, mkB [111, 102]]).length : Int) = (xs.length : Int) + 2 := by simp
  have q2 : ((xs ++ [x]).length : Int) ≤ ((xs ++ [x, mkB [111, 102]]).length : Int) := by simp
  have q3 : ((xs ++ [x]).length : Int) < ((xs ++ [x, mkB [111, 102]]).length : Int) := by simp
  have l3 : xs ++ [x, mkB [111, 102]] = (xs ++ [x]) ++ [mkB [111, 102]] := by simp
  have f1 : ∀ h : (x.size : Int) + 3 ≤ w, (x.size : Int) + 1 + 2 ≤ w := fun h => by omega
  have f2 : ∀ h : ¬ ((x.size : Int) + 3 ≤ w), ¬ ((x.size : Int) + 1 + 2 ≤ w) := fun h => by omega
  have pw1 := pwTexts xs (by omega)
  have pw2 := pwTexts (xs ++ [x]) (by omega)
  have el : wrap64 (((xs ++ [x]).length : Int) - 1) = (xs.length : Int) := by rw [ln, w64 (by omega) (by omega)]; omega
  have ep : wrap64 (((xs ++ [x]).length : Int) + 1) = (xs.length : Int) + 2 := by rw [ln, w64 (by omega) (by omega)]; omega
  have e3 : wrap64 ((x.size : Int) + 3) = (x.size : Int) + 3 := w64 (by omega) (by omega)
  rw [el, rdLast, ep, e3, e2]
  clear el ep e3
  refine Run.pos n0 (Run.pos n1 ?_)
  refine Run.ite (fun hf => ?_) (fun hf => ?_)
  · rw [if_pos (f1 hf)]
    refine Run.pos p1 (Run.pos p2 (Run.pos n2 ?_))
    rw [Int.toNat_natCast, List.take_left' rfl, List.take_left' rfl, rdLast]
    exact Run.evBind pw1 (Run.pos rfl (Run.pos p3 (Run.pos sz (Run.ret (beq_self_eq_true _)))))
  · rw [if_neg (f2 hf)]
    refine Run.pos q1 (Run.pos n3 (Run.pos q2 ?_))
    rw [l3, Int.toNat_natCast, List.take_left' rfl, rdLast]
    rw [l3] at q3
    exact Run.evBind pw2 (Run.pos rfl (Run.pos q3 (Run.ret (by decide +kernel))))
end Go.Proofs.YtldmepofbkcmnaaDoor.Pure
