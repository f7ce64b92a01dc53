/- The plain laws that the claim of 'FnGrdPlain' leans on. -/
import Derived.Test.YtnalfnoebhmijaaDoorFnGrdPlainP0
import Derived.ProofKit
import Derived.OpenShut
import Derived.ShutString
import Derived.ChangeOld
import Derived.Below
import Derived.SizedLaws
import Derived.DataElems
import Derived.Test.YtnalfnoebhmijaaDoorFnGrdPlainP2
import Derived.Test.YtnalfnoebhmijaaDoorFnGrdPlainQCut
import Derived.Lib.LazyBuf
import Derived.Test.YtnalfnoebhmijaaDoorFnGrdPlainP1
import Derived.Test.YtnalfnoebhmijaaDoorFnGrdPlainPr50
import Derived.Test.YtnalfnoebhmijaaDoorFnGrdPlainP3
import Derived.Test.YtnalfnoebhmijaaDoorFnGrdPlainPr49
import Derived.Test.YtnalfnoebhmijaaDoorFnGrdPlainPr23
import Derived.Test.YtnalfnoebhmijaaDoorFnGrdPlainP4
import Derived.Test.YtnalfnoebhmijaaDoorFnGrdPlainP5
import Derived.Test.YtnalfnoebhmijaaDoorFnGrdPlainP6
import Derived.Test.YtnalfnoebhmijaaDoorFnGrdPlainPr3
set_option linter.unusedVariables false
set_option linter.unusedSimpArgs false
namespace Go.Proofs.YtnalfnoebhmijaaDoor.Pure
open Go.RowKit Go.Proofs.YtnalfnoebhmijaaDoor.Pr Go.Proofs.YtnalfnoebhmijaaDoorW.PrintWords Go.Proofs.YtnalfnoebhmijaaDoorW.PrintLast Go.Proofs.YtnalfnoebhmijaaDoorW.PrintMore
section
variable {H : Type} {enc : TypeId × Value → H} {P : Program} {W : World} {α β γ : Type}
structure Opens (enc : TypeId × Value → H) (P : Program) (W : World) (t : TypeId) (d : Kd α) (I : α → Prop) : Prop where
  out : ∀ (fuel : Nat) (cs : List Value) (x : DataW H × List MemPlace), DataW.trod enc P W 0 (fun _ => true) true fuel t cs = some x → ∃ y, d.K W y cs ∧ I y
theorem opens_int {t : TypeId} {k : IntKind} (hu : P.underlying t = some (.int k)) : Opens enc P W t (Kd.int k) (fun n => (Lit.int k n).wf = true) := ⟨by
 intro fuel cs x h
 cases fuel with
 | zero => simp [DataW.trod] at h
 | succ fuel =>
  simp only [DataW.trod, hu] at h
  split at h <;> simp_all
  exact ⟨_, rfl, h.1.2⟩⟩
theorem mapM_get {δ ε : Type} {f : δ → Option ε} : ∀ {xs : List δ} {ys : List ε}, xs.mapM f = some ys → ys.length = xs.length ∧ ∀ (j : Nat) x, xs[j]? = some x → ∃ y, ys[j]? = some y ∧ f x = some y
 | [], ys, h => by simp at h; subst h; simp
 | a :: xs, ys, h => by
  rw [List.mapM_cons] at h
  simp only [Option.bind_eq_bind, Option.bind_eq_some_iff, Option.pure_def, Option.some.injEq] at h
  obtain ⟨b, hb, zs, hz, rfl⟩ := h
  obtain ⟨h1, h2⟩ := mapM_get hz
  refine ⟨by simp [h1], ?_⟩
  intro j x hx
  cases j with
  | zero => simp at hx; subst hx; exact ⟨b, by simp, hb⟩
  | succ j => simpa using h2 j x (by simpa using hx)
theorem list_of {len : Nat} {Q : Nat → α → Prop} (h : ∀ j, j < len → ∃ y, Q j y) : ∃ ys : List α, ys.length = len ∧ ∀ (j : Nat) y, ys[j]? = some y → Q j y := by
 induction len with
 | zero => exact ⟨[], rfl, by simp⟩
 | succ n ih =>
  obtain ⟨ys, hl, hq⟩ := ih (fun j hj => h j (by omega))
  obtain ⟨y, hy⟩ := h n (by omega)
  refine ⟨ys ++ [y], by simp [hl], ?_⟩
  intro j z hz
  by_cases hj : j < ys.length
  ·rw [List.getElem?_append_left hj] at hz; exact hq j z hz
  ·rw [List.getElem?_append_right (by omega)] at hz
   have e : j - ys.length = 0 := by
    rcases Nat.eq_zero_or_pos (j - ys.length) with h0 | h0
    ·exact h0
    ·rw [List.getElem?_eq_none (by simp; omega)] at hz; cases hz
   rw [e] at hz
   simp at hz
   subst hz
   have : j = n := by omega
   subst this; exact hy
theorem cells_at {base : Nat} {a : Addr} {n : Nat} {c : List Value} (h : W.cells? base a n = some c) (i : Nat) (u : Value) (hu : c[i]? = some u) : W.cell? (a.add i) = some u := by
 unfold World.cells? at h
 split at h
 ·obtain ⟨hl, hg⟩ := mapM_get h
  rw [List.length_range] at hl
  have hi : i < n := by rw [← hl]; exact (List.getElem?_eq_some_iff.1 hu).1
  obtain ⟨y, hy, hc⟩ := hg i i (by rw [List.getElem?_range hi])
  rw [hy] at hu
  cases hu
  exact hc
 ·cases h
theorem opens_slice {t e : TypeId} {d : Kd α} {I : α → Prop} (hu : P.underlying t = some (.slice e)) (hc : P.cellsOf e = d.sz) (h : Opens enc P W e d I) : Opens enc P W t (Kd.slice e d) (fun xs => xs.length ≤ 9223372036854775807 ∧ ∀ x ∈ xs, I x) := ⟨by
 intro fuel cs x hx
 cases fuel with
 | zero => simp [DataW.trod] at hx
 | succ fuel =>
  unfold DataW.trod at hx
  rw [hu] at hx
  split at hx
  all_goals first | (rename_i heq; cases heq; done) | (rename_i heq _; cases heq; done) | (cases hx; done) | skip
  ·exact ⟨[], ⟨none, 0, rfl, Nat.le_refl _, Kd.C_nil d W⟩, by simp, by simp⟩
  ·rename_i e' a len cap heq
   injection heq with heq
   injection heq with heq
   subst heq
   dsimp only at hx
   split at hx
   ·rename_i hlc
    obtain ⟨_, hle, hmax⟩ := hlc
    simp only [Option.bind_eq_some_iff, Option.map_eq_some_iff] at hx
    obtain ⟨elems, hel, _, _, _⟩ := hx
    obtain ⟨hlen, hget⟩ := mapM_get hel
    rw [List.length_range] at hlen
    obtain ⟨ys, hyl, hyq⟩ := list_of (len := len) (Q := fun j y => I y ∧ ∃ c, c.length = d.sz ∧ d.K W y c ∧ ∀ (i : Nat) u, c[i]? = some u → W.cell? (a.add (j * d.sz + i)) = some u) (by
     intro j hj
     obtain ⟨y, _, hy⟩ := hget j j (by rw [List.getElem?_range hj])
     rw [Option.bind_eq_some_iff] at hy
     obtain ⟨c, hcs, hy⟩ := hy
     obtain ⟨y', hK, hI⟩ := h.out fuel c _ hy
     refine ⟨y', hI, c, d.K_len hK, hK, ?_⟩
     intro i u hi
     rw [hc] at hcs
     have := cells_at hcs i u hi
     rw [Addr.add_add] at this
     exact this)
    refine ⟨ys, ⟨some a, cap, by rw [hyl], by omega, hyl ▸ rfl, by unfold maxLen at hmax; omega, fun _ => ⟨a, rfl, fun j p hj => (hyq j p hj).2⟩⟩, by unfold maxLen at hmax; omega, ?_⟩
    intro x hx
    obtain ⟨j, hj⟩ := List.getElem?_of_mem hx
    exact (hyq j x hj).1
   ·cases hx⟩
theorem Opens.imp {t : TypeId} {d : Kd α} {I I' : α → Prop} (h : Opens enc P W t d I) (hi : ∀ x, I x → I' x) : Opens enc P W t d I' := ⟨fun fuel cs x hx => by
  obtain ⟨y, a, b⟩ := h.out fuel cs x hx
  exact ⟨y, a, hi y b⟩⟩
end
theorem evIf {α : Type} {c : Prop} [Decidable c] {g f : Nat → Option α} {r : α} (hc : c) (h : Ev g r) : Ev (fun k => if c then g k else f k) r :=
  Ev.congr (fun _ => if_pos hc) h
theorem evElse {α : Type} {c : Prop} [Decidable c] {g f : Nat → Option α} {r : α} (hc : ¬ c) (h : Ev f r) : Ev (fun k => if c then g k else f k) r :=
  Ev.congr (fun _ => if_neg hc) h
theorem evNow {α : Type} {g : Option α} {r : α} (h : g = some r) : Ev (fun _ => g) r := ⟨0, fun _ _ => h⟩
theorem evBindC {α β : Type} {g : Option α} {f : Nat → α → Option β} {a : α} {r : β} (h : g = some a) (k : Ev (fun n => f n a) r) : Ev (fun n => g.bind (f n)) r := by
  subst h; exact k
theorem w64 {x : Int} (h : -9223372036854775808 ≤ x) (h2 : x ≤ 9223372036854775807) : wrap64 x = x := by unfold wrap64; omega
def Run {α : Type} (g : Nat → Option α) (Q : α → Prop) : Prop := ∃ r, Ev g r ∧ Q r
theorem Run.ret {α : Type} {r : α} {Q : α → Prop} (h : Q r) : Run (fun _ => some r) Q := ⟨r, Ev.now r, h⟩
theorem Run.bind {α β : Type} {g : Nat → Option α} {f : Nat → α → Option β} {Q : α → Prop} {R : β → Prop} (h : Run g Q) (k : ∀ a, Q a → Run (fun n => f n a) R) : Run (fun n => (g n).bind (f n)) R := by
  obtain ⟨a, ha, qa⟩ := h
  obtain ⟨b, hb, rb⟩ := k a qa
  exact ⟨b, ha.bind hb, rb⟩
theorem Run.evBind {α β : Type} {g : Nat → Option α} {f : Nat → α → Option β} {a : α} {R : β → Prop} (h : Ev g a) (k : Run (fun n => f n a) R) : Run (fun n => (g n).bind (f n)) R := by
  obtain ⟨b, hb, rb⟩ := k
  exact ⟨b, h.bind hb, rb⟩
theorem Run.some {α β : Type} {a : α} {f : Nat → α → Option β} {R : β → Prop} (k : Run (fun n => f n a) R) : Run (fun n => (Option.some a).bind (f n)) R := k
theorem Run.constBind {α β : Type} {g : Option α} {f : Nat → α → Option β} {a : α} {R : β → Prop} (h : g = Option.some a) (k : Run (fun n => f n a) R) : Run (fun n => g.bind (f n)) R := by subst h; exact k
theorem Run.ite {α : Type} {c : Prop} [Decidable c] {g f : Nat → Option α} {Q : α → Prop} (h : c → Run g Q) (k : ¬ c → Run f Q) : Run (fun n => if c then g n else f n) Q := by
  by_cases hc : c
  · obtain ⟨r, e, q⟩ := h hc; exact ⟨r, evIf hc e, q⟩
  · obtain ⟨r, e, q⟩ := k hc; exact ⟨r, evElse hc e, q⟩
theorem Run.pos {α : Type} {c : Prop} [Decidable c] {g f : Nat → Option α} {Q : α → Prop} (hc : c) (h : Run g Q) : Run (fun n => if c then g n else f n) Q := Run.ite (fun _ => h) (fun k => absurd hc k)
theorem Run.neg {α : Type} {c : Prop} [Decidable c] {g f : Nat → Option α} {Q : α → Prop} (hc : ¬ c) (h : Run f Q) : Run (fun n => if c then g n else f n) Q := Run.ite (fun k => absurd k hc) (fun _ => h)
theorem Run.step {α : Type} {g f : Nat → Option α} {Q : α → Prop} (h : ∀ k, g (k + 1) = f k) (k : Run f Q) : Run g Q := by
  obtain ⟨r, e, q⟩ := k; exact ⟨r, Ev.step h e, q⟩
theorem Run.imp {α : Type} {g : Nat → Option α} {Q R : α → Prop} (h : Run g Q) (k : ∀ r, Q r → R r) : Run g R := by
  obtain ⟨r, e, q⟩ := h; exact ⟨r, e, k r q⟩
theorem Run.get {α : Type} {g : Nat → Option α} {r : α} (h : Run g (· = r)) : ∃ k, g k = Option.some r := by
  obtain ⟨r', e, rfl⟩ := h; exact e.rounds
theorem Run.ev {α : Type} {g : Nat → Option α} {r : α} (h : Run g (· = r)) : Ev g r := by
  obtain ⟨r', e, rfl⟩ := h; exact e
theorem Ev.run {α : Type} {g : Nat → Option α} {r : α} (h : Ev g r) : Run g (· = r) := ⟨r, h, rfl⟩
theorem wfb {n : Int} (h : (Lit.int .u8 n).wf = true) : 0 ≤ n ∧ n ≤ 255 := by
  simp [Lit.wf, IntKind.min, IntKind.max, IntKind.bits, IntKind.signed] at h; omega
theorem ofInt_i64 (a : Nat) (ha : a < 18446744073709551616) : (BitVec.ofInt 64 (a : Int)).toNat = a := by
  rw [BitVec.ofInt_natCast, BitVec.toNat_ofNat]; exact Nat.mod_eq_of_lt (by omega)
theorem xor_i64 (a b : Int) (h1 : 0 ≤ a) (h2 : a < 4611686018427387904) (h3 : 0 ≤ b) (h4 : b < 4611686018427387904) : 0 ≤ Go.bits .xor .i64 a b := by
  obtain ⟨A, rfl⟩ := Int.eq_ofNat_of_zero_le h1
  obtain ⟨B, rfl⟩ := Int.eq_ofNat_of_zero_le h3
  have hx : A ^^^ B < 2 ^ 62 := Nat.xor_lt_two_pow (by omega) (by omega)
  have e : Go.bits .xor .i64 (A : Int) (B : Int) = IntKind.i64.wrap ((BitVec.ofInt 64 (A : Int) ^^^ BitVec.ofInt 64 (B : Int)).toNat : Int) := rfl
  rw [e, BitVec.toNat_xor, ofInt_i64 A (by omega), ofInt_i64 B (by omega), IntKind.wrap_i64]
  omega
theorem tmod_range (a n : Int) (h : 0 ≤ a) (hn : 1 ≤ n) : 0 ≤ Int.tmod a n ∧ Int.tmod a n < n := by
  rw [Int.tmod_eq_emod_of_nonneg h]; exact ⟨Int.emod_nonneg _ (by omega), Int.emod_lt_of_pos _ (by omega)⟩
def Bytes (b : List Int) : Prop := b.length ≤ 2000 ∧ ∀ x ∈ b, 0 ≤ x ∧ x ≤ 255
theorem Bytes.at_ {b : List Int} (h : Bytes b) (i : Int) : 0 ≤ rd b i ∧ rd b i ≤ 255 := by
  unfold rd
  rw [List.getD_eq_getElem?_getD]
  cases e : b[i.toNat]? with
  | none => simp
  | some x => simpa using h.2 x (List.mem_of_getElem? e)
def LIMP : Int := 1099511627776
theorem pick_run {b : List Int} (hb : Bytes b) {p n : Int} (hp : 0 ≤ p) (hp2 : p < LIMP) : Run (fun k => spec_l20Rd_pick.f k b p n) (fun r => 0 ≤ r.1 ∧ (1 ≤ n → r.1 < n) ∧ (n < 1 → r.1 = 0) ∧ r.2 = p + 1) := by
 unfold LIMP at hp2
 have hl := hb.1
 have w1 : wrap64 (p + 1) = p + 1 := w64 (by omega) (by omega)
 have w2 : wrap64 (p + 1 - 1) = p := by rw [w64 (by omega) (by omega)]; omega
 unfold spec_l20Rd_pick.f
 by_cases hn : n < 1
 ·refine Run.pos hn (Run.step (fun k => by rw [spec_l20Rd_pick.j0]) (Run.pos rfl (Run.ret ?_)))
  rw [w1]; exact ⟨by omega, by omega, fun _ => rfl, rfl⟩
 ·refine Run.neg hn (Run.step (fun k => by rw [spec_l20Rd_pick.j0]) ?_)
  by_cases h0 : b.length = 0
  ·refine Run.pos (by simp [h0]) (Run.ret ?_)
   rw [w1]; exact ⟨by omega, by omega, by omega, rfl⟩
  ·refine Run.neg (by simp; intro h; simp [h] at h0) ?_
   rw [w1, w2]
   by_cases hlt : p < (b.length : Int)
   ·refine Run.pos hlt (Run.pos hp (Run.neg (by omega) (Run.ret ?_)))
    obtain ⟨r0, r1⟩ := hb.at_ p
    rw [w64 (by omega) (by omega)]
    obtain ⟨m0, m1⟩ := tmod_range (rd b p) n r0 (by omega)
    exact ⟨m0, fun _ => m1, by omega, rfl⟩
   ·have hL : (1 : Int) ≤ b.length := by omega
    have e7 : wrap64 (wrap64 (p * 7) + 3) = p * 7 + 3 := by rw [w64 (x := p * 7) (by omega) (by omega), w64 (by omega) (by omega)]
    rw [e7]
    obtain ⟨a0, a1⟩ := tmod_range p b.length hp hL
    obtain ⟨c0, c1⟩ := tmod_range (p * 7 + 3) b.length (by omega) hL
    refine Run.neg hlt (Run.neg (by omega) (Run.pos a0 (Run.pos a1 (Run.pos c0 (Run.pos c1 (Run.neg (by omega) (Run.ret ?_)))))))
    obtain ⟨x0, x1⟩ := hb.at_ (Int.tmod p b.length)
    obtain ⟨y0, y1⟩ := hb.at_ (Int.tmod (p * 7 + 3) b.length)
    have ed : Int.tdiv p (b.length : Int) = p / (b.length : Int) := Int.tdiv_eq_ediv_of_nonneg hp
    have d0 : 0 ≤ p / (b.length : Int) := Int.ediv_nonneg hp (by omega)
    have d1 : p / (b.length : Int) ≤ p := Int.ediv_le_self _ hp
    rw [ed]
    generalize p / (b.length : Int) = q at d0 d1 ⊢
    generalize rd b (Int.tmod p b.length) = x at x0 x1 ⊢
    generalize rd b (Int.tmod (p * 7 + 3) b.length) = y at y0 y1 ⊢
    have eX : wrap64 (wrap64 (wrap64 (wrap64 (wrap64 x * 131) + wrap64 (wrap64 y * 1117)) + wrap64 (p * 29)) + wrap64 (wrap64 q * 53)) = x * 131 + y * 1117 + p * 29 + q * 53 := by
     rw [w64 (x := x) (by omega) (by omega), w64 (x := y) (by omega) (by omega), w64 (x := q) (by omega) (by omega), w64 (x := x * 131) (by omega) (by omega), w64 (x := y * 1117) (by omega) (by omega), w64 (x := p * 29) (by omega) (by omega), w64 (x := q * 53) (by omega) (by omega), w64 (x := x * 131 + y * 1117) (by omega) (by omega), w64 (x := x * 131 + y * 1117 + p * 29) (by omega) (by omega), w64 (by omega) (by omega)]
    rw [eX]
    generalize hX : x * 131 + y * 1117 + p * 29 + q * 53 = X
    have X0 : 0 ≤ X := by omega
    have X1 : X < 4611686018427387904 := by omega
    have et : Int.tdiv X 64 = X / 64 := Int.tdiv_eq_ediv_of_nonneg X0
    rw [et, w64 (x := X / 64) (by omega) (by omega)]
    obtain ⟨m0, m1⟩ := tmod_range _ n (xor_i64 X (X / 64) X0 X1 (by omega) (by omega)) (by omega)
    exact ⟨m0, fun _ => m1, by omega, rfl⟩
theorem open_eq (l : List Int) (h : ∀ x ∈ l, (Lit.int .u8 x).wf = true) : ∃ b, spec_l20Open.f l = some (b, 0) ∧ Bytes b := by
  unfold spec_l20Open.f
  have hb : ∀ x ∈ l, 0 ≤ x ∧ x ≤ 255 := fun x hx => wfb (h x hx)
  by_cases hl : (l.length : Int) > 2000
  · refine ⟨_, by rw [if_pos hl, if_pos (by omega)], by simp; omega, fun x hx => hb x (List.mem_of_mem_take hx)⟩
  · exact ⟨_, by rw [if_neg hl], by omega, hb⟩
theorem wnext {n i : Nat} (h : i < n) (hn : n ≤ 9223372036854775807) : wrap64 ((i : Int) + 1) = ((i + 1 : Nat) : Int) := by
  rw [w64 (by omega) (by omega)]; omega
theorem dropCons {α : Type} (l : List α) (i : Nat) (h : i < l.length) : l.drop i = l[i] :: l.drop (i + 1) := List.drop_eq_getElem_cons h
theorem allLoop (n : Nat) (hn : n ≤ 9223372036854775807) (F : Nat → Int → Option Bool) (g : Nat → Int → Option Bool)
  (hF : ∀ k (i : Nat), i < n → F (k + 1) (i : Int) = ((g k (i : Int)).bind fun t => if t = true then F k (wrap64 ((i : Int) + 1)) else some false))
  (hE : ∀ k, F (k + 1) (n : Int) = some true) (p : Nat → Bool)
  (hg : ∀ (i : Nat), i < n → Ev (fun k => g k (i : Int)) (p i)) : ∀ (d i : Nat), i + d = n → Ev (fun k => F k (i : Int)) ((List.range' i d).all p) := by
 intro d
 induction d with
 | zero =>
  intro i hi
  obtain rfl : i = n := by omega
  exact Ev.step (fun k => hE k) (evNow rfl)
 | succ d ih =>
  intro i hi
  refine Ev.step (fun k => hF k i (by omega)) (Ev.bind (hg i (by omega)) ?_)
  rw [List.range'_succ, List.all_cons]
  cases hp : p i with
  | false => exact evElse (by simp) (evNow (by simp))
  | true =>
   refine evIf rfl ?_
   rw [wnext (n := n) (by omega) hn]
   simpa using ih (i + 1) (by omega)
theorem range'_all_take {p : Nat → Bool} (n i : Nat) : (List.range' i n).all p = true ↔ ∀ j, i ≤ j → j < i + n → p j = true := by
  simp [List.all_eq_true, List.mem_range'_1]
def bl (s : ByteArray) : List UInt8 := s.data.toList
theorem bl_len (s : ByteArray) : s.size = (bl s).length := Go.Lib.size_eq s
theorem bl_mk (l : List UInt8) : bl (⟨l.toArray⟩ : ByteArray) = l := rfl
theorem bt_bl (s : ByteArray) (i : Nat) (h : i < (bl s).length) : bt s (i : Int) = ((bl s)[i].toNat : Int) := by
  unfold bt
  have hs : i < s.size := by rw [bl_len]; exact h
  rw [Int.toNat_natCast, dif_pos hs]
  rfl
theorem rdS (l : List ByteArray) (i : Nat) (h : i < l.length) : rdOf ByteArray.empty l (i : Int) = l[i] := by unfold rdOf; simp [h]
theorem toList_nil (s : ByteArray) : s.toList = [] ↔ bl s = [] := by rw [Go.Lib.toList_data]; rfl
theorem wordSize (t : Int) (h0 : 0 ≤ t) (h : t < 7) : (rdOf ByteArray.empty (([(⟨#[97]⟩ : ByteArray), (⟨#[97, 110]⟩ : ByteArray), (⟨#[116, 104, 101]⟩ : ByteArray), (⟨#[111, 118, 101, 114]⟩ : ByteArray), (⟨#[117, 110, 100, 101, 114]⟩ : ByteArray), (⟨#[109, 101, 97, 100, 111, 119]⟩ : ByteArray), (⟨#[108, 105, 103, 104, 116, 104, 111, 117, 115, 101]⟩ : ByteArray)] : List ByteArray)) t).size ≤ 10 := by
  have : t = 0 ∨ t = 1 ∨ t = 2 ∨ t = 3 ∨ t = 4 ∨ t = 5 ∨ t = 6 := by omega
  rcases this with e | e | e | e | e | e | e <;> rw [e] <;> decide
theorem badSize (t : Int) (h0 : 0 ≤ t) (h : t < 7) : (rdOf ByteArray.empty (([(⟨#[32]⟩ : ByteArray), (⟨#[32, 32]⟩ : ByteArray), (⟨#[65]⟩ : ByteArray), (⟨#[49]⟩ : ByteArray), (⟨#[45]⟩ : ByteArray), (⟨#[0]⟩ : ByteArray), (⟨#[97, 98, 99, 100, 101, 102, 103, 104, 105, 106, 97, 98, 99, 100, 101, 102, 103, 104, 105, 106, 97, 98, 99, 100, 101, 102, 103, 104, 105, 106, 120]⟩ : ByteArray)] : List ByteArray)) t).size ≤ 31 := by
  have : t = 0 ∨ t = 1 ∨ t = 2 ∨ t = 3 ∨ t = 4 ∨ t = 5 ∨ t = 6 := by omega
  rcases this with e | e | e | e | e | e | e <;> rw [e] <;> decide
theorem text_run {b : List Int} (hb : Bytes b) {p : Int} (hp : 0 ≤ p) (hp2 : p + 8 < LIMP) : Run (fun k => spec_l20Text.f k b p) (fun r => r.1.size ≤ 30 ∧ p ≤ r.2 ∧ r.2 ≤ p + 6) := by
 unfold spec_l20Text.f
 refine Run.bind (pick_run hb (n := 6) hp (by omega)) fun r0 h0 => ?_
 obtain ⟨a0, a1, _, a2⟩ := h0
 generalize hW : (([(⟨#[97]⟩ : ByteArray), (⟨#[97, 110]⟩ : ByteArray), (⟨#[116, 104, 101]⟩ : ByteArray), (⟨#[111, 118, 101, 114]⟩ : ByteArray), (⟨#[117, 110, 100, 101, 114]⟩ : ByteArray), (⟨#[109, 101, 97, 100, 111, 119]⟩ : ByteArray), (⟨#[108, 105, 103, 104, 116, 104, 111, 117, 115, 101]⟩ : ByteArray)] : List ByteArray)) = W
 have hWl : W.length = 7 := by rw [← hW]; rfl
 have hWs : ∀ t : Int, 0 ≤ t → t < 7 → (rdOf ByteArray.empty W t).size ≤ 10 := by rw [← hW]; exact wordSize
 clear hW
 have loop : ∀ (d : Nat) (s : ByteArray) (q : Int), d ≤ 5 → s.size ≤ 30 → 0 ≤ q → q + (d : Int) ≤ p + 6 → p ≤ q → Run (fun k => spec_l20Text.l0 k W s (d : Int) b q) (fun r => r.1.size ≤ 30 ∧ p ≤ r.2 ∧ r.2 ≤ p + 6) := by
  intro d
  induction d with
  | zero =>
   intro s q _ hs hq hq2 hpq
   refine Run.step (fun k => by rw [spec_l20Text.l0]) (Run.neg (by omega) (Run.ret ?_))
   exact ⟨hs, by show p ≤ q; omega, by show q ≤ p + 6; omega⟩
  | succ d ih =>
   intro s q hd hs hq hq2 hpq
   have e1 : wrap64 (((d + 1 : Nat) : Int) - 1) = (d : Int) := by rw [w64 (by omega) (by omega)]; omega
   refine Run.step (fun k => by rw [spec_l20Text.l0]) (Run.pos (by omega) (Run.bind (pick_run hb (n := (W.length : Int)) hq (by omega)) fun r1 h1 => ?_))
   obtain ⟨b0, b1, _, b2⟩ := h1
   have b3 := b1 (by omega)
   have hw := hWs r1.1 b0 (by omega)
   rw [e1]
   refine Run.pos b0 (Run.pos b3 ?_)
   clear e1
   generalize rdOf ByteArray.empty W r1.1 = v at hw ⊢
   have go : ∀ u : ByteArray, u.size ≤ 30 → Run (fun k => spec_l20Text.l0 k W u (d : Int) b r1.2) (fun r => r.1.size ≤ 30 ∧ p ≤ r.2 ∧ r.2 ≤ p + 6) := fun u hu => ih u r1.2 (by omega) hu (by omega) (by omega) (by omega)
   refine Run.ite (fun _ => go v (by omega)) (fun _ => ?_)
   have e2 : wrap64 (wrap64 ((s.size : Int) + 1) + (v.size : Int)) = (s.size : Int) + 1 + (v.size : Int) := by rw [w64 (x := (s.size : Int) + 1) (by omega) (by omega), w64 (by omega) (by omega)]
   rw [e2]
   clear e2
   have e3 : (s ++ (⟨#[32]⟩ : ByteArray)).size = s.size + 1 := by rw [ByteArray.size_append]; rfl
   refine Run.ite (fun hle => ?_) (fun _ => go s hs)
   refine Run.pos (by omega) (Run.pos (by rw [e3]; omega) (go _ ?_))
   rw [ByteArray.size_append, e3]; omega
 obtain ⟨t, q⟩ := r0
 obtain ⟨n, rfl⟩ : ∃ n : Nat, t = (n : Int) := ⟨t.toNat, by have a0' : 0 ≤ t := a0; omega⟩
 have a1' : (n : Int) < 6 := a1 (by omega)
 have a2' : q = p + 1 := a2
 exact loop n _ q (by omega) (by show 0 ≤ 30; omega) (by omega) (by omega) (by omega)
theorem anyText_run {b : List Int} (hb : Bytes b) {p n : Int} (hp : 0 ≤ p) (hp2 : p + 16 < LIMP) : Run (fun k => spec_l20AnyText.f k b p n) (fun r => r.1.size ≤ 100 ∧ p ≤ r.2 ∧ r.2 ≤ p + 10) := by
  unfold spec_l20AnyText.f
  refine Run.bind (text_run hb hp (by omega)) fun r0 h0 => ?_
  obtain ⟨s, q⟩ := r0
  have s1 : s.size ≤ 30 := h0.1
  have s2 : p ≤ q := h0.2.1
  have s3 : q ≤ p + 6 := h0.2.2
  refine Run.bind (pick_run hb (n := n) (show 0 ≤ q by omega) (by omega)) fun r1 h1 => ?_
  obtain ⟨_, _, _, a2⟩ := h1
  have a2' : r1.2 = q + 1 := a2
  refine Run.ite (fun _ => Run.ret ⟨by show s.size ≤ 100; omega, by show p ≤ r1.2; omega, by show r1.2 ≤ p + 10; omega⟩) (fun _ => ?_)
  have e1 : wrap64 ((s.size : Int) + 1) = (s.size : Int) + 1 := w64 (by omega) (by omega)
  show Run (fun k => (spec_l20Rd_pick.f k b r1.2 (wrap64 ((s.size : Int) + 1))).bind _) _
  rw [e1]
  refine Run.bind (pick_run hb (n := (s.size : Int) + 1) (show 0 ≤ r1.2 by omega) (by omega)) fun r2 h2 => ?_
  obtain ⟨b0, b1, _, b2⟩ := h2
  have b3 := b1 (by omega)
  refine Run.pos b0 (Run.pos (by show r2.1 ≤ (s.size : Int); omega) (Run.some (Run.bind (pick_run hb (n := 7) (show 0 ≤ r2.2 by omega) (by omega)) fun r3 h3 => ?_)))
  obtain ⟨c0, c1, _, c2⟩ := h3
  have c3 := c1 (by omega)
  have hz := badSize r3.1 c0 c3
  refine Run.pos c0 (Run.pos (by show r3.1 < 7; omega) ?_)
  have z1 : (s.extract 0 (r2.1 : Int).toNat).size ≤ 30 := by rw [ByteArray.size_extract]; omega
  have z2 : (s.extract (r2.1 : Int).toNat s.size).size ≤ 30 := by rw [ByteArray.size_extract]; omega
  refine Run.pos (by show (s.extract 0 (r2.1 : Int).toNat).size + _ ≤ _; omega) (Run.pos (by rw [ByteArray.size_append]; show (s.extract 0 (r2.1 : Int).toNat).size + _ + (s.extract (r2.1 : Int).toNat s.size).size ≤ _; omega) (Run.ret ?_))
  refine ⟨?_, by show p ≤ r3.2; omega, by show r3.2 ≤ p + 10; omega⟩
  show (ByteArray.size _) ≤ 100
  rw [ByteArray.size_append, ByteArray.size_append]
  show (s.extract 0 (r2.1 : Int).toNat).size + _ + (s.extract (r2.1 : Int).toNat s.size).size ≤ _
  omega
theorem brd_run {b : List Int} (hb : Bytes b) {p n : Int} (hp : 0 ≤ p) (hp2 : p + 8 < LIMP) (hn : 1 ≤ n) : Run (fun k => spec_l20Brd.f k b p n) (fun r => p ≤ r.2.2 ∧ r.2.2 ≤ p + 8 ∧ -1 ≤ r.1 ∧ r.1 ≤ 5 ∧ -1 ≤ r.2.1 ∧ r.2.1 ≤ 4) := by
 have tail : ∀ (q s w : Int), 0 ≤ q → q + 3 < LIMP → -1 ≤ s → s ≤ 5 → -1 ≤ w → w ≤ 4 → Run (fun k => spec_l20Brd.j1 k n b q s w) (fun r => q ≤ r.2.2 ∧ r.2.2 ≤ q + 3 ∧ -1 ≤ r.1 ∧ r.1 ≤ 5 ∧ -1 ≤ r.2.1 ∧ r.2.1 ≤ 4) := by
  intro q s w hq hq2 hs hs2 hw hw2
  refine Run.step (fun k => by rw [spec_l20Brd.j1]) ?_
  refine Run.bind (pick_run hb (by omega) (by omega)) fun r1 h1 => ?_
  refine Run.ite (fun _ => ?_) (fun _ => Run.ret (by dsimp only; omega))
  refine Run.bind (pick_run hb (by omega) (by omega)) fun r2 h2 => ?_
  refine Run.ite (fun _ => ?_) (fun _ => ?_)
  ·refine Run.some (Run.bind (pick_run hb (by omega) (by omega)) fun r3 h3 => Run.pos (by omega) (Run.pos (by simp; omega) (Run.ret ?_)))
   have hr : rd [(-1), 5, 1] r3.1 = -1 ∨ rd [(-1), 5, 1] r3.1 = 5 ∨ rd [(-1), 5, 1] r3.1 = 1 := by
    have : r3.1 = 0 ∨ r3.1 = 1 ∨ r3.1 = 2 := by omega
    rcases this with e | e | e <;> rw [e] <;> decide
   dsimp only; omega
  ·refine Run.some (Run.bind (pick_run hb (by omega) (by omega)) fun r3 h3 => Run.pos (by omega) (Run.pos (by simp; omega) (Run.ret ?_)))
   have hr : -1 ≤ rd [(-1), 4, 0, 1] r3.1 ∧ rd [(-1), 4, 0, 1] r3.1 ≤ 4 := by
    have : r3.1 = 0 ∨ r3.1 = 1 ∨ r3.1 = 2 ∨ r3.1 = 3 := by omega
    rcases this with e | e | e | e <;> rw [e] <;> decide
   dsimp only; omega
 unfold spec_l20Brd.f
 refine Run.bind (pick_run hb (by omega) (by omega)) fun r0 h0 => ?_
 have mid : ∀ x : Bool, Run (fun k => spec_l20Brd.j0 k n r0.1 x b r0.2 0 0) (fun r => p ≤ r.2.2 ∧ r.2.2 ≤ p + 8 ∧ -1 ≤ r.1 ∧ r.1 ≤ 5 ∧ -1 ≤ r.2.1 ∧ r.2.1 ≤ 4) := by
  intro x
  refine Run.step (fun k => by rw [spec_l20Brd.j0]) ?_
  refine Run.ite (fun _ => ?_) (fun _ => Run.ite (fun _ => ?_) (fun _ => ?_))
  ·refine Run.bind (pick_run hb (by omega) (by omega)) fun r1 h1 => Run.bind (pick_run hb (by omega) (by omega)) fun r2 h2 => ?_
   rw [w64 (x := 1 + r1.1) (by omega) (by omega), w64 (x := 1 + r2.1) (by omega) (by omega)]
   exact (tail _ _ _ (by omega) (by omega) (by omega) (by omega) (by omega) (by omega)).imp fun r h => by omega
  ·refine Run.bind (pick_run hb (by omega) (by omega)) fun r1 h1 => Run.ite (fun _ => ?_) (fun _ => ?_)
   ·exact (tail _ _ _ (by omega) (by omega) (by omega) (by omega) (by omega) (by omega)).imp fun r h => by omega
   ·exact (tail _ _ _ (by omega) (by omega) (by omega) (by omega) (by omega) (by omega)).imp fun r h => by omega
  ·exact (tail _ _ _ (by omega) (by omega) (by omega) (by omega) (by omega) (by omega)).imp fun r h => by omega
 exact Run.ite (fun _ => mid _) (fun _ => mid _)
theorem rd6a (t : Int) (h0 : 0 ≤ t) (h : t < 6) : 1 ≤ rd ([1, 1, 1, 2, 3, 4] : List Int) t ∧ rd ([1, 1, 1, 2, 3, 4] : List Int) t ≤ 4 := by
  have : t = 0 ∨ t = 1 ∨ t = 2 ∨ t = 3 ∨ t = 4 ∨ t = 5 := by omega
  rcases this with e | e | e | e | e | e <;> rw [e] <;> decide
theorem rd6b (t : Int) (h0 : 0 ≤ t) (h : t < 6) : 1 ≤ rd ([1, 1, 1, 1, 2, 3] : List Int) t ∧ rd ([1, 1, 1, 1, 2, 3] : List Int) t ≤ 3 := by
  have : t = 0 ∨ t = 1 ∨ t = 2 ∨ t = 3 ∨ t = 4 ∨ t = 5 := by omega
  rcases this with e | e | e | e | e | e <;> rw [e] <;> decide
theorem rd3a (t : Int) (h0 : 0 ≤ t) (h : t < 3) : -1 ≤ rd ([0, 5, (-1)] : List Int) t ∧ rd ([0, 5, (-1)] : List Int) t ≤ 5 ∧ (rd ([0, 5, (-1)] : List Int) t ≤ 0 ∨ rd ([0, 5, (-1)] : List Int) t = 5) := by
  have : t = 0 ∨ t = 1 ∨ t = 2 := by omega
  rcases this with e | e | e <;> rw [e] <;> decide
structure CellD (p : Int) (r : ByteArray × Int × Int × Int × Int × Int × Int × Int × Int × Int × Int × Int) : Prop where
  s : r.1.size ≤ 100
  w : -1 ≤ r.2.1 ∧ r.2.1 ≤ 5
  h : -1 ≤ r.2.2.1 ∧ (r.2.2.1 ≤ 3 ∨ r.2.2.1 = 5)
  p0 : p ≤ r.2.2.2.2.2.2.2.2.2.2.2
  p1 : r.2.2.2.2.2.2.2.2.2.2.2 ≤ p + 80
theorem cellTail {b : List Int} (hb : Bytes b) {p n : Int} (hp : 0 ≤ p) (hp2 : p + 40 < LIMP) (s : ByteArray) (c h a1 a2 b1 b2 c1 c2 d1 d2 : Int) (hs : s.size ≤ 100) (hc : -1 ≤ c ∧ c ≤ 5) (hh : -1 ≤ h ∧ (h ≤ 3 ∨ h = 5)) :
  Run (fun k => spec_l20Cell.j0 k n b p s c h a1 a2 b1 b2 c1 c2 d1 d2) (fun r => r.1.size ≤ 100 ∧ (-1 ≤ r.2.1 ∧ r.2.1 ≤ 5) ∧ (-1 ≤ r.2.2.1 ∧ (r.2.2.1 ≤ 3 ∨ r.2.2.1 = 5)) ∧ p ≤ r.2.2.2.2.2.2.2.2.2.2.2 ∧ r.2.2.2.2.2.2.2.2.2.2.2 ≤ p + 30) := by
 refine Run.step (fun k => by rw [spec_l20Cell.j0]) ?_
 refine Run.bind (pick_run hb (n := n) hp (by omega)) fun r0 h0 => ?_
 obtain ⟨_, _, _, e0⟩ := h0
 refine Run.ite (fun _ => Run.ret ⟨hs, hc, hh, by show p ≤ r0.2; omega, by show r0.2 ≤ p + 30; omega⟩) (fun _ => ?_)
 refine Run.bind (pick_run hb (p := r0.2) (n := 4) (by omega) (by omega)) fun r1 h1 => ?_
 obtain ⟨_, _, _, e1⟩ := h1
 refine Run.ite (fun _ => ?_) (fun _ => Run.ite (fun _ => ?_) (fun _ => Run.ite (fun _ => ?_) (fun _ => ?_)))
 ·refine Run.bind (anyText_run hb (p := r1.2) (n := 1) (by omega) (by omega)) fun r2 h2 => ?_
  obtain ⟨s2, p2, q2⟩ := h2
  exact Run.ret ⟨s2, hc, hh, by show p ≤ r2.2; omega, by show r2.2 ≤ p + 30; omega⟩
 ·refine Run.some (Run.bind (pick_run hb (p := r1.2) (n := 3) (by omega) (by omega)) fun r2 h2 => ?_)
  obtain ⟨g0, g1, _, g2⟩ := h2
  have g3 := g1 (by omega)
  obtain ⟨k0, k1, _⟩ := rd3a r2.1 g0 g3
  exact Run.pos g0 (Run.pos (by show r2.1 < 3; omega) (Run.ret ⟨hs, ⟨k0, k1⟩, hh, by show p ≤ r2.2; omega, by show r2.2 ≤ p + 30; omega⟩))
 ·refine Run.some (Run.bind (pick_run hb (p := r1.2) (n := 3) (by omega) (by omega)) fun r2 h2 => ?_)
  obtain ⟨g0, g1, _, g2⟩ := h2
  have g3 := g1 (by omega)
  obtain ⟨k0, k1, k2⟩ := rd3a r2.1 g0 g3
  refine Run.pos g0 (Run.pos (by show r2.1 < 3; omega) (Run.ret ⟨hs, hc, ⟨k0, ?_⟩, by show p ≤ r2.2; omega, by show r2.2 ≤ p + 30; omega⟩))
  rcases k2 with k2 | k2
  ·exact Or.inl (by show rd ([0, 5, (-1)] : List Int) r2.1 ≤ 3; omega)
  ·exact Or.inr k2
 ·refine Run.bind (brd_run hb (p := r1.2) (n := 1) (by omega) (by omega) (by omega)) fun r2 h2 => ?_
  obtain ⟨p2, q2, _⟩ := h2
  exact Run.ret ⟨hs, hc, hh, by show p ≤ r2.2.2; omega, by show r2.2.2 ≤ p + 30; omega⟩
theorem cell_run {b : List Int} (hb : Bytes b) {p n : Int} (hp : 0 ≤ p) (hp2 : p + 100 < LIMP) : Run (fun k => spec_l20Cell.f k b p n) (fun r => CellD p r) := by
 unfold spec_l20Cell.f
 refine Run.bind (text_run hb hp (by omega)) fun r0 h0 => ?_
 obtain ⟨s0, p0, q0⟩ := h0
 refine Run.some (Run.bind (pick_run hb (p := r0.2) (n := 6) (by omega) (by omega)) fun r1 h1 => ?_)
 obtain ⟨a0, a1, _, a2⟩ := h1
 have a3 := a1 (by omega)
 refine Run.pos a0 (Run.pos (by show r1.1 < 6; omega) (Run.some (Run.bind (pick_run hb (p := r1.2) (n := 6) (by omega) (by omega)) fun r2 h2 => ?_)))
 obtain ⟨b0, b1, _, b2⟩ := h2
 have b3 := b1 (by omega)
 refine Run.pos b0 (Run.pos (by show r2.1 < 6; omega) ?_)
 refine Run.bind (brd_run hb (p := r2.2) (n := 999) (by omega) (by omega) (by omega)) fun r3 h3 => ?_
 obtain ⟨c0, c1, _⟩ := h3
 refine Run.bind (brd_run hb (p := r3.2.2) (n := 999) (by omega) (by omega) (by omega)) fun r4 h4 => ?_
 obtain ⟨d0, d1, _⟩ := h4
 refine Run.bind (brd_run hb (p := r4.2.2) (n := 999) (by omega) (by omega) (by omega)) fun r5 h5 => ?_
 obtain ⟨e0, e1, _⟩ := h5
 refine Run.bind (brd_run hb (p := r5.2.2) (n := 999) (by omega) (by omega) (by omega)) fun r6 h6 => ?_
 obtain ⟨f0, f1, _⟩ := h6
 refine Run.ite (fun _ => ?_) (fun _ => ?_)
 ·refine (cellTail hb (p := r6.2.2) (n := n) (by omega) (by omega) (⟨#[]⟩ : ByteArray) 1 1 0 0 0 0 0 0 0 0 (by decide) (by omega) (by omega)).imp fun r hr => ?_
  obtain ⟨x1, x2, x3, x4, x5⟩ := hr
  exact ⟨x1, x2, x3, by omega, by omega⟩
 ·have ka := rd6a r1.1 a0 a3
  have kb := rd6b r2.1 b0 b3
  refine (cellTail hb (p := r6.2.2) (n := n) (by omega) (by omega) r0.1 _ _ _ _ _ _ _ _ _ _ (by omega) (by omega) (by omega)).imp fun r hr => ?_
  obtain ⟨x1, x2, x3, x4, x5⟩ := hr
  exact ⟨x1, x2, x3, by omega, by omega⟩
theorem rdC (l : List S61) (i : Nat) (h : i < l.length) : rd_T61 l (i : Int) = l[i] := by unfold rd_T61; simp [h]
theorem rdR (l : List S56) (i : Nat) (h : i < l.length) : rd_T56 l (i : Int) = l[i] := by unfold rd_T56; simp [h]
theorem rdO (l : List S53) (i : Nat) (h : i < l.length) : rd_T53 l (i : Int) = l[i] := by unfold rd_T53; simp [h]
theorem in_eq (a b c : Int) : impl_in.f a b c = some (decide (b ≤ a) && decide (a ≤ c)) := by
  unfold impl_in.f; by_cases h : a ≥ b <;> simp [h] <;> omega
theorem l1In_eq (a b c : Int) : spec_l1In.f a b c = some (decide (b ≤ a) && decide (a ≤ c)) := by
  unfold spec_l1In.f; by_cases h : a ≥ b <;> simp [h] <;> omega
theorem byte32 {b : UInt8} : ((b.toNat : Int) = 32) ↔ b = 32 := by
 constructor
 ·intro h
  have : b.toNat = 32 := by omega
  exact UInt8.toNat_inj.mp (by rw [this]; rfl)
 ·rintro rfl; rfl
theorem cutL_le : ∀ (l w : List UInt8), w ∈ cutL l → w.length ≤ l.length := by
 intro l
 induction l with
 | nil => intro w h; simp [cutL] at h; subst h; simp
 | cons b l ih =>
  intro w h
  by_cases hb : b = 32
  ·subst hb
   rw [cutL_blank] at h
   rcases List.mem_cons.mp h with rfl | h
   ·simp
   ·have := ih w h; simp; omega
  ·obtain ⟨v, vs, e⟩ := cutL_ne l
   rw [cutL_other hb e] at h
   rcases List.mem_cons.mp h with rfl | h
   ·have := ih v (by rw [e]; simp); simp; omega
   ·have := ih w (by rw [e]; simp [h]); simp; omega
theorem cutB_le (s w : ByteArray) (h : w ∈ cutB s) : w.size ≤ s.size := by
  obtain ⟨l, hl, rfl⟩ := List.mem_map.mp h
  rw [bl_len, bl_len, bl_mk]
  exact cutL_le _ _ hl
def goodB (w : ByteArray) : Bool := goodW (bl w)
theorem cutB_good (s : ByteArray) : (cutB s).all goodB = (cutL (bl s)).all goodW := by
  unfold cutB
  rw [List.all_map]; rfl
def txtOk (s : ByteArray) : Bool := txtOkL (bl s)
theorem trim_ok (w : ByteArray) (h : w.size ≤ 9223372036854775807) : strings_Trim.f w (⟨#[97, 98, 99, 100, 101, 102, 103, 104, 105, 106, 107, 108, 109, 110, 111, 112, 113, 114, 115, 116, 117, 118, 119, 120, 121, 122]⟩ : ByteArray) = some ⟨(Go.Lib.trimS (bl w) letters26).toArray⟩ := by
  unfold strings_Trim.f
  rw [if_pos ⟨rfl, h⟩]; rfl
theorem implTxtOk (s : ByteArray) (h : s.size < 4294967281) : Ev (fun k => impl_TxtOk.f k s) (txtOk s) := by
 unfold impl_TxtOk.f txtOk txtOkL
 by_cases h0 : bl s = []
 ·refine evIf ((toList_nil s).mpr h0) (evNow ?_)
  rw [h0]; rfl
 ·refine evElse (fun e => h0 ((toList_nil s).mp e)) ?_
  refine evBindC (show strings_Split.f s (⟨#[32]⟩ : ByteArray) = some (cutB s) by unfold strings_Split.f; rw [if_pos ⟨rfl, h⟩]) ?_
  have hn : (cutB s).length ≤ s.size + 1 := by
   have := List.count_le_length (a := (32 : UInt8)) (l := bl s)
   rw [show (cutB s).length = (bl s).count 32 + 1 by rw [cutB, List.length_map, cutL_length]; rfl, bl_len]; omega
  have loop : ∀ (d i : Nat), i + d = (cutB s).length → Ev (fun k => impl_TxtOk.l0 k s (cutB s) ((cutB s).length : Int) i) (((cutB s).drop i).all goodB && decide ((s.size : Int) ≤ 30)) := by
   intro d
   induction d with
   | zero =>
    intro i hi
    obtain rfl : i = (cutB s).length := by omega
    rw [List.drop_length]
    refine Ev.step (fun k => by rw [impl_TxtOk.l0]) ?_
    exact evElse (by omega) (evNow (by simp))
   | succ d ih =>
    intro i hi
    have hlt : i < (cutB s).length := by omega
    have hw : (cutB s)[i].size ≤ s.size := cutB_le s _ (List.getElem_mem _)
    rw [dropCons _ i hlt, List.all_cons]
    refine Ev.step (fun k => by rw [impl_TxtOk.l0]) (evIf (by omega) (evIf (by omega) (evIf (by omega) ?_)))
    rw [rdS _ i hlt]
    generalize (cutB s)[i] = w at hw ⊢
    by_cases he : bl w = []
    ·refine evIf ((toList_nil w).mpr he) (evNow ?_)
     simp [goodB, goodW, he]
    ·refine evElse (fun e => he ((toList_nil w).mp e)) (evBindC (trim_ok w (by omega)) ?_)
     have ht := trim_empty (bl w)
     have he' : (bl w).isEmpty = false := by simpa using he
     have hg : goodB w = (bl w).all letter := by simp [goodB, goodW, he']
     rw [hg, ← ht]
     cases hc : (Go.Lib.trimS (bl w) letters26).isEmpty with
     | true =>
      refine evIf ((toList_nil _).mpr (by rw [bl_mk]; simpa using hc)) ?_
      rw [wnext (n := (cutB s).length) (by omega) (by omega)]
      simpa using ih (i + 1) (by omega)
     | false =>
      refine evElse (fun e => ?_) (evNow (by simp))
      have := (toList_nil _).mp e
      rw [bl_mk] at this
      rw [this] at hc; simp at hc
  have := loop (cutB s).length 0 (by omega)
  rw [List.drop_zero, cutB_good] at this
  have he : (bl s).isEmpty = false := by simpa using h0
  have hd : decide ((s.size : Int) ≤ 30) = decide ((bl s).length ≤ 30) := by rw [← bl_len]; exact decide_eq_decide.mpr (by omega)
  rw [he, Bool.false_or, Bool.and_comm, ← hd]
  exact this
theorem specTxtOk (s : ByteArray) (h : s.size ≤ 9223372036854775807) : Ev (fun k => spec_TxtOk.f k s) (txtOk s) := by
 unfold spec_TxtOk.f txtOk txtOkL
 have hsz := bl_len s
 by_cases h30 : (s.size : Int) > 30
 ·refine evIf h30 (evNow ?_)
  have h1 : (bl s).isEmpty = false := by
   cases hb : bl s with
   | nil => rw [hsz, hb] at h30; simp at h30
   | cons _ _ => rfl
  have h2 : decide ((bl s).length ≤ 30) = false := decide_eq_false (by omega)
  rw [h1, h2]; rfl
 ·refine evElse h30 ?_
  have hd : decide ((bl s).length ≤ 30) = true := decide_eq_true (by omega)
  have loop : ∀ (d i : Nat) (p : Bool), i + d = (bl s).length → (i = 0 → p = true) → (∀ j, i = j + 1 → ∀ b, (bl s)[j]? = some b → (p = true ↔ b = 32)) → (d = 0 → p = false) → Ev (fun k => spec_TxtOk.l0 k s i) (okFrom p ((bl s).drop i)) := by
   intro d
   induction d with
   | zero =>
    intro i p hi _ _ hp
    rw [hp rfl, show i = (bl s).length by omega, List.drop_length]
    refine Ev.step (fun k => by rw [spec_TxtOk.l0]) ?_
    exact evElse (by omega) (evNow rfl)
   | succ d ih =>
    intro i p hi h0 hprev _
    have hlt : i < (bl s).length := by omega
    have hx : (bl s)[i]? = some (bl s)[i] := by simp [hlt]
    rw [dropCons _ i hlt, okFrom]
    refine Ev.step (fun k => by rw [spec_TxtOk.l0]) (evIf (by omega) (evIf (by omega) ?_))
    have hb := bt_bl s i hlt
    rw [hb]
    have bad : Ev (fun k => spec_TxtOk.j1 k s i true) false := by
     refine Ev.step (fun k => by rw [spec_TxtOk.j1]) ?_
     exact evIf rfl (evNow rfl)
    generalize hbe : (bl s)[i] = b at hx hb ⊢
    have en := wnext (n := (bl s).length) (i := i) (by omega) (by omega)
    have hx' : ∀ q : Bool, (q = true ↔ b = 32) → ∀ j, i + 1 = j + 1 → ∀ b', (bl s)[j]? = some b' → (q = true ↔ b' = 32) := by
     intro q hq j hj b' hb'
     obtain rfl : j = i := by omega
     rw [hx] at hb'; cases hb'; exact hq
    by_cases h32 : b = 32
    ·subst h32
     rw [if_pos rfl]
     have good : i + 1 < (bl s).length → Ev (fun k => spec_TxtOk.j1 k s i false) (okFrom true ((bl s).drop (i + 1))) := by
      intro hlt2
      refine Ev.step (fun k => by rw [spec_TxtOk.j1]) ?_
      refine evElse (by simp) (evIf (by omega) (evIf (by omega) ?_))
      rw [hb]
      refine evIf (by rfl) ?_
      rw [en]
      exact ih (i + 1) true (by omega) (by omega) (hx' true (by simp)) (by omega)
     refine evIf (by rfl) ?_
     by_cases hi0 : i = 0
     ·refine evIf (by omega) ?_
      rw [h0 hi0]
      exact bad
     ·refine evElse (by omega) ?_
      have el : wrap64 ((s.size : Int) - 1) = (s.size : Int) - 1 := w64 (by omega) (by omega)
      rw [el]
      by_cases hl : i + 1 = (bl s).length
      ·refine evIf (by omega) ?_
       have e2 : (bl s).drop (i + 1) = [] := by rw [hl]; exact List.drop_length
       rw [e2]
       have : (!p && okFrom true []) = false := by simp [okFrom]
       rw [this]
       exact bad
      ·refine evElse (by omega) ?_
       obtain ⟨j, rfl⟩ : ∃ j, i = j + 1 := ⟨i - 1, by omega⟩
       have ej : wrap64 (((j + 1 : Nat) : Int) - 1) = (j : Int) := by rw [w64 (by omega) (by omega)]; omega
       rw [ej]
       refine evIf (by omega) (evIf (by omega) ?_)
       have hp := hprev j rfl (bl s)[j] (by simp [show j < (bl s).length by omega])
       rw [bt_bl s j (by omega)]
       cases hpp : p with
       | true =>
        have e3 : (bl s)[j] = 32 := hp.mp hpp
        rw [e3]
        exact bad
       | false =>
        have e3 : ¬ (bl s)[j] = 32 := fun e => by rw [hp.mpr e] at hpp; cases hpp
        have e4 : (((bl s)[j].toNat : Int) == 32) = false := beq_eq_false_iff_ne.mpr (fun e => e3 (byte32.mp e))
        rw [e4]
        simpa using good (by omega)
    ·rw [if_neg h32]
     refine evElse (fun e => h32 (byte32.mp e)) ?_
     refine Ev.step (fun k => by rw [spec_TxtOk.j1]) ?_
     refine evElse (by simp) (evIf (by omega) (evIf (by omega) ?_))
     rw [hb]
     refine evElse (fun e => h32 (byte32.mp e)) ?_
     have hr := b.toNat_lt
     rw [w64 (x := (b.toNat : Int)) (by omega) (by omega)]
     refine evBindC (l1In_eq _ _ _) ?_
     have hle : (decide (97 ≤ (b.toNat : Int)) && decide ((b.toNat : Int) ≤ 122)) = letter b := by unfold letter; congr 1 <;> simp <;> omega
     rw [hle]
     cases hll : letter b with
     | false => exact evElse (by simp) (evNow (by simp))
     | true =>
      refine evIf rfl ?_
      rw [en]
      simpa using ih (i + 1) false (by omega) (by omega) (hx' false (by simp [h32])) (fun _ => rfl)
  by_cases h0 : bl s = []
  ·rw [h0]
   refine Ev.step (fun k => by rw [spec_TxtOk.l0]) ?_
   have : s.size = 0 := by rw [hsz, h0]; rfl
   exact evElse (by omega) (evNow rfl)
  ·have h1 : (bl s).isEmpty = false := by simpa using h0
   have hp : 0 < (bl s).length := List.length_pos_iff.mpr h0
   have := loop (bl s).length 0 true (by omega) (fun _ => rfl) (fun j hj => by omega) (by omega)
   rw [List.drop_zero, okFrom_words] at this
   rw [h1, hd, Bool.false_or, Bool.true_and]
   exact this
def brdOk (s n : Int) : Bool := decide ((s = 0 ∨ s = 4) ∧ n = 0 ∨ (1 ≤ s ∧ s ≤ 3 ∧ 1 ≤ n ∧ n ≤ 3))
theorem bool_ext {a b : Bool} (h : a = true ↔ b = true) : a = b := by cases a <;> cases b <;> simp_all
theorem spec_brdOk (s n : Int) : Ev (fun k => spec_BrdOk.f k s n) (brdOk s n) := by
 unfold spec_BrdOk.f brdOk
 by_cases h : s = 0
 ·refine evIf h (Ev.step (fun k => by rw [spec_BrdOk.j0]) (evNow ?_)); simp [h]
  apply bool_ext; simp
 ·refine evElse h (Ev.step (fun k => by rw [spec_BrdOk.j0]) (evNow ?_))
  by_cases h4 : s = 4
  ·simp [h4]; apply bool_ext; simp
  ·simp only [l1In_eq, Option.bind_some]
   by_cases h1 : 1 ≤ s <;> by_cases h2 : s ≤ 3 <;> simp [h, h4, h1, h2]
theorem impl_brdOk (s n : Int) : impl_BrdOk.f s n = some (brdOk s n) := by
 unfold impl_BrdOk.f impl_BrdLine_drawn.f brdOk
 simp only [in_eq, Option.bind_some]
 by_cases h0 : s = 0
 ·subst h0; simp; apply bool_ext; simp
 ·by_cases h4 : s = 4
  ·subst h4; simp; apply bool_ext; simp
  ·by_cases h1 : 1 ≤ s <;> by_cases h2 : s ≤ 3 <;> simp [h0, h4, h1, h2]
theorem tinI (a b c : Int) : impl_in.f a b c = some (tin b c a) := tin_eq b c a
theorem tinS (a b c : Int) : spec_l1In.f a b c = some (tin b c a) := l1In_eq a b c
theorem tin_iff {lo hi n : Int} : tin lo hi n = true ↔ lo ≤ n ∧ n ≤ hi := by simp [tin]
def cellOkB (c : S61) : Bool := txtOk c.f0 && (tin 1 4 c.f1 && (tin 1 4 c.f2 && (brdOk c.f3.f0 c.f3.f1 && (brdOk c.f4.f0 c.f4.f1 && (brdOk c.f5.f0 c.f5.f1 && brdOk c.f6.f0 c.f6.f1)))))
theorem implCell (c : S61) (h : c.f0.size < 4294967281) : Ev (fun k => cellP k c) (cellOkB c) := by
  unfold cellP impl_CellOk.f cellOkB
  refine (implTxtOk c.f0 h).bind ?_
  cases txtOk c.f0 with
  | false => exact evElse (by simp) (evNow rfl)
  | true =>
  refine evIf rfl (evBindC (tinI c.f1 1 4) ?_)
  cases tin 1 4 c.f1 with
  | false => exact evElse (by simp) (evNow rfl)
  | true =>
  refine evIf rfl (evBindC (tinI c.f2 1 4) ?_)
  cases tin 1 4 c.f2 with
  | false => exact evElse (by simp) (evNow rfl)
  | true =>
  refine evIf rfl (evBindC (impl_brdOk c.f3.f0 c.f3.f1) ?_)
  cases brdOk c.f3.f0 c.f3.f1 with
  | false => exact evElse (by simp) (evNow rfl)
  | true =>
  refine evIf rfl (evBindC (impl_brdOk c.f4.f0 c.f4.f1) ?_)
  cases brdOk c.f4.f0 c.f4.f1 with
  | false => exact evElse (by simp) (evNow rfl)
  | true =>
  refine evIf rfl (evBindC (impl_brdOk c.f5.f0 c.f5.f1) ?_)
  cases brdOk c.f5.f0 c.f5.f1 with
  | false => exact evElse (by simp) (evNow rfl)
  | true => exact evIf rfl (evBindC (impl_brdOk c.f6.f0 c.f6.f1) (evNow rfl))
theorem specCell (c : S61) (h : c.f0.size < 4294967281) : Ev (fun k => spec_CellOk.f k c.f0 c.f1 c.f2 c.f3.f0 c.f3.f1 c.f4.f0 c.f4.f1 c.f5.f0 c.f5.f1 c.f6.f0 c.f6.f1) (cellOkB c) := by
  unfold spec_CellOk.f cellOkB
  refine (specTxtOk c.f0 (by omega)).bind ?_
  cases txtOk c.f0 with
  | false => exact evElse (by simp) (evNow rfl)
  | true =>
  refine evIf rfl (evBindC (tinS c.f1 1 4) ?_)
  cases tin 1 4 c.f1 with
  | false => exact evElse (by simp) (evNow rfl)
  | true =>
  refine evIf rfl (evBindC (tinS c.f2 1 4) ?_)
  cases tin 1 4 c.f2 with
  | false => exact evElse (by simp) (evNow rfl)
  | true =>
  refine evIf rfl ((spec_brdOk c.f3.f0 c.f3.f1).bind ?_)
  cases brdOk c.f3.f0 c.f3.f1 with
  | false => exact evElse (by simp) (evNow rfl)
  | true =>
  refine evIf rfl ((spec_brdOk c.f4.f0 c.f4.f1).bind ?_)
  cases brdOk c.f4.f0 c.f4.f1 with
  | false => exact evElse (by simp) (evNow rfl)
  | true =>
  refine evIf rfl ((spec_brdOk c.f5.f0 c.f5.f1).bind ?_)
  cases brdOk c.f5.f0 c.f5.f1 with
  | false => exact evElse (by simp) (evNow rfl)
  | true => exact evIf rfl ((spec_brdOk c.f6.f0 c.f6.f1).bind (evNow rfl))
theorem evAll {α β : Type} (g : α → Nat → Option β) (r : α → β) : ∀ l : List α, (∀ x ∈ l, Ev (fun k => g x k) (r x)) → ∃ K, ∀ k, K ≤ k → ∀ x ∈ l, g x k = some (r x)
 | [], _ => ⟨0, fun _ _ x hx => by cases hx⟩
 | a :: l, h => by
  obtain ⟨K1, h1⟩ := h a (by simp)
  obtain ⟨K2, h2⟩ := evAll g r l (fun x hx => h x (by simp [hx]))
  refine ⟨max K1 K2, fun k hk x hx => ?_⟩
  rcases List.mem_cons.mp hx with rfl | hx
  ·exact h1 k (by omega)
  ·exact h2 k (by omega) x hx
def rowBad (r : S56) : Bool := decide ((r.f0.length : Int) > 5) || r.f0.any fun c => !(cellOkB c)
def tblOkB (c : List S53) (hd ft : Int) (l : List S56) (g : Int) : Bool :=
 if tin 1 8 (l.length : Int) = true then (if (c.length : Int) > 8 then false else if tin 0 3 g = true then
  (if tin 0 (l.length : Int) hd = true then (if tin 0 (wrap64 ((l.length : Int) - hd)) ft = true then (if colsB c = true then false else !(l.any rowBad)) else false) else false) else false) else false
theorem implTblOk (c : List S53) (hd ft : Int) (l : List S56) (g : Int) (hs : ∀ x ∈ l, ∀ q ∈ x.f0, q.f0.size < 4294967281) : Ev (fun k => impl_TblOk.f k c hd ft l g) (tblOkB c hd ft l g) := by
 obtain ⟨K, hK⟩ := evAll (fun (q : S61) k => cellP k q) cellOkB (l.flatMap fun x => x.f0) (fun q hq => by
  obtain ⟨x, hx, hq⟩ := List.mem_flatMap.mp hq
  exact implCell q (hs x hx q hq))
 refine ⟨K, fun k hk => ?_⟩
 have hP : ∀ x ∈ l, ∀ q ∈ x.f0, cellP k q = some (cellOkB q) := fun x hx q hq => hK k hk q (List.mem_flatMap.mpr ⟨x, hx, hq⟩)
 have e1 : rowsK k l = true := by
  unfold rowsK
  rw [List.all_eq_true]; intro x hx
  rw [List.all_eq_true]; intro q hq
  rw [hP x hx q hq]; rfl
 have e2 : rowsB k l = l.any rowBad := by
  unfold rowsB
  refine any_mem _ _ l (fun x hx => ?_)
  unfold rowB rowBad
  congr 1
  refine any_mem _ _ x.f0 (fun q hq => ?_)
  unfold cellB
  rw [hP x hx q hq]; rfl
 show impl_TblOk.f k c hd ft l g = _
 unfold impl_TblOk.f tblOkB
 rw [e1, e2]
 split
 ·split
  ·rfl
  ·split
   ·split
    ·split
     ·split <;> rfl
     ·rfl
    ·rfl
   ·rfl
 ·rfl
theorem l2Col (a b : Int) : spec_l2Col.f a b = some (colB a b) := by
 unfold spec_l2Col.f colB
 simp only [tinS, Option.bind_some]
 split
 ·rfl
 ·split
  ·rfl
  ·split <;> rfl
theorem specTblOk (c : List S53) (hd ft : Int) (l : List S56) (g : Int) (hc : c.length ≤ 1048576) (hl : l.length ≤ 1048576) (hr : ∀ x ∈ l, x.f0.length ≤ 1048576) (hs : ∀ x ∈ l, ∀ q ∈ x.f0, q.f0.size < 4294967281) : Ev (fun k => spec_TblOk.f k c hd ft l g) (tblOkB c hd ft l g) := by
 have jt : Ev (fun k => spec_TblOk.j0 k true c hd ft l g) false := by
  refine Ev.step (fun k => by rw [spec_TblOk.j0]) ?_
  exact evIf rfl (evNow rfl)
 have rows : ∀ (d i : Nat), i + d = l.length → Ev (fun k => spec_TblOk.l1 k i c hd ft l g) (!((l.drop i).any rowBad)) := by
  intro d
  induction d with
  | zero =>
   intro i hi
   rw [show i = l.length by omega, List.drop_length]
   refine Ev.step (fun k => by rw [spec_TblOk.l1]) ?_
   exact evElse (by omega) (evNow rfl)
  | succ d ih =>
   intro i hi
   have hlt : i < l.length := by omega
   have hmem := List.getElem_mem hlt
   have hrow := hr _ hmem
   rw [dropCons l i hlt, List.any_cons]
   refine Ev.step (fun k => by rw [spec_TblOk.l1]) ?_
   refine evIf (by omega) ?_
   refine evIf (by omega) ?_
   rw [rdR l i hlt]
   by_cases h5 : (l[i].f0.length : Int) > 5
   ·refine evIf h5 (evNow ?_)
    have : rowBad l[i] = true := by unfold rowBad; rw [decide_eq_true h5]; rfl
    rw [this]; rfl
   ·refine evElse h5 ?_
    have eb : rowBad l[i] = l[i].f0.any fun c => !(cellOkB c) := by unfold rowBad; rw [decide_eq_false h5]; rfl
    rw [eb]
    have cells : ∀ (e j : Nat), j + e = l[i].f0.length → Ev (fun k => spec_TblOk.l2 k i j c hd ft l g) (!(((l[i].f0.drop j).any fun c => !(cellOkB c)) || (l.drop (i + 1)).any rowBad)) := by
     intro e
     induction e with
     | zero =>
      intro j hj
      rw [show j = l[i].f0.length by omega, List.drop_length]
      refine Ev.step (fun k => by rw [spec_TblOk.l2]) ?_
      refine evIf (by omega) ?_
      refine evIf (by omega) ?_
      rw [rdR l i hlt]
      refine evElse (by omega) ?_
      rw [wnext (n := l.length) (by omega) (by omega)]
      simpa using ih (i + 1) (by omega)
     | succ e ihe =>
      intro j hj
      have hjl : j < l[i].f0.length := by omega
      rw [dropCons _ j hjl, List.any_cons]
      refine Ev.step (fun k => by rw [spec_TblOk.l2]) ?_
      refine evIf (by omega) ?_
      refine evIf (by omega) ?_
      rw [rdR l i hlt]
      refine evIf (by omega) ?_
      refine evIf (by omega) ?_
      rw [rdC _ j hjl]
      refine (specCell l[i].f0[j] (hs _ hmem _ (List.getElem_mem _))).bind ?_
      cases cellOkB l[i].f0[j] with
      | false => exact evElse (by simp) (evNow (by simp))
      | true =>
       refine evIf rfl ?_
       rw [wnext (n := l[i].f0.length) (by omega) (by omega)]
       simpa using ihe (j + 1) (by omega)
    have := cells l[i].f0.length 0 (by omega)
    rw [List.drop_zero] at this
    exact this
 have cols : ∀ (d i : Nat), i + d = c.length → Ev (fun k => spec_TblOk.l0 k i c hd ft l g) (if colsB (c.drop i) = true then false else !(l.any rowBad)) := by
  intro d
  induction d with
  | zero =>
   intro i hi
   rw [show i = c.length by omega, List.drop_length]
   refine Ev.step (fun k => by rw [spec_TblOk.l0]) ?_
   refine evElse (by omega) ?_
   have := rows l.length 0 (by omega)
   rw [List.drop_zero] at this
   exact this
  | succ d ih =>
   intro i hi
   have hlt : i < c.length := by omega
   rw [dropCons c i hlt]
   have ec : colsB (c[i] :: c.drop (i + 1)) = (!(colB c[i].f0 c[i].f1) || colsB (c.drop (i + 1))) := by unfold colsB; rw [List.any_cons]
   rw [ec]
   refine Ev.step (fun k => by rw [spec_TblOk.l0]) ?_
   refine evIf (by omega) ?_
   refine evIf (by omega) ?_
   rw [rdO c i hlt]
   refine evBindC (l2Col _ _) ?_
   cases colB c[i].f0 c[i].f1 with
   | false => exact evElse (by simp) (evNow rfl)
   | true =>
    refine evIf rfl ?_
    rw [wnext (n := c.length) (by omega) (by omega)]
    simpa using ih (i + 1) (by omega)
 unfold spec_TblOk.f tblOkB
 refine evBindC (tinS (l.length : Int) 1 8) ?_
 cases tin 1 8 (l.length : Int) with
 | false => exact evElse (by simp) jt
 | true =>
 refine evIf rfl ?_
 by_cases h8 : (c.length : Int) > 8
 ·rw [if_pos h8]
  exact evIf h8 jt
 refine evElse h8 (evBindC (tinS hd 0 (l.length : Int)) ?_)
 rw [if_pos rfl, if_neg h8]
 cases h1 : tin 0 (l.length : Int) hd with
 | false => cases tin 0 3 g <;> exact evElse (by simp) jt
 | true =>
 refine evIf rfl (evBindC (tinS ft 0 (wrap64 ((l.length : Int) - hd))) ?_)
 cases h2 : tin 0 (wrap64 ((l.length : Int) - hd)) ft with
 | false => cases tin 0 3 g <;> exact evElse (by simp) jt
 | true =>
 refine evIf rfl (evBindC (tinS g 0 3) ?_)
 cases tin 0 3 g with
 | false => exact jt
 | true =>
  refine Ev.step (fun k => by rw [spec_TblOk.j0]) ?_
  exact evElse (by simp) (cols c.length 0 (by omega))
structure CD (c : S61) : Prop where
  s : c.f0.size ≤ 100
  w : -1 ≤ c.f1 ∧ c.f1 ≤ 5
  h : -1 ≤ c.f2 ∧ (c.f2 ≤ 3 ∨ c.f2 = 5)
structure OD (c : S53) : Prop where
  a : 0 ≤ c.f0 ∧ c.f0 ≤ 3
  b : -1 ≤ c.f1 ∧ c.f1 ≤ 101
structure TblD (e : Nat) (p q : Int) (r : List S53 × Int × Int × List S56 × Int × Int) : Prop where
  cl : r.1.length ≤ 5 + e
  co : ∀ c ∈ r.1, OD c
  hd : -1 ≤ r.2.1 ∧ r.2.1 ≤ 9
  ft : -1 ≤ r.2.2.1 ∧ r.2.2.1 ≤ 9
  r1 : 1 ≤ r.2.2.2.1.length
  r2 : r.2.2.2.1.length ≤ 6 + 3 * e
  rc : ∀ x ∈ r.2.2.2.1, ∀ c ∈ x.f0, CD c
  rl : ∃ m : Nat, ∀ (i : Nat) x, r.2.2.2.1[i]? = some x → x.f0.length ≤ (if i = m then 4 + e else 4)
  g : -1 ≤ r.2.2.2.2.1 ∧ r.2.2.2.2.1 ≤ 4
  p0 : p ≤ r.2.2.2.2.2
  p1 : r.2.2.2.2.2 ≤ q
theorem tbl_end {b : List Int} {p q : Int} {c : List S53} {hd ft g : Int} {l : List S56} (hc : c.length ≤ 5) (hco : ∀ x ∈ c, OD x) (h1 : 0 ≤ hd ∧ hd ≤ 1) (h2 : 0 ≤ ft ∧ ft ≤ 1) (hg : 0 ≤ g ∧ g ≤ 3) (r1 : 1 ≤ l.length) (r2 : l.length ≤ 6) (hrc : ∀ x ∈ l, ∀ y ∈ x.f0, CD y) (hrl : ∀ x ∈ l, x.f0.length ≤ 4) (hp : p ≤ q) (P : List S53 × Int × Int × List S56 × Int × Int → Prop)
  (hP : ∀ r, TblD 0 p q r → (tblOkB r.1 r.2.1 r.2.2.1 r.2.2.2.1 r.2.2.2.2.1 = true) → P r) :
  Run (fun k => (spec_TblOk.f k c hd ft l g).bind fun t => if t = true then some (c, hd, ft, l, g, q) else some (([] : List S53), 0, 0, [(⟨([] : List S61), false⟩ : S56)], 0, q)) P := by
 have so := specTblOk c hd ft l g (by omega) (by omega) (fun x hx => by have := hrl x hx; omega) (fun x hx y hy => by have := (hrc x hx y hy).s; omega)
 refine Run.evBind so (Run.ite (fun hok => Run.ret (hP _ ?_ hok)) (fun _ => Run.ret (hP _ ?_ (by dsimp only; decide +kernel))))
 ·exact { cl := hc, co := hco, hd := (by show -1 ≤ hd ∧ hd ≤ 9; omega), ft := (by show -1 ≤ ft ∧ ft ≤ 9; omega), r1 := r1, r2 := r2, rc := hrc, rl := ⟨0, fun i x hx => (by have := hrl x (List.mem_of_getElem? hx); split <;> omega)⟩, g := (by show -1 ≤ g ∧ g ≤ 4; omega), p0 := hp, p1 := Int.le_refl _ }
 ·exact { cl := Nat.zero_le _, co := fun x hx => (by cases hx), hd := (by dsimp only; decide), ft := (by dsimp only; decide), r1 := (by dsimp only; decide), r2 := (by dsimp only; decide), rc := fun x hx y hy => (by simp at hx; subst hx; cases hy), rl := ⟨0, fun i x hx => (by have := List.mem_of_getElem? hx; simp at this; subst this; simp)⟩, g := (by dsimp only; decide), p0 := hp, p1 := Int.le_refl _ }
theorem rd4a (t : Int) (h0 : 0 ≤ t) (h : t < 4) : 10 ≤ rd ([10, 25, 50, 100] : List Int) t ∧ rd ([10, 25, 50, 100] : List Int) t ≤ 100 := by
  have : t = 0 ∨ t = 1 ∨ t = 2 ∨ t = 3 := by omega
  rcases this with e | e | e | e <;> rw [e] <;> decide
theorem table_run {b : List Int} (hb : Bytes b) {p : Int} (hp : 0 ≤ p) (hp2 : p + 3000 < LIMP) : Run (fun k => spec_l20Table.f k b p) (fun r => ∃ q, TblD 0 p q r ∧ q ≤ p + 2500 ∧ tblOkB r.1 r.2.1 r.2.2.1 r.2.2.2.1 r.2.2.2.2.1 = true) := by
 unfold spec_l20Table.f
 refine Run.bind (pick_run hb (p := p) (n := 4) hp (by omega)) fun g0 hg0 => ?_
 obtain ⟨ga, gb, _, gc⟩ := hg0
 have gd := gb (by omega)
 refine Run.bind (pick_run hb (p := g0.2) (n := 6) (by omega) (by omega)) fun n0 hn0 => ?_
 obtain ⟨na, nb, _, nc⟩ := hn0
 have nd := nb (by omega)
 have rows : ∀ (c : List S53), c.length ≤ 5 → (∀ x ∈ c, OD x) → ∀ (n d i : Nat) (q : Int) (l : List S56), i + d = n → 1 ≤ n → n ≤ 6 → l.length = i → (∀ x ∈ l, ∀ y ∈ x.f0, CD y) → (∀ x ∈ l, x.f0.length ≤ 4) → p ≤ q → q ≤ p + 30 + 400 * i →
   Run (fun k => spec_l20Table.l1 k n i b q c 0 0 l g0.1) (fun r => ∃ q, TblD 0 p q r ∧ q ≤ p + 2500 ∧ tblOkB r.1 r.2.1 r.2.2.1 r.2.2.2.1 r.2.2.2.2.1 = true) := by
  intro c hc hco n d
  induction d with
  | zero =>
   intro i q l hi hn1 hn2 hl hrc hrl hq hq2
   have nlt : ¬ ((i : Int) < (n : Int)) := by omega
   refine Run.step (fun k => by rw [spec_l20Table.l1]) (Run.neg nlt ?_)
   refine Run.bind (pick_run hb (p := q) (n := 2) (by omega) (by omega)) fun a ha => ?_
   obtain ⟨a0, a1, _, a2⟩ := ha
   refine Run.ite (fun _ => ?_) (fun _ => ?_)
   ·refine Run.bind (pick_run hb (p := a.2) (n := 2) (by omega) (by omega)) fun e he => ?_
    obtain ⟨e0, e1, _, e2⟩ := he
    have e3 := e1 (by omega)
    refine Run.bind (pick_run hb (p := e.2) (n := 2) (by omega) (by omega)) fun f hf => ?_
    obtain ⟨f0, f1, _, f2⟩ := hf
    have f3 := f1 (by omega)
    refine Run.ite (fun _ => ?_) (fun _ => ?_)
    ·exact tbl_end (b := b) (p := p) hc hco (by omega) (by omega) (by omega) (by omega) (by omega) hrc hrl (by omega) _ (fun r hr ho => ⟨f.2, hr, by omega, ho⟩)
    ·exact tbl_end (b := b) (p := p) hc hco (by omega) (by omega) (by omega) (by omega) (by omega) hrc hrl (by omega) _ (fun r hr ho => ⟨f.2, hr, by omega, ho⟩)
   ·exact tbl_end (b := b) (p := p) hc hco (by omega) (by omega) (by omega) (by omega) (by omega) hrc hrl (by omega) _ (fun r hr ho => ⟨a.2, hr, by omega, ho⟩)
  | succ d ih =>
   intro i q l hi hn1 hn2 hl hrc hrl hq hq2
   have lt : (i : Int) < (n : Int) := by omega
   refine Run.step (fun k => by rw [spec_l20Table.l1]) (Run.pos lt ?_)
   refine Run.bind (pick_run hb (p := q) (n := 4) (by omega) (by omega)) fun a ha => ?_
   obtain ⟨a0, a1, _, a2⟩ := ha
   refine Run.bind (pick_run hb (p := a.2) (n := 5) (by omega) (by omega)) fun e he => ?_
   obtain ⟨e0, e1, _, e2⟩ := he
   have e3 := e1 (by omega)
   have cells : ∀ (m : Nat) (q' : Int) (y : List S61) (w : Bool), y.length + m ≤ 4 → (∀ z ∈ y, CD z) → p ≤ q' → q' + 80 * m ≤ p + 30 + 400 * (i + 1) → Run (fun k => spec_l20Table.l2 k n i m b q' c 0 0 l g0.1 y w) (fun r => ∃ q, TblD 0 p q r ∧ q ≤ p + 2500 ∧ tblOkB r.1 r.2.1 r.2.2.1 r.2.2.2.1 r.2.2.2.2.1 = true) := by
    intro m
    induction m with
    | zero =>
     intro q' y w hy hz hq' hq2'
     have e1' : l.length < 4398046511104 := by omega
     refine Run.step (fun k => by rw [spec_l20Table.l2]) (Run.neg (by omega) (Run.pos e1' ?_))
     rw [wnext (n := n) (i := i) (by omega) (by omega)]
     refine ih (i + 1) q' (l ++ [⟨y, w⟩]) (by omega) hn1 hn2 (by simp; omega) ?_ ?_ hq' (by omega)
     ·intro x hx
      rcases List.mem_append.mp hx with hx | hx
      ·exact hrc x hx
      ·simp at hx; subst hx; exact hz
     ·intro x hx
      rcases List.mem_append.mp hx with hx | hx
      ·exact hrl x hx
      ·simp at hx; subst hx; show y.length ≤ 4; omega
    | succ m ihm =>
     intro q' y w hy hz hq' hq2'
     refine Run.step (fun k => by rw [spec_l20Table.l2]) (Run.pos (by omega) ?_)
     refine Run.bind (cell_run hb (p := q') (n := 99999) (by omega) (by omega)) fun r hr => ?_
     have k1 := hr.p0
     have k2 := hr.p1
     refine Run.pos (by omega) ?_
     rw [show wrap64 (((m + 1 : Nat) : Int) - 1) = (m : Int) from by rw [w64 (by omega) (by omega)]; omega]
     refine ihm _ _ w (by simp; omega) ?_ (by omega) (by omega)
     intro z hz'
     rcases List.mem_append.mp hz' with hz' | hz'
     ·exact hz z hz'
     ·simp at hz'; subst hz'; exact ⟨hr.s, hr.w, hr.h⟩
   obtain ⟨m, hm⟩ : ∃ m : Nat, e.1 = m := ⟨e.1.toNat, by omega⟩
   rw [hm]
   exact cells m e.2 [] _ (by simp; omega) (fun z hz => by cases hz) (by omega) (by omega)
 have cols : ∀ (d : Nat) (q : Int) (c : List S53), c.length + d ≤ 5 → (∀ x ∈ c, OD x) → p ≤ q → q + 3 * d ≤ p + 20 →
   Run (fun k => spec_l20Table.l0 k d b q c 0 0 g0.1) (fun r => ∃ q, TblD 0 p q r ∧ q ≤ p + 2500 ∧ tblOkB r.1 r.2.1 r.2.2.1 r.2.2.2.1 r.2.2.2.2.1 = true) := by
  intro d
  induction d with
  | zero =>
   intro q c hc hco hq hq2
   refine Run.step (fun k => by rw [spec_l20Table.l0]) (Run.neg (by omega) ?_)
   refine Run.bind (pick_run hb (p := q) (n := 6) (by omega) (by omega)) fun a ha => ?_
   obtain ⟨a0, a1, _, a2⟩ := ha
   have a3 := a1 (by omega)
   rw [w64 (x := 1 + a.1) (by omega) (by omega)]
   obtain ⟨n, hn⟩ : ∃ n : Nat, 1 + a.1 = n := ⟨(1 + a.1).toNat, by omega⟩
   rw [hn]
   exact rows c (by omega) hco n n 0 a.2 [] (by omega) (by omega) (by omega) rfl (fun x hx => by cases hx) (fun x hx => by cases hx) (by omega) (by omega)
  | succ d ih =>
   intro q c hc hco hq hq2
   refine Run.step (fun k => by rw [spec_l20Table.l0]) (Run.pos (by omega) ?_)
   refine Run.bind (pick_run hb (p := q) (n := 30) (by omega) (by omega)) fun a ha => ?_
   obtain ⟨a0, a1, _, a2⟩ := ha
   have a3 := a1 (by omega)
   refine Run.some (Run.bind (pick_run hb (p := a.2) (n := 4) (by omega) (by omega)) fun e he => ?_)
   obtain ⟨e0, e1, _, e2⟩ := he
   have e3 := e1 (by omega)
   have e4 := rd4a e.1 e0 e3
   refine Run.pos e0 (Run.pos (by show e.1 < 4; omega) (Run.some (Run.bind (pick_run hb (p := e.2) (n := 4) (by omega) (by omega)) fun f hf => ?_)))
   obtain ⟨f0, f1, _, f2⟩ := hf
   have f3 := f1 (by omega)
   refine Run.pos f0 (Run.pos (by show f.1 < 4; omega) (Run.pos (by omega) ?_))
   rw [show wrap64 (((d + 1 : Nat) : Int) - 1) = (d : Int) from by rw [w64 (by omega) (by omega)]; omega]
   refine ih f.2 _ (by simp; omega) ?_ (by omega) (by omega)
   intro x hx
   rcases List.mem_append.mp hx with hx | hx
   ·exact hco x hx
   ·simp only [List.mem_singleton] at hx
    subst hx
    have : f.1 = 0 ∨ f.1 = 1 ∨ f.1 = 2 ∨ f.1 = 3 := by omega
    rcases this with ee | ee | ee | ee <;> rw [ee]
    ·exact ⟨by show (0:Int) ≤ 0 ∧ (0:Int) ≤ 3; omega, by show -1 ≤ (0:Int) ∧ (0:Int) ≤ 101; omega⟩
    ·exact ⟨by show (0:Int) ≤ 0 ∧ (0:Int) ≤ 3; omega, by show -1 ≤ (0:Int) ∧ (0:Int) ≤ 101; omega⟩
    ·exact ⟨by show (0:Int) ≤ 1 ∧ (1:Int) ≤ 3; omega, by show -1 ≤ a.1 ∧ a.1 ≤ 101; omega⟩
    ·exact ⟨by show (0:Int) ≤ 2 ∧ (2:Int) ≤ 3; omega, by show -1 ≤ rd ([10, 25, 50, 100] : List Int) e.1 ∧ rd ([10, 25, 50, 100] : List Int) e.1 ≤ 101; omega⟩
 obtain ⟨n, hn⟩ : ∃ n : Nat, n0.1 = n := ⟨n0.1.toNat, by omega⟩
 rw [hn]
 exact cols n n0.2 [] (by simp; omega) (fun x hx => by cases hx) (by omega) (by omega)
theorem TblD.up {p q q' : Int} {r : List S53 × Int × Int × List S56 × Int × Int} (h : TblD 0 p q r) {a : List S53} {hd ft g z : Int} (ha : a.length ≤ 6) (hao : ∀ c ∈ a, OD c) (h1 : -1 ≤ hd ∧ hd ≤ 9) (h2 : -1 ≤ ft ∧ ft ≤ 9) (h3 : -1 ≤ g ∧ g ≤ 4) (hz : p ≤ z ∧ z ≤ q') : TblD 1 p q' (a, hd, ft, r.2.2.2.1, g, z) :=
  { cl := ha, co := hao, hd := h1, ft := h2, r1 := h.r1, r2 := (by have := h.r2; show r.2.2.2.1.length ≤ 9; omega), rc := h.rc, rl := (by obtain ⟨m, hm⟩ := h.rl; exact ⟨m, fun i x hx => by have := hm i x hx; split at this <;> split <;> omega⟩), g := h3, p0 := hz.1, p1 := hz.2 }
theorem rd3h (n t : Int) (hn : 1 ≤ n ∧ n ≤ 9) (h0 : 0 ≤ t) (h : t < 3) : -1 ≤ rd ([(-1), 9, n] : List Int) t ∧ rd ([(-1), 9, n] : List Int) t ≤ 9 := by
  have : t = 0 ∨ t = 1 ∨ t = 2 := by omega
  rcases this with e | e | e <;> rw [e]
  · show -1 ≤ (-1 : Int) ∧ (-1 : Int) ≤ 9; omega
  · show -1 ≤ (9 : Int) ∧ (9 : Int) ≤ 9; omega
  · show -1 ≤ n ∧ n ≤ 9; omega
theorem rd2g (t : Int) (h0 : 0 ≤ t) (h : t < 2) : -1 ≤ rd ([(-1), 4] : List Int) t ∧ rd ([(-1), 4] : List Int) t ≤ 4 := by
  have : t = 0 ∨ t = 1 := by omega
  rcases this with e | e <;> rw [e] <;> decide
theorem rd4c (t : Int) (h0 : 0 ≤ t) (h : t < 4) : -1 ≤ rd ([(-1), 0, 61, 101] : List Int) t ∧ rd ([(-1), 0, 61, 101] : List Int) t ≤ 101 := by
  have : t = 0 ∨ t = 1 ∨ t = 2 ∨ t = 3 := by omega
  rcases this with e | e | e | e <;> rw [e] <;> decide
theorem any_run {b : List Int} (hb : Bytes b) {p n : Int} (hp : 0 ≤ p) (hp2 : p + 3000 < LIMP) : Run (fun k => spec_l20AnyTable.f k b p n) (fun r => TblD 1 p (p + 2700) r) := by
 unfold spec_l20AnyTable.f
 refine Run.bind (table_run hb hp hp2) fun r hr => ?_
 obtain ⟨q, hT, hq, _⟩ := hr
 have w0 := hT.p0
 have w1 := hT.p1
 have hcl := hT.cl
 have hr1 := hT.r1
 have hr2 := hT.r2
 refine Run.bind (pick_run hb (p := r.2.2.2.2.2) (n := n) (by omega) (by omega)) fun a ha => ?_
 obtain ⟨_, _, _, a2⟩ := ha
 refine Run.ite (fun _ => Run.ret (hT.up (by omega) hT.co hT.hd hT.ft hT.g (by omega))) (fun _ => ?_)
 refine Run.bind (pick_run hb (p := a.2) (n := (r.2.2.2.1.length : Int)) (by omega) (by omega)) fun e he => ?_
 obtain ⟨e0, e1, _, e2⟩ := he
 have e3 := e1 (by omega)
 refine Run.bind (pick_run hb (p := e.2) (n := 6) (by omega) (by omega)) fun f hf => ?_
 obtain ⟨f0, f1, _, f2⟩ := hf
 refine Run.ite (fun _ => ?_) (fun _ => Run.ite (fun _ => ?_) (fun _ => Run.ite (fun _ => ?_) (fun _ => Run.ite (fun _ => ?_) (fun _ => Run.ite (fun _ => ?_) (fun _ => ?_)))))
 ·refine Run.some (Run.bind (pick_run hb (p := f.2) (n := 3) (by omega) (by omega)) fun x hx => ?_)
  obtain ⟨x0, x1, _, x2⟩ := hx
  have x3 := x1 (by omega)
  have hv := rd3h (r.2.2.2.1.length : Int) x.1 (by omega) x0 x3
  exact Run.pos x0 (Run.pos (by show x.1 < 3; omega) (Run.ret (hT.up (by omega) hT.co hv hT.ft hT.g (by omega))))
 ·refine Run.some (Run.bind (pick_run hb (p := f.2) (n := 3) (by omega) (by omega)) fun x hx => ?_)
  obtain ⟨x0, x1, _, x2⟩ := hx
  have x3 := x1 (by omega)
  have hv := rd3h (r.2.2.2.1.length : Int) x.1 (by omega) x0 x3
  exact Run.pos x0 (Run.pos (by show x.1 < 3; omega) (Run.ret (hT.up (by omega) hT.co hT.hd hv hT.g (by omega))))
 ·refine Run.some (Run.bind (pick_run hb (p := f.2) (n := 2) (by omega) (by omega)) fun x hx => ?_)
  obtain ⟨x0, x1, _, x2⟩ := hx
  have x3 := x1 (by omega)
  have hv := rd2g x.1 x0 x3
  exact Run.pos x0 (Run.pos (by show x.1 < 2; omega) (Run.ret (hT.up (by omega) hT.co hT.hd hT.ft hv (by omega))))
 ·refine Run.bind (pick_run hb (p := f.2) (n := 4) (by omega) (by omega)) fun y hy => ?_
  obtain ⟨y0, y1, _, y2⟩ := hy
  have y3 := y1 (by omega)
  refine Run.some (Run.bind (pick_run hb (p := y.2) (n := 4) (by omega) (by omega)) fun x hx => ?_)
  obtain ⟨x0, x1, _, x2⟩ := hx
  have x3 := x1 (by omega)
  have hv := rd4c x.1 x0 x3
  refine Run.pos x0 (Run.pos (by show x.1 < 4; omega) (Run.pos (by omega) (Run.ret (hT.up (by simp; omega) ?_ hT.hd hT.ft hT.g (by omega)))))
  intro c hc
  rcases List.mem_append.mp hc with hc | hc
  ·exact hT.co c hc
  ·simp at hc; subst hc; exact ⟨by show 0 ≤ y.1 ∧ y.1 ≤ 3; omega, hv⟩
 ·refine Run.pos e0 (Run.pos e3 ?_)
  refine Run.bind (cell_run hb (p := f.2) (n := 1) (by omega) (by omega)) fun c hc => ?_
  have k1 := hc.p0
  have k2 := hc.p1
  obtain ⟨i, hi⟩ : ∃ i : Nat, e.1 = i := ⟨e.1.toNat, by omega⟩
  rw [hi] at e3 ⊢
  have hlt : i < r.2.2.2.1.length := by omega
  have hrd := rdR r.2.2.2.1 i hlt
  have hx : r.2.2.2.1[i]? = some r.2.2.2.1[i] := by simp [hlt]
  have hnice : r.2.2.2.1[i].f0.length ≤ 4 := by
   obtain ⟨m, hm⟩ := hT.rl
   have := hm i _ hx
   split at this <;> omega
  rw [hrd]
  refine Run.pos (by omega) (Run.ret ?_)
  rw [Int.toNat_natCast]
  refine { cl := (by show r.1.length ≤ 5 + 1; omega), co := hT.co, hd := hT.hd, ft := hT.ft, r1 := (by simp; omega), r2 := (by simp; omega), rc := ?_, rl := ?_, g := hT.g, p0 := (by show p ≤ c.2.2.2.2.2.2.2.2.2.2.2; omega), p1 := (by show c.2.2.2.2.2.2.2.2.2.2.2 ≤ p + 2700; omega) }
  ·intro x hx' z hz
   rcases List.mem_or_eq_of_mem_set hx' with hx' | rfl
   ·exact hT.rc x hx' z hz
   ·rcases List.mem_append.mp hz with hz | hz
    ·exact hT.rc _ (List.getElem_mem hlt) z hz
    ·simp at hz; subst hz; exact ⟨hc.s, hc.w, hc.h⟩
  ·refine ⟨i, fun j x hx' => ?_⟩
   by_cases hj : j = i
   ·subst hj
    rw [List.getElem?_set_self hlt] at hx'
    obtain rfl := Option.some.inj hx'
    rw [if_pos rfl]; simp; omega
   ·rw [List.getElem?_set_ne (fun q => hj q.symm)] at hx'
    obtain ⟨m, hm⟩ := hT.rl
    have := hm j x hx'
    rw [if_neg hj]
    split at this <;> omega
 ·have loop : ∀ (d : Nat) (l : List S56), l.length + d = 9 → (∀ x ∈ l, ∀ c ∈ x.f0, CD c) → (∃ m : Nat, ∀ (i : Nat) x, l[i]? = some x → x.f0.length ≤ (if i = m then 5 else 4)) → 1 ≤ l.length → Run (fun k => spec_l20AnyTable.l0 k b f.2 r.1 r.2.1 r.2.2.1 l r.2.2.2.2.1) (fun r => TblD 1 p (p + 2700) r) := by
   intro d
   induction d with
   | zero =>
    intro l hl hc hm h1
    refine Run.step (fun k => by rw [spec_l20AnyTable.l0]) (Run.neg (by omega) (Run.ret ?_))
    exact { cl := (by show r.1.length ≤ 5 + 1; omega), co := hT.co, hd := hT.hd, ft := hT.ft, r1 := h1, r2 := (by show l.length ≤ 9; omega), rc := hc, rl := hm, g := hT.g, p0 := (by show p ≤ f.2; omega), p1 := (by show f.2 ≤ p + 2700; omega) }
   | succ d ih =>
    intro l hl hc hm h1
    refine Run.step (fun k => by rw [spec_l20AnyTable.l0]) (Run.pos (by omega) (Run.pos (by omega) (ih _ (by simp; omega) ?_ ?_ (by simp))))
    ·intro x hx z hz
     rcases List.mem_append.mp hx with hx | hx
     ·exact hc x hx z hz
     ·simp at hx; subst hx; cases hz
    ·obtain ⟨m, hm⟩ := hm
     refine ⟨m, fun i x hx => ?_⟩
     by_cases hi : i < l.length
     ·rw [List.getElem?_append_left hi] at hx; exact hm i x hx
     ·rw [List.getElem?_append_right (by omega)] at hx
      have := List.mem_of_getElem? hx
      simp at this; subst this; simp
  refine loop (9 - r.2.2.2.1.length) _ (by omega) hT.rc ?_ hr1
  obtain ⟨m, hm⟩ := hT.rl
  exact ⟨m, fun i x hx => by have := hm i x hx; split at this <;> split <;> omega⟩
theorem rdG (l : List S37) (i : Nat) (h : i < l.length) : rd_T37 l (i : Int) = l[i] := by unfold rd_T37; simp [h]
def inB (lo hi n : Int) : Bool := decide (lo ≤ n) && decide (n ≤ hi)
theorem inI (a b c : Int) : impl_in.f a b c = some (inB b c a) := in_eq a b c
theorem inB_iff {lo hi n : Int} : inB lo hi n = true ↔ lo ≤ n ∧ n ≤ hi := by simp [inB]
theorem meetsS (c d : S37) : spec_l3Meets.f c.f0 c.f1 c.f2 c.f3 c.f4 d.f0 d.f1 d.f2 d.f3 d.f4 = some (meetsB c d) := by
  unfold spec_l3Meets.f meetsB
  by_cases h1 : c.f0 < wrap64 (d.f0 + d.f2) <;> by_cases h2 : d.f0 < wrap64 (c.f0 + c.f2) <;> by_cases h3 : c.f1 < wrap64 (d.f1 + d.f3) <;> simp [h1, h2, h3]
theorem meets_comm (c d : S37) : meetsB c d = meetsB d c := by
  unfold meetsB
  cases decide (c.f0 < wrap64 (d.f0 + d.f2)) <;> cases decide (d.f0 < wrap64 (c.f0 + c.f2)) <;> cases decide (c.f1 < wrap64 (d.f1 + d.f3)) <;> cases decide (d.f1 < wrap64 (c.f1 + c.f3)) <;> rfl
theorem allRangeG (l : List S37) (q : S37 → Bool) : (List.range' 0 l.length).all (fun i => q (rd_T37 l (i : Int))) = l.all q := by
 rw [Bool.eq_iff_iff, range'_all_take, List.all_eq_true]
 constructor
 ·intro h x hx
  obtain ⟨i, hi, rfl⟩ := List.getElem_of_mem hx
  have := h i (Nat.zero_le _) (by omega)
  rwa [rdG l i hi] at this
 ·intro h j _ hj
  rw [rdG l j (by omega)]
  exact h _ (List.getElem_mem _)
theorem l3Free (l : List S37) (c : S37) (h : l.length ≤ 9223372036854775807) : Ev (fun k => spec_l3Free.f k l c.f0 c.f1 c.f2 c.f3 c.f4) (!(l.any (meetsB c))) := by
 unfold spec_l3Free.f
 have := allLoop l.length h (fun k i => spec_l3Free.l0 k l i c.f0 c.f1 c.f2 c.f3 c.f4) (fun _ i => some (!(meetsB (rd_T37 l i) c))) (by
  intro k i hi
  show spec_l3Free.l0 (k + 1) l i c.f0 c.f1 c.f2 c.f3 c.f4 = _
  rw [spec_l3Free.l0, if_pos (by omega), if_pos (by omega), meetsS, Option.bind_some, Option.bind_some]
  cases meetsB (rd_T37 l i) c <;> rfl) (by
  intro k
  show spec_l3Free.l0 (k + 1) l l.length c.f0 c.f1 c.f2 c.f3 c.f4 = _
  rw [spec_l3Free.l0, if_neg (by omega)]) (fun i => !(meetsB (rd_T37 l i) c)) (fun i _ => evNow rfl) l.length 0 (by omega)
 rw [allRangeG l (fun d => !(meetsB d c))] at this
 have e : (l.all fun d => !(meetsB d c)) = !(l.any (meetsB c)) := by
  rw [List.not_any_eq_all_not]
  congr 1; funext d; rw [meets_comm]
 rw [e] at this
 exact this
abbrev GC := S37
def seek (l : List GC) (r h w i : Int) : Nat → Nat → Nat
  | 0, k => k
  | n + 1, k => if l.any (meetsB ⟨r, (k : Int), h, w, i⟩) = true then seek l r h w i n (k + 1) else k
theorem seek_range (l : List GC) (r h w i : Int) : ∀ (n k : Nat), k ≤ seek l r h w i n k ∧ seek l r h w i n k ≤ k + n
 | 0, k => by simp [seek]
 | n + 1, k => by
  have := seek_range l r h w i n (k + 1)
  unfold seek
  split <;> omega
theorem seek_blocked (l : List GC) (r h w i : Int) : ∀ (n k j : Nat), k ≤ j → j < seek l r h w i n k → l.any (meetsB ⟨r, (j : Int), h, w, i⟩) = true
 | 0, k, j, h1, h2 => by simp [seek] at h2; omega
 | n + 1, k, j, h1, h2 => by
  unfold seek at h2
  split at h2
  ·rename_i hm
   by_cases e : j = k
   ·rw [e]; exact hm
   ·exact seek_blocked l r h w i n (k + 1) j (by omega) h2
  ·omega
theorem seek_free (l : List GC) (r h w i : Int) : ∀ (n k : Nat), seek l r h w i n k < k + n → l.any (meetsB ⟨r, (seek l r h w i n k : Nat), h, w, i⟩) = false
 | 0, k, h1 => by simp [seek] at h1
 | n + 1, k, h1 => by
  unfold seek at h1 ⊢
  split
  ·rename_i hm
   rw [if_pos hm] at h1
   exact seek_free l r h w i n (k + 1) (by omega)
  ·rename_i hm
   simpa using hm
structure Sm (c : GC) : Prop where
  r0 : 0 ≤ c.f0
  r1 : c.f0 ≤ 1000
  c0 : 0 ≤ c.f1
  c1 : c.f1 ≤ 1000
  h0 : 1 ≤ c.f2
  h1 : c.f2 ≤ 4
  w0 : 1 ≤ c.f3
  w1 : c.f3 ≤ 4
theorem meets_small {c d : GC} (hc : Sm c) (hd : Sm d) : meetsB c d = true ↔ (c.f0 < d.f0 + d.f2 ∧ d.f0 < c.f0 + c.f2 ∧ c.f1 < d.f1 + d.f3 ∧ d.f1 < c.f1 + c.f3) := by
  obtain ⟨a1, a2, a3, a4, a5, a6, a7, a8⟩ := hc
  obtain ⟨b1, b2, b3, b4, b5, b6, b7, b8⟩ := hd
  unfold meetsB
  rw [w64 (x := d.f0 + d.f2) (by omega) (by omega), w64 (x := c.f0 + c.f2) (by omega) (by omega), w64 (x := d.f1 + d.f3) (by omega) (by omega), w64 (x := c.f1 + c.f3) (by omega) (by omega)]
  simp only [Bool.and_eq_true, decide_eq_true_eq]
theorem countOr {α : Type} (p q : α → Bool) : ∀ l : List α, l.countP (fun x => p x || q x) ≤ l.countP p + l.countP q
 | [] => by simp
 | x :: l => by
  have ih := countOr p q l
  rw [List.countP_cons, List.countP_cons, List.countP_cons]
  cases p x <;> cases q x <;> simp <;> omega
theorem countImp {α : Type} {p q : α → Bool} : ∀ {l : List α}, (∀ x ∈ l, p x = true → q x = true) → l.countP p ≤ l.countP q
 | [], _ => by simp
 | x :: l, h => by
  have ih := countImp (l := l) (fun y hy => h y (by simp [hy]))
  have hx := h x (by simp)
  rw [List.countP_cons, List.countP_cons]
  cases hp : p x
  ·simp; omega
  ·rw [hx hp]; simp; omega
theorem countNear (A : Int) : ∀ K : Nat, ((List.range K).countP (fun j : Nat => decide ((j : Int) < A + 4) && decide (A < (j : Int) + 4)) : Int) ≤ (if (K : Int) ≤ A - 3 then 0 else if (K : Int) < A + 4 then (K : Int) - (A - 3) else 7)
 | 0 => by simp; split <;> (try split) <;> omega
 | K + 1 => by
  have ih := countNear A K
  rw [List.range_succ, List.countP_append, List.countP_singleton]
  by_cases h1 : (K : Int) < A + 4 <;> by_cases h2 : A < (K : Int) + 4 <;> simp only [h1, h2, decide_true, decide_false, Bool.and_true, Bool.and_false, Bool.true_and, Bool.false_and, if_true, if_false, Bool.false_eq_true] at ih ⊢ <;> (split at ih <;> split <;> (try split at ih) <;> (try split) <;> omega)
theorem countTaken (c : GC) (hc : ∀ k : Nat, (k : Int) ≤ 1000 → Sm ⟨c.f0, (k : Int), c.f2, c.f3, c.f4⟩) (K : Nat) (hK : K ≤ 1000) : ∀ (l : List GC), (∀ d ∈ l, Sm d) →
  (List.range K).countP (fun j : Nat => l.any (meetsB ⟨c.f0, (j : Int), c.f2, c.f3, c.f4⟩)) ≤ 7 * l.countP (fun d => decide (c.f0 < d.f0 + d.f2))
 | [], _ => by simp
 | d :: l, h => by
  have ih := countTaken c hc K hK l (fun x hx => h x (by simp [hx]))
  have hd := h d (by simp)
  have h1 := countOr (fun j : Nat => meetsB ⟨c.f0, (j : Int), c.f2, c.f3, c.f4⟩ d) (fun j : Nat => l.any (meetsB ⟨c.f0, (j : Int), c.f2, c.f3, c.f4⟩)) (List.range K)
  have h2 : (List.range K).countP (fun j : Nat => meetsB ⟨c.f0, (j : Int), c.f2, c.f3, c.f4⟩ d) ≤ 7 * (if c.f0 < d.f0 + d.f2 then 1 else 0) := by
   by_cases hr : c.f0 < d.f0 + d.f2
   ·rw [if_pos hr]
    have h3 := countNear d.f1 K
    have h4 : (List.range K).countP (fun j : Nat => meetsB ⟨c.f0, (j : Int), c.f2, c.f3, c.f4⟩ d) ≤ (List.range K).countP (fun j : Nat => decide ((j : Int) < d.f1 + 4) && decide (d.f1 < (j : Int) + 4)) := by
     refine countImp fun j hj hm => ?_
     have hjK : j < K := by simpa using hj
     have := (meets_small (hc j (by omega)) hd).mp hm
     obtain ⟨_, _, _, _, _, _, _, w1⟩ := hd
     obtain ⟨_, _, _, _, _, _, _, v1⟩ := hc j (by omega)
     simp only [Bool.and_eq_true, decide_eq_true_eq]
     simp only at this v1
     omega
    have h5 : ((List.range K).countP (fun j : Nat => decide ((j : Int) < d.f1 + 4) && decide (d.f1 < (j : Int) + 4)) : Int) ≤ 7 := by
     split at h3
     ·omega
     ·split at h3 <;> omega
    omega
   ·rw [if_neg hr]
    have : (List.range K).countP (fun j : Nat => meetsB ⟨c.f0, (j : Int), c.f2, c.f3, c.f4⟩ d) = 0 := by
     rw [List.countP_eq_zero]
     intro j hj hm
     have hjK : j < K := by simpa using hj
     exact hr ((meets_small (hc j (by omega)) hd).mp hm).1
    omega
  rw [List.countP_cons]
  simp only [List.any_cons]
  by_cases hr : c.f0 < d.f0 + d.f2
  ·simp only [hr, decide_true, if_true] at h2 ⊢; omega
  ·simp only [hr, decide_false, if_false, Bool.false_eq_true] at h2 ⊢; omega
theorem seek_fits {l : List GC} {r h w i : Int} (hl : ∀ d ∈ l, Sm d) (hr0 : 0 ≤ r) (hr1 : r ≤ 1000) (hh0 : 1 ≤ h) (hh1 : h ≤ 4) (hw0 : 1 ≤ w) (hw1 : w ≤ 4) (hn : l.countP (fun d => decide (r < d.f0 + d.f2)) ≤ 12) :
  seek l r h w i 90 0 ≤ 84 ∧ l.any (meetsB ⟨r, (seek l r h w i 90 0 : Nat), h, w, i⟩) = false := by
 have hrg := seek_range l r h w i 90 0
 have ht := countTaken ⟨r, 0, h, w, i⟩ (fun k hk => ⟨hr0, hr1, by show (0:Int) ≤ k; omega, hk, hh0, hh1, hw0, hw1⟩) (seek l r h w i 90 0) (by omega) l hl
 have hall : (List.range (seek l r h w i 90 0)).countP (fun j : Nat => l.any (meetsB ⟨r, (j : Int), h, w, i⟩)) = seek l r h w i 90 0 := by
  have : (List.range (seek l r h w i 90 0)).countP (fun j : Nat => l.any (meetsB ⟨r, (j : Int), h, w, i⟩)) = (List.range (seek l r h w i 90 0)).length := by
   rw [List.countP_eq_length]
   intro j hj
   exact seek_blocked l r h w i 90 0 j (Nat.zero_le _) (by simpa using hj)
  rw [this, List.length_range]
 simp only at ht
 rw [hall] at ht
 refine ⟨by omega, seek_free l r h w i 90 0 (by omega)⟩
theorem tblFacts {c : List S53} {hd ft g : Int} {l : List S56} (h : tblOkB c hd ft l g = true) : 1 ≤ l.length ∧ l.length ≤ 8 ∧ c.length ≤ 8 ∧ 0 ≤ hd ∧ hd ≤ l.length ∧ 0 ≤ ft ∧ ft ≤ (l.length : Int) - hd ∧ 0 ≤ g ∧ g ≤ 3 ∧ colsB c = false ∧ l.any rowBad = false := by
 unfold tblOkB at h
 split at h
 ·rename_i h1
  rw [tin_iff] at h1
  split at h
  ·cases h
  ·rename_i h2
   split at h
   ·rename_i h3
    rw [tin_iff] at h3
    split at h
    ·rename_i h4
     rw [tin_iff] at h4
     split at h
     ·rename_i h5
      rw [tin_iff, w64 (by omega) (by omega)] at h5
      split at h
      ·cases h
      ·rename_i h6
       refine ⟨by omega, by omega, by omega, by omega, by omega, by omega, by omega, by omega, by omega, by simpa using h6, by simpa using h⟩
     ·cases h
    ·cases h
   ·cases h
 ·cases h
abbrev TR := S56
abbrev TCl := S61
def endOf (hd ft n r : Int) : Int := if r < hd then hd else if r ≥ n - ft then n else n - ft
def highOf (hd ft n r : Int) (x : TCl) : Int := if r + x.f2 > endOf hd ft n r then endOf hd ft n r - r else x.f2
def putCell (hd ft n : Int) (r i : Nat) (x : TCl) (acc : List GC) : GC := ⟨r, (seek acc r (highOf hd ft n r x) x.f1 i 90 0 : Nat), highOf hd ft n r x, x.f1, i⟩
def putRow (hd ft n : Int) (r : Nat) : Nat → List TCl → List GC → List GC
  | _, [], acc => acc
  | i, x :: xs, acc => putRow hd ft n r (i + 1) xs (acc ++ [putCell hd ft n r i x acc])
def putRows (hd ft n : Int) : Nat → List TR → List GC → List GC
  | _, [], acc => acc
  | r, y :: ys, acc => putRows hd ft n (r + 1) ys (putRow hd ft n r 0 y.f0 acc)
def wideOf (m0 : Int) (l : List GC) : Int := l.foldl (fun m c => if m > c.f1 + c.f3 then m else c.f1 + c.f3) m0
theorem wideOf_snoc (m0 : Int) (l : List GC) (c : GC) : wideOf m0 (l ++ [c]) = if wideOf m0 l > c.f1 + c.f3 then wideOf m0 l else c.f1 + c.f3 := by unfold wideOf; rw [List.foldl_append]; rfl
structure TOk (hd ft : Int) (rows : List TR) : Prop where
  n0 : 1 ≤ rows.length
  n1 : rows.length ≤ 8
  h0 : 0 ≤ hd
  f0 : 0 ≤ ft
  hf : hd + ft ≤ rows.length
  rl : ∀ y ∈ rows, y.f0.length ≤ 5
  cl : ∀ y ∈ rows, ∀ x ∈ y.f0, 1 ≤ x.f1 ∧ x.f1 ≤ 4 ∧ 1 ≤ x.f2 ∧ x.f2 ≤ 4
theorem tOk {c : List S53} {hd ft g : Int} {l : List TR} (h : tblOkB c hd ft l g = true) : TOk hd ft l := by
 obtain ⟨a1, a2, _, a4, a5, a6, a7, _, _, _, a8⟩ := tblFacts h
 have hr : ∀ y ∈ l, rowBad y = false := fun y hy => by
  cases hb : rowBad y with
  | false => rfl
  | true => rw [List.any_eq_true.mpr ⟨y, hy, hb⟩] at a8; cases a8
 refine ⟨a1, a2, a4, a6, by omega, fun y hy => ?_, fun y hy x hx => ?_⟩
 ·have := hr y hy
  unfold rowBad at this
  rw [Bool.or_eq_false_iff] at this
  have := of_decide_eq_false this.1
  omega
 ·have := hr y hy
  unfold rowBad at this
  rw [Bool.or_eq_false_iff, List.any_eq_false] at this
  have h2 := this.2 x hx
  have h3 : cellOkB x = true := by simpa using h2
  unfold cellOkB at h3
  rw [Bool.and_eq_true, Bool.and_eq_true, Bool.and_eq_true, tin_iff, tin_iff] at h3
  omega
theorem endOf_range {hd ft : Int} {rows : List TR} (h : TOk hd ft rows) (r : Nat) (hr : r < rows.length) : (r : Int) < endOf hd ft rows.length r ∧ endOf hd ft rows.length r ≤ rows.length := by
  obtain ⟨_, _, a, b, c, _, _⟩ := h
  unfold endOf
  split
  · omega
  · split <;> omega
theorem highOf_range {hd ft : Int} {rows : List TR} (h : TOk hd ft rows) (r : Nat) (hr : r < rows.length) {x : TCl} (hx : 1 ≤ x.f2 ∧ x.f2 ≤ 4) : 1 ≤ highOf hd ft rows.length r x ∧ highOf hd ft rows.length r x ≤ x.f2 ∧ (r : Int) + highOf hd ft rows.length r x ≤ rows.length := by
  obtain ⟨e1, e2⟩ := endOf_range h r hr
  unfold highOf
  split <;> omega
theorem putRow_len (hd ft n : Int) (r : Nat) : ∀ (xs : List TCl) (i : Nat) (acc : List GC), (putRow hd ft n r i xs acc).length = acc.length + xs.length
  | [], i, acc => by simp [putRow]
  | x :: xs, i, acc => by rw [putRow, putRow_len hd ft n r xs (i + 1)]; simp; omega
theorem l2End_eq (c : List S53) (hd ft g : Int) (rows : List TR) (h : TOk hd ft rows) (r : Int) : spec_l2End.f c hd ft rows g r = some (endOf hd ft rows.length r) := by
  obtain ⟨_, b, a1, a2, a3, _, _⟩ := h
  unfold spec_l2End.f spec_l2Part.f endOf
  rw [w64 (x := (rows.length : Int) - ft) (by omega) (by omega)]
  split
  · rfl
  · split <;> rfl
theorem l1Max_eq (a b : Int) : spec_l1Max.f a b = some (if a > b then a else b) := by unfold spec_l1Max.f; split <;> rfl
theorem specOf {c : List S53} {hd ft g : Int} {rows : List TR} (h : TOk hd ft rows) : Ev (fun k => spec_l3Of.f k c hd ft rows g) ((rows.length : Int), wideOf (if 1 > (c.length : Int) then 1 else (c.length : Int)) (putRows hd ft rows.length 0 rows []), putRows hd ft rows.length 0 rows []) := by
 unfold spec_l3Of.f
 refine evBindC (l1Max_eq 1 (c.length : Int)) ?_
 generalize hm0 : (if 1 > (c.length : Int) then 1 else (c.length : Int)) = m0
 have n1 := h.n1
 have col : ∀ (r i : Nat) (hh w : Int) (acc : List GC) (v : Int × Int × List GC), acc.length ≤ 1000 → 0 ≤ w → w ≤ 4 → (∀ (k : Nat), k ≤ 90 → True) →
   ∀ (d k : Nat), k + d = 90 → Ev (fun K => spec_l3Of.l1 K r (wrap64 ((i : Int) + 1)) c hd ft rows g (rows.length : Int) (wideOf m0 (acc ++ [(⟨r, (seek acc r hh w i d k : Nat), hh, w, i⟩ : GC)])) (acc ++ [(⟨r, (seek acc r hh w i d k : Nat), hh, w, i⟩ : GC)])) v → Ev (fun K => spec_l3Of.l2 K r i c hd ft rows g (rows.length : Int) (wideOf m0 acc) acc r (k : Int) hh w i) v := by
  intro r i hh w acc v hacc hw0 hw1 _ d
  induction d with
  | zero =>
   intro k hk hv
   have e : (k : Int) = 90 := by omega
   have hl : acc.length < 3518437208883 := by omega
   rw [wideOf_snoc] at hv
   simp only [seek] at hv
   refine Ev.step (fun K => by rw [spec_l3Of.l2]) (evElse (by omega) (evIf hl ?_))
   rw [w64 (x := (k : Int) + w) (by omega) (by omega)]
   exact evBindC (l1Max_eq _ _) hv
  | succ d ih =>
   intro k hk hv
   have hlt : (k : Int) < 90 := by omega
   have hl : acc.length < 3518437208883 := by omega
   have hf := l3Free acc (⟨r, (k : Int), hh, w, i⟩ : GC) (by omega)
   unfold seek at hv
   refine Ev.step (fun K => by rw [spec_l3Of.l2]) (evIf hlt (hf.bind ?_))
   by_cases hm : acc.any (meetsB (⟨r, (k : Int), hh, w, i⟩ : GC)) = true
   ·rw [if_pos hm] at hv
    refine evElse (by rw [hm]; simp) ?_
    rw [show wrap64 ((k : Int) + 1) = ((k + 1 : Nat) : Int) from by rw [w64 (by omega) (by omega)]; omega]
    exact ih (k + 1) (by omega) hv
   ·rw [if_neg hm] at hv
    have hm' : acc.any (meetsB (⟨r, (k : Int), hh, w, i⟩ : GC)) = false := by simpa using hm
    rw [wideOf_snoc] at hv
    refine evIf (by rw [hm']; rfl) (evIf hl ?_)
    rw [show wrap64 ((k : Int) + w) = (k : Int) + w from w64 (by omega) (by omega)]
    exact evBindC (l1Max_eq _ _) hv
 have row : ∀ (r : Nat) (hr : r < rows.length) (v : Int × Int × List GC) (d i : Nat) (acc : List GC), i + d = rows[r].f0.length → acc.length ≤ 5 * r + i →
   Ev (fun K => spec_l3Of.l0 K (wrap64 ((r : Int) + 1)) c hd ft rows g (rows.length : Int) (wideOf m0 (putRow hd ft rows.length r i (rows[r].f0.drop i) acc)) (putRow hd ft rows.length r i (rows[r].f0.drop i) acc)) v →
   Ev (fun K => spec_l3Of.l1 K r i c hd ft rows g (rows.length : Int) (wideOf m0 acc) acc) v := by
  intro r hr v d
  have hmem := List.getElem_mem hr
  have h5 := h.rl _ hmem
  induction d with
  | zero =>
   intro i acc hi hacc hv
   rw [show i = rows[r].f0.length by omega, List.drop_length] at hv
   have e1 : (r : Int) < (rows.length : Int) := by omega
   refine Ev.step (fun K => by rw [spec_l3Of.l1]) (evIf (by omega) (evIf e1 ?_))
   rw [rdR rows r hr]
   exact evElse (by omega) hv
  | succ d ih =>
   intro i acc hi hacc hv
   have hlt : i < rows[r].f0.length := by omega
   rw [dropCons _ i hlt, putRow] at hv
   have hx := h.cl _ hmem _ (List.getElem_mem hlt)
   obtain ⟨er1, er2⟩ := endOf_range h r hr
   have e1 : (r : Int) < (rows.length : Int) := by omega
   have e2 : (i : Int) < (rows[r].f0.length : Int) := by omega
   have tail := ih (i + 1) _ (by omega) (by simp; omega) hv
   refine Ev.step (fun K => by rw [spec_l3Of.l1]) (evIf (by omega) (evIf e1 ?_))
   rw [rdR rows r hr]
   refine evIf e2 (evIf (by omega) (evBindC (l2End_eq c hd ft g rows h r) ?_))
   rw [rdC _ i hlt, w64 (x := (r : Int) + rows[r].f0[i].f2) (by omega) (by omega)]
   by_cases hb : (r : Int) + rows[r].f0[i].f2 > endOf hd ft rows.length r
   ·refine evIf hb (evBindC (l2End_eq c hd ft g rows h r) (Ev.step (fun K => by rw [spec_l3Of.j2]) ?_))
    have eh : highOf hd ft rows.length r rows[r].f0[i] = endOf hd ft rows.length r - r := by unfold highOf; rw [if_pos hb]
    rw [w64 (x := endOf hd ft rows.length r - (r : Int)) (by omega) (by omega), ← eh]
    refine col r i _ _ acc v (by omega) (by omega) (by omega) (fun _ _ => trivial) 90 0 (by omega) ?_
    rw [wnext (n := rows[r].f0.length) hlt (by omega)]
    exact tail
   ·refine evElse hb (Ev.step (fun K => by rw [spec_l3Of.j2]) ?_)
    have eh : highOf hd ft rows.length r rows[r].f0[i] = rows[r].f0[i].f2 := by unfold highOf; rw [if_neg hb]
    have := col r i (highOf hd ft rows.length r rows[r].f0[i]) rows[r].f0[i].f1 acc v (by omega) (by omega) (by omega) (fun _ _ => trivial) 90 0 (by omega) (by rw [wnext (n := rows[r].f0.length) hlt (by omega)]; exact tail)
    rw [eh] at this
    exact this
 have all : ∀ (d r : Nat) (acc : List GC), r + d = rows.length → acc.length ≤ 5 * r → Ev (fun K => spec_l3Of.l0 K r c hd ft rows g (rows.length : Int) (wideOf m0 acc) acc) ((rows.length : Int), wideOf m0 (putRows hd ft rows.length r (rows.drop r) acc), putRows hd ft rows.length r (rows.drop r) acc) := by
  intro d
  induction d with
  | zero =>
   intro r acc hr hacc
   rw [show r = rows.length by omega, List.drop_length, putRows]
   refine Ev.step (fun K => by rw [spec_l3Of.l0]) ?_
   exact evElse (by omega) (evNow rfl)
  | succ d ih =>
   intro r acc hr hacc
   have hlt : r < rows.length := by omega
   have h5 := h.rl _ (List.getElem_mem hlt)
   have e1 : (r : Int) < (rows.length : Int) := by omega
   have hlen := putRow_len hd ft rows.length r rows[r].f0 0 acc
   have tail := ih (r + 1) (putRow hd ft rows.length r 0 rows[r].f0 acc) (by omega) (by omega)
   refine Ev.step (fun K => by rw [spec_l3Of.l0]) (evIf e1 ?_)
   have := row r hlt ((rows.length : Int), wideOf m0 (putRows hd ft rows.length r (rows.drop r) acc), putRows hd ft rows.length r (rows.drop r) acc) rows[r].f0.length 0 acc (by omega) (by omega) (by
    rw [wnext (n := rows.length) hlt (by omega), List.drop_zero, dropCons rows r hlt, putRows]
    exact tail)
   exact this
 have := all rows.length 0 [] (by omega) (by simp)
 rw [List.drop_zero] at this
 exact this
theorem putRows_len (hd ft n : Int) (m : Nat) : ∀ (ys : List TR) (r : Nat) (acc : List GC), (∀ y ∈ ys, y.f0.length ≤ m) → (putRows hd ft n r ys acc).length ≤ acc.length + m * ys.length
 | [], r, acc, h => by simp [putRows]
 | y :: ys, r, acc, h => by
  rw [putRows]
  have := putRows_len hd ft n m ys (r + 1) (putRow hd ft n r 0 y.f0 acc) (fun z hz => h z (by simp [hz]))
  rw [putRow_len] at this
  have := h y (by simp)
  rw [List.length_cons, Nat.mul_add]
  omega
structure TFit (rows : List TR) : Prop where
  h3 : ∀ y ∈ rows, ∀ x ∈ y.f0, x.f2 ≤ 3
  ln : ∃ m : Nat, ∀ (i : Nat) x, rows[i]? = some x → x.f0.length ≤ (if i = m then 5 else 4)
def lnOf (rows : List TR) (j : Nat) : Nat := ((rows[j]?).map fun x => x.f0.length).getD 0
structure In1 (rows : List TR) (r i : Nat) (acc : List GC) : Prop where
  sm : ∀ d ∈ acc, Sm d ∧ d.f2 ≤ 3 ∧ d.f0 ≤ r
  ct : ∀ j : Nat, j < r → acc.countP (fun d => decide (d.f0 = (j : Int))) ≤ lnOf rows j
  cr : acc.countP (fun d => decide (d.f0 = (r : Int))) ≤ i
theorem In1.cell {rows : List TR} {r i : Nat} {acc : List GC} (h : In1 rows r i acc) {c : GC} (hc : Sm c) (h3 : c.f2 ≤ 3) (h0 : c.f0 = r) : In1 rows r (i + 1) (acc ++ [c]) := by
 refine ⟨fun d hd => ?_, fun j hj => ?_, ?_⟩
 ·rcases List.mem_append.mp hd with hd | hd
  ·exact h.sm d hd
  ·simp only [List.mem_singleton] at hd; subst hd; exact ⟨hc, h3, by omega⟩
 ·rw [List.countP_append, List.countP_singleton]
  have := h.ct j hj
  have e : ¬ c.f0 = (j : Int) := by omega
  simp [e]; simpa using this
 ·rw [List.countP_append, List.countP_singleton]
  have := h.cr
  split <;> omega
theorem In1.row {rows : List TR} {r i : Nat} {acc : List GC} (h : In1 rows r i acc) (hi : i ≤ lnOf rows r) : In1 rows (r + 1) 0 acc := by
 refine ⟨fun d hd => ?_, fun j hj => ?_, ?_⟩
 ·obtain ⟨a, b, e⟩ := h.sm d hd
  exact ⟨a, b, by omega⟩
 ·by_cases e : j = r
  ·rw [e]; exact Nat.le_trans h.cr hi
  ·exact h.ct j (by omega)
 ·rw [Nat.le_zero, List.countP_eq_zero]
  intro d hd
  have := (h.sm d hd).2.2
  simp; omega
theorem In1.fits {rows : List TR} {r i : Nat} {acc : List GC} (h : In1 rows r i acc) (hf : TFit rows) (hi : i < lnOf rows r) (hr : r ≤ 8) {hh w n : Int} (h0 : 1 ≤ hh) (h1 : hh ≤ 4) (w0 : 1 ≤ w) (w1 : w ≤ 4) :
  seek acc r hh w n 90 0 ≤ 84 ∧ acc.any (meetsB ⟨r, (seek acc r hh w n 90 0 : Nat), hh, w, n⟩) = false := by
 obtain ⟨m, hm⟩ := hf.ln
 have hl : ∀ j, lnOf rows j ≤ (if j = m then 5 else 4) := fun j => by
  unfold lnOf
  cases e : rows[j]? with
  | none => simp
  | some x => have := hm j x e; simpa using this
 have back : ∀ q : Nat, 1 ≤ q → acc.countP (fun d => decide (d.f0 = (r : Int) - q)) ≤ (if q ≤ r then lnOf rows (r - q) else 0) := fun q hq => by
  by_cases e : q ≤ r
  ·rw [if_pos e]
   have := h.ct (r - q) (by omega)
   rw [show ((r - q : Nat) : Int) = (r : Int) - q by omega] at this
   exact this
  ·rw [if_neg e, Nat.le_zero, List.countP_eq_zero]
   intro d hd
   have := (h.sm d hd).1.r0
   simp; omega
 refine seek_fits (fun d hd => (h.sm d hd).1) (by omega) (by omega) h0 h1 w0 w1 ?_
 have a1 : acc.countP (fun d => decide ((r : Int) < d.f0 + d.f2)) ≤ acc.countP (fun d => decide (d.f0 = (r : Int)) || (decide (d.f0 = (r : Int) - (1 : Nat)) || decide (d.f0 = (r : Int) - (2 : Nat)))) := by
  refine countImp fun d hd hq => ?_
  obtain ⟨s1, s2, s3⟩ := h.sm d hd
  have s4 := s1.r0
  have := of_decide_eq_true hq
  simp only [Bool.or_eq_true, decide_eq_true_eq]
  omega
 have a2 := countOr (fun d : GC => decide (d.f0 = (r : Int))) (fun d : GC => decide (d.f0 = (r : Int) - (1 : Nat)) || decide (d.f0 = (r : Int) - (2 : Nat))) acc
 have a3 := countOr (fun d : GC => decide (d.f0 = (r : Int) - (1 : Nat))) (fun d : GC => decide (d.f0 = (r : Int) - (2 : Nat))) acc
 have a4 := back 1 (by omega)
 have a5 := back 2 (by omega)
 have a6 := h.cr
 have l0 := hl r
 have l1 := hl (r - 1)
 have l2 := hl (r - 2)
 by_cases e1 : 1 ≤ r
 ·rw [if_pos e1] at a4
  by_cases e2 : 2 ≤ r
  ·rw [if_pos e2] at a5
   split at l0 <;> split at l1 <;> split at l2 <;> omega
  ·rw [if_neg e2] at a5
   split at l0 <;> split at l1 <;> omega
 ·rw [if_neg e1] at a4
  rw [if_neg (by omega)] at a5
  split at l0 <;> omega
theorem mx_wide (a b : Int) : mx a b = if a > b then a else b := by unfold mx; split <;> split <;> omega
theorem partOf {c : List S53} {hd ft g : Int} {rows : List TR} (h : TOk hd ft rows) (r : Nat) (hr : r < rows.length) : ∃ t, impl_TblTable_part.f c hd ft rows g r = some t ∧ 0 ≤ t ∧ t < 3 ∧ rd ([hd, wrap64 ((rows.length : Int) - ft), (rows.length : Int)] : List Int) t = endOf hd ft rows.length r := by
 obtain ⟨_, n1, a, b, e, _, _⟩ := h
 unfold impl_TblTable_part.f endOf
 rw [w64 (x := (rows.length : Int) - ft) (by omega) (by omega)]
 by_cases c1 : (r : Int) < hd
 ·exact ⟨0, by rw [if_pos c1], by omega, by omega, by rw [if_pos c1]; rfl⟩
 ·by_cases c2 : (r : Int) ≥ (rows.length : Int) - ft
  ·exact ⟨2, by rw [if_neg c1, if_pos c2], by omega, by omega, by rw [if_neg c1, if_pos c2]; rfl⟩
  ·exact ⟨1, by rw [if_neg c1, if_neg c2], by omega, by omega, by rw [if_neg c1, if_neg c2]; rfl⟩
theorem implOf {c : List S53} {hd ft g : Int} {rows : List TR} (h : TOk hd ft rows) (hf : TFit rows) (hok : Ev (fun k => impl_TblOk.f k c hd ft rows g) true) : Ev (fun k => impl_GrdOf.f k c hd ft rows g) ((rows.length : Int), wideOf (if 1 > (c.length : Int) then 1 else (c.length : Int)) (putRows hd ft rows.length 0 rows []), putRows hd ft rows.length 0 rows []) := by
 unfold impl_GrdOf.f
 refine hok.bind (evIf rfl ?_)
 rw [show mx (c.length : Int) 1 = (if 1 > (c.length : Int) then 1 else (c.length : Int)) from rfl]
 generalize hm0 : (if 1 > (c.length : Int) then 1 else (c.length : Int)) = m0
 generalize he2 : wrap64 ((rows.length : Int) - ft) = E2
 have n1 := h.n1
 have col : ∀ (r i : Nat) (ls : List TCl) (hh w : Int) (acc : List GC) (v : Int × Int × List GC), acc.length ≤ 1000 → 0 ≤ w → w ≤ 4 →
   ∀ (d k : Nat), k + d = 90 → seek acc r hh w i d k < 90 → Ev (fun K => impl_GrdOf.l1 K r rows (rows.length : Int) r ls (ls.length : Int) (wrap64 ((i : Int) + 1)) c hd ft rows g (rows.length : Int) (wideOf m0 (acc ++ [(⟨r, (seek acc r hh w i d k : Nat), hh, w, i⟩ : GC)])) (acc ++ [(⟨r, (seek acc r hh w i d k : Nat), hh, w, i⟩ : GC)]) hd E2 (rows.length : Int)) v →
   Ev (fun K => impl_GrdOf.l2 K r rows (rows.length : Int) r ls (ls.length : Int) i c hd ft rows g (rows.length : Int) (wideOf m0 acc) acc hd E2 (rows.length : Int) r (k : Int) hh w i) v := by
  intro r i ls hh w acc v hacc hw0 hw1 d
  induction d with
  | zero => intro k hk hs; simp only [seek] at hs; omega
  | succ d ih =>
   intro k hk hs hv
   have hl : acc.length < 3518437208883 := by omega
   unfold seek at hv hs
   refine Ev.step (fun K => by rw [impl_GrdOf.l2]) ?_
   refine evBindC (a := acc.any (meetsB (⟨r, (k : Int), hh, w, i⟩ : GC))) rfl ?_
   by_cases hm : acc.any (meetsB (⟨r, (k : Int), hh, w, i⟩ : GC)) = true
   ·rw [if_pos hm] at hv hs
    refine evIf hm ?_
    rw [show wrap64 ((k : Int) + 1) = ((k + 1 : Nat) : Int) from by rw [w64 (by omega) (by omega)]; omega]
    exact ih (k + 1) (by omega) hs hv
   ·rw [if_neg hm] at hv hs
    rw [wideOf_snoc] at hv
    refine evElse hm (evIf hl ?_)
    rw [show wrap64 ((k : Int) + w) = (k : Int) + w from w64 (by omega) (by omega), mx_wide]
    exact hv
 have row : ∀ (r : Nat) (hr : r < rows.length) (v : Int × Int × List GC) (d i : Nat) (acc : List GC), i + d = rows[r].f0.length → acc.length ≤ 5 * r + i → In1 rows r i acc →
   (∀ acc', In1 rows r rows[r].f0.length acc' → acc' = putRow hd ft rows.length r i (rows[r].f0.drop i) acc → Ev (fun K => impl_GrdOf.l0 K rows (rows.length : Int) (wrap64 ((r : Int) + 1)) c hd ft rows g (rows.length : Int) (wideOf m0 acc') acc' hd E2 (rows.length : Int)) v) →
   Ev (fun K => impl_GrdOf.l1 K r rows (rows.length : Int) r rows[r].f0 (rows[r].f0.length : Int) i c hd ft rows g (rows.length : Int) (wideOf m0 acc) acc hd E2 (rows.length : Int)) v := by
  intro r hr v d
  have hmem := List.getElem_mem hr
  have h5 := h.rl _ hmem
  have hln : lnOf rows r = rows[r].f0.length := by unfold lnOf; simp [hr]
  have hn8 := h.n1
  have hn9 : r ≤ 8 := by have := h; obtain ⟨_, q, _⟩ := this; omega
  induction d with
  | zero =>
   intro i acc hi hacc hin hv
   obtain rfl : i = rows[r].f0.length := by omega
   refine Ev.step (fun K => by rw [impl_GrdOf.l1]) (evElse (by omega) ?_)
   exact hv acc hin (by rw [List.drop_length, putRow])
  | succ d ih =>
   intro i acc hi hacc hin hv
   have hlt : i < rows[r].f0.length := by omega
   rw [dropCons _ i hlt] at hv
   have hx := h.cl _ hmem _ (List.getElem_mem hlt)
   have hx3 := hf.h3 _ hmem _ (List.getElem_mem hlt)
   have e2 : (i : Int) < (rows[r].f0.length : Int) := by omega
   obtain ⟨t, p1, p2, p3, p4⟩ := partOf (c := c) (g := g) h r hr
   rw [he2] at p4
   obtain ⟨er1, er2⟩ := endOf_range h r hr
   obtain ⟨g1, g2, g3⟩ := highOf_range h r hr (x := rows[r].f0[i]) ⟨hx.2.2.1, hx.2.2.2⟩
   have fit := hin.fits hf (by rw [hln]; exact hlt) hn9 (n := i) (hh := highOf hd ft rows.length r rows[r].f0[i]) (w := rows[r].f0[i].f1) g1 (by omega) hx.1 hx.2.1
   have eh : mn rows[r].f0[i].f2 (wrap64 (endOf hd ft rows.length r - (r : Int))) = highOf hd ft rows.length r rows[r].f0[i] := by
    rw [w64 (by omega) (by omega)]
    unfold mn highOf
    split <;> split <;> omega
   refine Ev.step (fun K => by rw [impl_GrdOf.l1]) (evIf e2 (evIf (by omega) (evIf e2 (evBindC p1 (evIf p2 (evIf p3 ?_))))))
   rw [rdC _ i hlt, p4, eh]
   refine col r i rows[r].f0 _ _ acc v (by omega) (by omega) (by omega) 90 0 (by omega) (by omega) ?_
   rw [wnext (n := rows[r].f0.length) hlt (by omega)]
   refine ih (i + 1) _ (by omega) (by simp; omega) (hin.cell ⟨by show (0:Int) ≤ r; omega, by show (r:Int) ≤ 1000; omega, by show (0:Int) ≤ (seek _ _ _ _ _ _ _ : Nat); omega, by show ((seek acc r (highOf hd ft rows.length r rows[r].f0[i]) rows[r].f0[i].f1 i 90 0 : Nat) : Int) ≤ 1000; omega, g1, by show highOf _ _ _ _ _ ≤ 4; omega, hx.1, hx.2.1⟩ (by show highOf _ _ _ _ _ ≤ 3; omega) rfl) ?_
   intro acc' ha he
   exact hv acc' ha (by rw [he]; rfl)
 have all : ∀ (d r : Nat) (acc : List GC), r + d = rows.length → acc.length ≤ 5 * r → In1 rows r 0 acc → Ev (fun K => impl_GrdOf.l0 K rows (rows.length : Int) r c hd ft rows g (rows.length : Int) (wideOf m0 acc) acc hd E2 (rows.length : Int)) ((rows.length : Int), wideOf m0 (putRows hd ft rows.length r (rows.drop r) acc), putRows hd ft rows.length r (rows.drop r) acc) := by
  intro d
  induction d with
  | zero =>
   intro r acc hr hacc hin
   rw [show r = rows.length by omega, List.drop_length, putRows]
   refine Ev.step (fun K => by rw [impl_GrdOf.l0]) ?_
   exact evElse (by omega) (evNow rfl)
  | succ d ih =>
   intro r acc hr hacc hin
   have hlt : r < rows.length := by omega
   have h5 := h.rl _ (List.getElem_mem hlt)
   have e1 : (r : Int) < (rows.length : Int) := by omega
   have hln : lnOf rows r = rows[r].f0.length := by unfold lnOf; simp [hlt]
   refine Ev.step (fun K => by rw [impl_GrdOf.l0]) (evIf e1 (evIf (by omega) (evIf e1 ?_)))
   rw [rdR rows r hlt]
   refine row r hlt _ rows[r].f0.length 0 acc (by omega) (by omega) hin ?_
   intro acc' ha he
   rw [List.drop_zero] at he
   rw [wnext (n := rows.length) hlt (by omega), dropCons rows r hlt, putRows, ← he]
   have hlen := putRow_len hd ft rows.length r rows[r].f0 0 acc
   exact ih (r + 1) acc' (by omega) (by rw [he]; omega) (ha.row (by omega))
 have := all rows.length 0 [] (by omega) (by simp) ⟨fun d hd => (by cases hd), fun j hj => absurd hj (Nat.not_lt_zero _), by simp⟩
 rw [List.drop_zero] at this
 exact this
theorem drawOf (l : List Int) (h : ∀ x ∈ l, (Lit.int .u8 x).wf = true) : Run (fun k => spec_DrawGrdOf.f k l) (fun r => TblD 1 0 2700 (r.1, r.2.1, r.2.2.1, r.2.2.2.1, r.2.2.2.2, 0)) := by
  unfold spec_DrawGrdOf.f
  obtain ⟨b, e, hb⟩ := open_eq l h
  have hL : (3100 : Int) < LIMP := by unfold LIMP; omega
  refine Run.constBind e (Run.bind (any_run hb (p := 0) (n := 12) (by omega) (by omega)) fun r hr => Run.ret ?_)
  exact { cl := hr.cl, co := hr.co, hd := hr.hd, ft := hr.ft, r1 := hr.r1, r2 := hr.r2, rc := hr.rc, rl := hr.rl, g := hr.g, p0 := (by show (0:Int) ≤ 0; omega), p1 := (by show (0:Int) ≤ 2700; omega) }
def cellIn (R C : Int) (bf : List S37) (c : S37) : Bool := inB 0 (wrap64 (R - 1)) c.f0 && (inB 0 (wrap64 (C - 1)) c.f1 && (inB 1 (wrap64 (R - c.f0)) c.f2 && (inB 1 (wrap64 (C - c.f1)) c.f3 && (inB 0 4 c.f4 && !(bf.any (meetsB c))))))
def cellsIn (R C : Int) (l : List S37) (i : Nat) : Bool := cellIn R C (l.take i) (rd_T37 l (i : Int))
def grdOkB (R C : Int) (l : List S37) : Bool := inB 1 8 R && (inB 1 94 C && (decide (l.length ≤ 40) && (List.range' 0 l.length).all (cellsIn R C l)))
theorem implGrdOk (R C : Int) (l : List S37) (h : l.length ≤ 9223372036854775807) : Ev (fun k => impl_GrdOk.f k R C l) (grdOkB R C l) := by
 have jt : Ev (fun k => impl_GrdOk.j0 k true R C l) false := Ev.step (fun k => by rw [impl_GrdOk.j0]) (evIf rfl (evNow rfl))
 have j2t : ∀ i x c0 c1 c2 c3 c4, Ev (fun k => impl_GrdOk.j2 k i l (l.length : Int) x true R C l c0 c1 c2 c3 c4) false := fun i x c0 c1 c2 c3 c4 => Ev.step (fun k => by rw [impl_GrdOk.j2]) (evIf rfl (evNow rfl))
 have loop : ∀ (d i : Nat), i + d = l.length → Ev (fun k => impl_GrdOk.l0 k l (l.length : Int) i R C l) ((List.range' i d).all (cellsIn R C l)) := by
  intro d
  induction d with
  | zero =>
   intro i hi
   obtain rfl : i = l.length := by omega
   refine Ev.step (fun k => by rw [impl_GrdOk.l0]) ?_
   exact evElse (by omega) (evNow rfl)
  | succ d ih =>
   intro i hi
   have ih' := ih (i + 1) (by omega)
   rw [List.range'_succ, List.all_cons]
   refine Ev.step (fun k => by rw [impl_GrdOk.l0]) (evIf (by omega) (evIf (by omega) (evIf (by omega) ?_)))
   unfold cellsIn at *
   have ew := wnext (n := l.length) (i := i) (by omega) h
   generalize hc : rd_T37 l (i : Int) = c at *
   refine evBindC (inI c.f0 0 (wrap64 (R - 1))) ?_
   unfold cellIn
   cases h1 : inB 0 (wrap64 (R - 1)) c.f0 with
   | false => exact evElse (by simp) (j2t _ _ _ _ _ _ _)
   | true =>
   refine evIf rfl (evBindC (inI c.f2 1 (wrap64 (R - c.f0))) ?_)
   cases h2 : inB 1 (wrap64 (R - c.f0)) c.f2 with
   | false => cases inB 0 (wrap64 (C - 1)) c.f1 <;> exact evElse (by simp) (j2t _ _ _ _ _ _ _)
   | true =>
   refine evIf rfl (evBindC (inI c.f1 0 (wrap64 (C - 1))) ?_)
   cases h3 : inB 0 (wrap64 (C - 1)) c.f1 with
   | false => exact evElse (by simp) (j2t _ _ _ _ _ _ _)
   | true =>
   refine evIf rfl (evBindC (inI c.f3 1 (wrap64 (C - c.f1))) ?_)
   cases h4 : inB 1 (wrap64 (C - c.f1)) c.f3 with
   | false => exact j2t _ _ _ _ _ _ _
   | true =>
   refine Ev.step (fun k => by rw [impl_GrdOk.j2]) (evElse (by simp) (evBindC (inI c.f4 0 4) ?_))
   cases h5 : inB 0 4 c.f4 with
   | false => exact evElse (by simp) (evNow rfl)
   | true =>
   refine evIf rfl (evIf (by omega) (evIf (by omega) ?_))
   rw [Int.toNat_natCast]
   refine evBindC (show impl_GrdCell_39.f (l.take i) c.f0 c.f1 c.f2 c.f3 c.f4 = some ((l.take i).any (meetsB c)) from rfl) ?_
   cases h6 : (l.take i).any (meetsB c) with
   | true => exact evIf rfl (evNow rfl)
   | false =>
    refine evElse (by simp) ?_
    rw [ew]
    exact ih'
 unfold impl_GrdOk.f grdOkB
 refine evBindC (inI R 1 8) ?_
 cases inB 1 8 R with
 | false => exact evElse (by simp) jt
 | true =>
 refine evIf rfl (evBindC (inI C 1 94) ?_)
 cases inB 1 94 C with
 | false => exact evElse (by simp) jt
 | true =>
 refine evIf rfl ?_
 by_cases h40 : l.length ≤ 40
 ·have e1 : decide ((l.length : Int) > 40) = false := decide_eq_false (by omega)
  rw [e1, decide_eq_true h40]
  refine Ev.step (fun k => by rw [impl_GrdOk.j0]) ?_
  exact evElse (by simp) (loop l.length 0 (by omega))
 ·have e1 : decide ((l.length : Int) > 40) = true := decide_eq_true (by omega)
  rw [e1, decide_eq_false h40]
  exact jt
theorem grdOk_rows {R C : Int} {l : List S37} (h : grdOkB R C l = true) : 1 ≤ R ∧ R ≤ 8 := by
  unfold grdOkB at h
  rw [Bool.and_eq_true] at h
  exact inB_iff.mp h.1
theorem implBlocks (R C : Int) (l : List S37) (h : l.length ≤ 9223372036854775807) : Ev (fun k => impl_GrdBlocks.f k R C l) (if grdOkB R C l = true then blocksL l R.toNat else []) := by
  unfold impl_GrdBlocks.f
  refine (implGrdOk R C l h).bind ?_
  cases hg : grdOkB R C l with
  | false => exact evElse (by simp) (evNow rfl)
  | true => have := grdOk_rows hg; exact evIf rfl (evIf (by omega) (evNow rfl))
def plC (x : TCl) : TCl := ⟨x.f0, 1, 1, ⟨x.f3.f0, x.f3.f1⟩, ⟨x.f4.f0, x.f4.f1⟩, ⟨x.f5.f0, x.f5.f1⟩, ⟨x.f6.f0, x.f6.f1⟩⟩
def plR (y : TR) : TR := ⟨y.f0.map plC, y.f1⟩
theorem plainOf (c : List S53) (hd ft : Int) (rows : List TR) (g : Int) (hl : rows.length ≤ 1000) (hr : ∀ y ∈ rows, y.f0.length ≤ 1000) : Ev (fun k => laws_pwPlain.f k c hd ft rows g) (([] : List S53), hd, ft, rows.map plR, g) := by
 unfold laws_pwPlain.f
 have cell : ∀ (r : Nat) (hlt : r < rows.length) (out : List TR) (v : List S53 × Int × Int × List TR × Int), out.length ≤ 1000 → ∀ (d j : Nat) (acc : List TCl), j + d = rows[r].f0.length → acc.length ≤ j →
   Ev (fun k => laws_pwPlain.l0 k (wrap64 ((r : Int) + 1)) c hd ft rows g [] hd ft (out ++ [(⟨acc ++ (rows[r].f0.drop j).map plC, rows[r].f1⟩ : TR)]) g) v → Ev (fun k => laws_pwPlain.l1 k r j c hd ft rows g [] hd ft out g acc rows[r].f1) v := by
  intro r hlt out v ho d
  have h1 := hr _ (List.getElem_mem hlt)
  induction d with
  | zero =>
   intro j acc hj ha hv
   obtain rfl : j = rows[r].f0.length := by omega
   rw [List.drop_length, List.map_nil, List.append_nil] at hv
   refine Ev.step (fun k => by rw [laws_pwPlain.l1]) (evIf (by omega) (evIf (by omega) ?_))
   rw [rdR rows r hlt]
   exact evElse (by omega) (evIf (by omega) hv)
  | succ d ih =>
   intro j acc hj ha hv
   have hjl : j < rows[r].f0.length := by omega
   rw [dropCons _ j hjl, List.map_cons] at hv
   refine Ev.step (fun k => by rw [laws_pwPlain.l1]) (evIf (by omega) (evIf (by omega) ?_))
   rw [rdR rows r hlt]
   refine evIf (by omega) (evIf (by omega) (evIf (by omega) ?_))
   rw [rdC _ j hjl, wnext (n := rows[r].f0.length) hjl (by omega)]
   refine ih (j + 1) (acc ++ [plC rows[r].f0[j]]) (by omega) (by simp; omega) ?_
   rw [List.append_assoc]
   exact hv
 have row : ∀ (d r : Nat) (out : List TR), r + d = rows.length → out.length ≤ r → Ev (fun k => laws_pwPlain.l0 k r c hd ft rows g [] hd ft out g) (([] : List S53), hd, ft, out ++ (rows.drop r).map plR, g) := by
  intro d
  induction d with
  | zero =>
   intro r out h1 h2
   obtain rfl : r = rows.length := by omega
   rw [List.drop_length, List.map_nil, List.append_nil]
   exact Ev.step (fun k => by rw [laws_pwPlain.l0]) (evElse (by omega) (evNow rfl))
  | succ d ih =>
   intro r out h1 h2
   have hlt : r < rows.length := by omega
   refine Ev.step (fun k => by rw [laws_pwPlain.l0]) (evIf (by omega) (evIf (by omega) ?_))
   rw [rdR rows r hlt]
   refine cell r hlt out _ (by omega) rows[r].f0.length 0 [] (by omega) (by simp) ?_
   rw [wnext (n := rows.length) hlt (by omega), dropCons rows r hlt, List.map_cons, List.drop_zero, List.nil_append]
   have := ih (r + 1) (out ++ [plR rows[r]]) (by omega) (by simp; omega)
   rw [List.append_assoc] at this
   exact this
 have := row rows.length 0 [] (by omega) (by simp)
 rw [List.drop_zero, List.nil_append] at this
 exact this
theorem plCellOk {x : TCl} (h : cellOkB x = true) : cellOkB (plC x) = true := by
  unfold cellOkB at h ⊢
  simp only [Bool.and_eq_true] at h ⊢
  exact ⟨h.1, by show tin 1 4 1 = true; decide, by show tin 1 4 1 = true; decide, h.2.2.2.1, h.2.2.2.2.1, h.2.2.2.2.2.1, h.2.2.2.2.2.2⟩
theorem plTblOk {c : List S53} {hd ft g : Int} {l : List TR} (h : tblOkB c hd ft l g = true) : tblOkB [] hd ft (l.map plR) g = true := by
 obtain ⟨a1, a2, _, a4, a5, a6, a7, a8, a9, _, a11⟩ := tblFacts h
 have hb : (l.map plR).any rowBad = false := by
  rw [List.any_eq_false]
  intro y hy
  obtain ⟨z, hz, rfl⟩ := List.mem_map.mp hy
  have hz := List.any_eq_false.mp a11 z hz
  unfold rowBad at hz ⊢
  simp only [Bool.or_eq_true, decide_eq_true_eq, List.any_eq_true, not_or, not_exists, not_and] at hz ⊢
  refine ⟨by simpa [plR] using hz.1, fun x hx => ?_⟩
  obtain ⟨w, hw, rfl⟩ := List.mem_map.mp hx
  have hc := hz.2 w hw
  have : cellOkB w = true := by simpa using hc
  rw [plCellOk this]
  simp
 unfold tblOkB
 rw [List.length_map, if_pos (tin_iff.mpr ⟨by omega, by omega⟩), if_neg (by simp), if_pos (tin_iff.mpr ⟨by omega, by omega⟩), if_pos (tin_iff.mpr ⟨by omega, by omega⟩), if_pos (tin_iff.mpr ⟨by omega, by rw [w64 (by omega) (by omega)]; omega⟩), hb]
 rfl
structure PlC (d : GC) : Prop where
  e : d.f1 = d.f4
  h : d.f2 = 1
  w : d.f3 = 1
  n0 : 0 ≤ d.f4
  n1 : d.f4 ≤ 4
  r0 : 0 ≤ d.f0
structure Pl (r i : Nat) (acc : List GC) : Prop where
  al : ∀ d ∈ acc, PlC d
  lo : ∀ d ∈ acc, d.f0 < r ∨ (d.f0 = r ∧ d.f4 < i)
  ex : ∀ j : Nat, j < i → ∃ d ∈ acc, d.f0 = r ∧ d.f4 = j
  nm : ∀ (q : Nat) (c : GC), acc[q]? = some c → (acc.take q).any (meetsB c) = false
theorem Pl.sm {r i : Nat} {acc : List GC} (h : Pl r i acc) (hr : r ≤ 8) : ∀ d ∈ acc, Sm d := fun d hd => by
  obtain ⟨a1, a2, a3, a4, a5, a6⟩ := h.al d hd
  have := h.lo d hd
  exact ⟨by omega, by omega, by omega, by omega, by omega, by omega, by omega, by omega⟩
theorem Pl.meet {r i : Nat} {acc : List GC} (h : Pl r i acc) (hr : r ≤ 8) (k : Nat) (hk : k ≤ 100) (n : Int) {d : GC} (hd : d ∈ acc) : meetsB ⟨r, (k : Int), 1, 1, n⟩ d = true ↔ d.f0 = r ∧ d.f4 = k := by
  have hc : Sm (⟨r, (k : Int), 1, 1, n⟩ : GC) := ⟨by show (0 : Int) ≤ r; omega, by show (r : Int) ≤ 1000; omega, by show (0 : Int) ≤ k; omega, by show (k : Int) ≤ 1000; omega, by show (1 : Int) ≤ 1; omega, by show (1 : Int) ≤ 4; omega, by show (1 : Int) ≤ 1; omega, by show (1 : Int) ≤ 4; omega⟩
  rw [meets_small hc (h.sm hr d hd)]
  obtain ⟨a1, a2, a3, a4, a5, a6⟩ := h.al d hd
  show ((r : Int) < d.f0 + d.f2 ∧ d.f0 < (r : Int) + 1 ∧ (k : Int) < d.f1 + d.f3 ∧ d.f1 < (k : Int) + 1) ↔ _
  omega
theorem Pl.free {r i : Nat} {acc : List GC} (h : Pl r i acc) (hr : r ≤ 8) (hi : i ≤ 4) (n : Int) : acc.any (meetsB ⟨r, (i : Int), 1, 1, n⟩) = false := by
  rw [List.any_eq_false]
  intro d hd
  rw [h.meet hr i (by omega) n hd]
  have := h.lo d hd
  omega
theorem Pl.seek {r i : Nat} {acc : List GC} (h : Pl r i acc) (hr : r ≤ 8) (hi : i ≤ 4) : seek acc r 1 1 i 90 0 = i := by
 have sr := seek_range acc r 1 1 i 90 0
 by_cases h1 : i < Pure.seek acc r 1 1 i 90 0
 ·have := seek_blocked acc r 1 1 i 90 0 i (Nat.zero_le _) h1
  rw [h.free hr hi] at this
  cases this
 ·by_cases h2 : Pure.seek acc r 1 1 i 90 0 < i
  ·have f := seek_free acc r 1 1 i 90 0 (by omega)
   obtain ⟨d, hd, e1, e2⟩ := h.ex _ h2
   have := List.any_eq_false.mp f d hd
   rw [h.meet hr _ (by omega) i hd] at this
   exact absurd ⟨e1, e2⟩ this
  ·omega
theorem Pl.cell {r i : Nat} {acc : List GC} (h : Pl r i acc) (hr : r ≤ 8) (hi : i ≤ 4) : Pl r (i + 1) (acc ++ [(⟨r, (i : Int), 1, 1, i⟩ : GC)]) := by
 refine ⟨fun d hd => ?_, fun d hd => ?_, fun j hj => ?_, fun q c hc => ?_⟩
 ·rcases List.mem_append.mp hd with hd | hd
  ·exact h.al d hd
  ·simp only [List.mem_singleton] at hd
   subst hd
   exact ⟨rfl, rfl, rfl, by show (0 : Int) ≤ i; omega, by show (i : Int) ≤ 4; omega, by show (0 : Int) ≤ r; omega⟩
 ·rcases List.mem_append.mp hd with hd | hd
  ·have := h.lo d hd
   omega
  ·simp only [List.mem_singleton] at hd
   subst hd
   exact Or.inr ⟨rfl, by show (i : Int) < ((i + 1 : Nat) : Int); omega⟩
 ·by_cases e : j < i
  ·obtain ⟨d, hd, e1, e2⟩ := h.ex j e
   exact ⟨d, by simp [hd], e1, e2⟩
  ·obtain rfl : j = i := by omega
   exact ⟨_, List.mem_append_right _ (List.mem_singleton.mpr rfl), rfl, rfl⟩
 ·by_cases e : q < acc.length
  ·rw [List.getElem?_append_left e] at hc
   rw [List.take_append_of_le_length (by omega)]
   exact h.nm q c hc
  ·have hlt := (List.getElem?_eq_some_iff.mp hc).1
   rw [List.length_append, List.length_singleton] at hlt
   obtain rfl : q = acc.length := by omega
   rw [List.getElem?_append_right (Nat.le_refl _), Nat.sub_self] at hc
   obtain rfl : _ = c := Option.some.inj hc
   rw [List.take_left']
   ·exact h.free hr hi i
   ·rfl
theorem Pl.row {r i : Nat} {acc : List GC} (h : Pl r i acc) : Pl (r + 1) 0 acc :=
  ⟨h.al, fun d hd => by have := h.lo d hd; omega, fun j hj => by omega, h.nm⟩
theorem putRow_pl (hd ft n : Int) (r : Nat) (hr : r ≤ 8) : ∀ (xs : List TCl) (i : Nat) (acc : List GC), i + xs.length ≤ 5 → (∀ x ∈ xs, highOf hd ft n r x = 1 ∧ x.f1 = 1) → Pl r i acc → Pl r (i + xs.length) (putRow hd ft n r i xs acc)
 | [], i, acc, _, _, h => by simpa [putRow] using h
 | x :: xs, i, acc, hi, hx, h => by
  rw [List.length_cons] at hi
  rw [putRow, List.length_cons, show i + (xs.length + 1) = i + 1 + xs.length by omega]
  obtain ⟨e1, e2⟩ := hx x (by simp)
  have ec : putCell hd ft n r i x acc = ⟨r, (i : Int), 1, 1, i⟩ := by
   unfold putCell
   rw [e1, e2, h.seek hr (by omega)]
  rw [ec]
  exact putRow_pl hd ft n r hr xs (i + 1) _ (by omega) (fun y hy => hx y (by simp [hy])) (h.cell hr (by omega))
theorem putRows_pl (hd ft n : Int) : ∀ (ys : List TR) (r : Nat) (acc : List GC), r + ys.length ≤ 8 → (∀ (j : Nat) (y : TR), ys[j]? = some y → y.f0.length ≤ 5 ∧ ∀ x ∈ y.f0, highOf hd ft n ((r + j : Nat) : Int) x = 1 ∧ x.f1 = 1) → Pl r 0 acc → Pl (r + ys.length) 0 (putRows hd ft n r ys acc)
 | [], r, acc, _, _, h => by simpa [putRows] using h
 | y :: ys, r, acc, hr, hy, h => by
  rw [List.length_cons] at hr
  rw [putRows, List.length_cons, show r + (ys.length + 1) = r + 1 + ys.length by omega]
  obtain ⟨e1, e2⟩ := hy 0 y rfl
  have h1 := putRow_pl hd ft n r (by omega) y.f0 0 acc (by omega) e2 h
  exact putRows_pl hd ft n ys (r + 1) _ (by omega) (fun j z hz => by have := hy (j + 1) z (by simpa using hz); rwa [show r + (j + 1) = r + 1 + j by omega] at this) h1.row
theorem wideOf_le (B : Int) : ∀ (l : List GC) (m0 : Int), m0 ≤ B → (∀ c ∈ l, c.f1 + c.f3 ≤ B) → wideOf m0 l ≤ B
 | [], m0, h, _ => h
 | c :: l, m0, h, hc => by
  have h1 := hc c (by simp)
  show wideOf (if m0 > c.f1 + c.f3 then m0 else c.f1 + c.f3) l ≤ B
  exact wideOf_le B l _ (by split <;> omega) (fun d hd => hc d (by simp [hd]))
theorem le_wideOf : ∀ (l : List GC) (m0 : Int), m0 ≤ wideOf m0 l ∧ ∀ c ∈ l, c.f1 + c.f3 ≤ wideOf m0 l
 | [], m0 => ⟨Int.le_refl _, fun c hc => by cases hc⟩
 | c :: l, m0 => by
  obtain ⟨h1, h2⟩ := le_wideOf l (if m0 > c.f1 + c.f3 then m0 else c.f1 + c.f3)
  have e : wideOf m0 (c :: l) = wideOf (if m0 > c.f1 + c.f3 then m0 else c.f1 + c.f3) l := rfl
  rw [e]
  refine ⟨by split at h1 <;> split <;> omega, fun d hd => ?_⟩
  rcases List.mem_cons.mp hd with rfl | hd
  ·split at h1 <;> split <;> omega
  ·exact h2 d hd
theorem Pl.grdOk {n : Nat} {P : List GC} (h : Pl n 0 P) (h1 : 1 ≤ n) (h8 : n ≤ 8) (hl : P.length ≤ 40) : grdOkB n (wideOf 1 P) P = true := by
  obtain ⟨w1, w2⟩ := le_wideOf P 1
  have w3 := wideOf_le 5 P 1 (by omega) (fun c hc => by obtain ⟨a1, a2, a3, a4, a5, a6⟩ := h.al c hc; omega)
  unfold grdOkB
  simp only [Bool.and_eq_true, inB_iff, decide_eq_true_eq]
  refine ⟨by omega, by omega, hl, ?_⟩
  rw [List.all_eq_true]
  intro i hi
  have hlt : i < P.length := by simp at hi; omega
  obtain ⟨a1, a2, a3, a4, a5, a6⟩ := h.al P[i] (List.getElem_mem hlt)
  have lo := h.lo P[i] (List.getElem_mem hlt)
  have wi := w2 P[i] (List.getElem_mem hlt)
  unfold cellsIn cellIn
  rw [rdG P i hlt, h.nm i P[i] (List.getElem?_eq_getElem hlt), w64 (by omega) (by omega), w64 (by omega) (by omega), w64 (by omega) (by omega), w64 (by omega) (by omega)]
  simp only [Bool.and_eq_true, inB_iff, Bool.not_false, and_true]
  omega
theorem Pl.blocks {n : Nat} {P : List GC} (h : Pl n 0 P) (h8 : n ≤ 8) : ∀ m : Nat, (blocksL P m).length = m
 | 0 => rfl
 | m + 1 => by
  have hf : P.any (overB (m : Int)) = false := by
   rw [List.any_eq_false]
   intro c hc
   obtain ⟨a1, a2, a3, a4, a5, a6⟩ := h.al c hc
   have lo := h.lo c hc
   unfold overB
   rw [w64 (by omega) (by omega)]
   simp only [Bool.and_eq_true, decide_eq_true_eq]
   omega
  rw [blocksL, if_neg (by rw [hf]; simp), List.length_append, h.blocks h8 m]
  rfl
theorem pwGrid (a b : Int) (l : List S37) (h : l.length ≤ 9223372036854775807) : Ev (fun k => laws_pwGrid.f k a b l a b l) true := by
 unfold laws_pwGrid.f
 have loop : ∀ (d i : Nat), i + d = l.length → Ev (fun k => laws_pwGrid.l0 k i a b l a b l) true := by
  intro d
  induction d with
  | zero =>
   intro i hi
   refine Ev.step (fun k => by rw [laws_pwGrid.l0]) ?_
   exact evElse (by omega) (evNow rfl)
  | succ d ih =>
   intro i hi
   refine Ev.step (fun k => by rw [laws_pwGrid.l0]) ?_
   refine evIf (by omega) ?_
   refine evIf (by omega) ?_
   refine evIf (by omega) ?_
   refine evElse (by simp) ?_
   rw [wnext (n := l.length) (by omega) h]
   exact ih (i + 1) (by omega)
 refine evIf rfl (evIf rfl ?_)
 refine Ev.step (fun k => by rw [laws_pwGrid.j0]) ?_
 exact evElse (by simp) (loop l.length 0 (by omega))
theorem pwOk : Ev (fun k => laws_pwOk.f k) true := by
  unfold laws_pwOk.f
  have h := implTxtOk (⟨#[97, 98, 32, 99]⟩ : ByteArray) (by show 4 < 4294967281; omega)
  have e : txtOk (⟨#[97, 98, 32, 99]⟩ : ByteArray) = true := by decide +kernel
  rw [e] at h
  exact h.bind (evNow rfl)
theorem pwOkFin : Run (fun k => (laws_pwOk.f k).bind fun t => some t) (· = true) := Run.evBind pwOk (Run.ret rfl)
theorem plainLoop (n : Nat) (P : List GC) (h : Pl n 0 P) (h1 : 1 ≤ n) (h8 : n ≤ 8) (hl : P.length ≤ 40) : Run (fun k => laws_FnGrdPlain.l0 k 1 0 n (wideOf 1 P) P) (· = true) := by
  have go : ∀ (d i : Nat), i + d = P.length → Run (fun k => laws_FnGrdPlain.l0 k (wideOf 1 (P.take i)) i n (wideOf 1 P) P) (· = true) := by
    intro d
    induction d with
    | zero =>
      intro i hi
      obtain rfl : i = P.length := by omega
      rw [List.take_length]
      have hb := implBlocks n (wideOf 1 P) P (by omega)
      rw [if_pos (h.grdOk h1 h8 hl), Int.toNat_natCast] at hb
      refine Run.step (fun k => by rw [laws_FnGrdPlain.l0]) (Run.neg (by omega) (Run.pos rfl (Run.evBind hb (Run.ret ?_))))
      rw [h.blocks h8 n]
      simp
    | succ d ih =>
      intro i hi
      have hlt : i < P.length := by omega
      obtain ⟨a1, a2, a3, a4, a5, a6⟩ := h.al P[i] (List.getElem_mem hlt)
      have nx := ih (i + 1) (by omega)
      rw [List.take_succ_eq_append_getElem hlt, wideOf_snoc] at nx
      refine Run.step (fun k => by rw [laws_FnGrdPlain.l0]) (Run.pos (by omega) (Run.pos (by omega) ?_))
      rw [rdG P i hlt]
      refine Run.pos a1 (Run.pos a2 ?_)
      rw [wnext (n := P.length) hlt (by omega), w64 (x := P[i].f4 + 1) (by omega) (by omega), mx_wide, show P[i].f4 + 1 = P[i].f1 + P[i].f3 by omega]
      exact nx
  exact go P.length 0 (by omega)
theorem FnGrdPlain (l : List Int) (h : l.length ≤ 9223372036854775807 ∧ ∀ x ∈ l, (Lit.int .u8 x).wf = true) : ∃ k, laws_FnGrdPlain.f k l = some true := by
 apply Run.get
 unfold laws_FnGrdPlain.f
 refine Run.ite (fun _ => Run.ret rfl) fun hbig => ?_
 refine Run.bind (drawOf l h.2) fun d hd => ?_
 obtain ⟨c, hd_, ft, rows, g⟩ := d
 have hcl : c.length ≤ 6 := hd.cl
 have hr1 : 1 ≤ rows.length := hd.r1
 have hr2 : rows.length ≤ 9 := hd.r2
 have hrc : ∀ x ∈ rows, ∀ y ∈ x.f0, CD y := hd.rc
 have hm : ∃ m : Nat, ∀ (i : Nat) x, rows[i]? = some x → x.f0.length ≤ (if i = m then 5 else 4) := hd.rl
 have hrl : ∀ x ∈ rows, x.f0.length ≤ 5 := fun x hx => by
  obtain ⟨m, hm⟩ := hm
  obtain ⟨i, hi, rfl⟩ := List.getElem_of_mem hx
  have := hm i rows[i] (by simp [hi])
  split at this <;> omega
 have hit := implTblOk c hd_ ft rows g (fun x hx y hy => by have := (hrc x hx y hy).s; omega)
 have hst := specTblOk c hd_ ft rows g (by omega) (by omega) (fun x hx => by have := hrl x hx; omega) (fun x hx y hy => by have := (hrc x hx y hy).s; omega)
 refine Run.evBind hst ?_
 cases hb : tblOkB c hd_ ft rows g with
 | false =>
  rw [hb] at hit
  exact Run.neg (by simp) (Run.evBind hit (Run.neg (by simp) pwOkFin))
 | true =>
  refine Run.pos rfl (Run.evBind (plainOf c hd_ ft rows g (by omega) (fun y hy => by have := hrl y hy; omega)) ?_)
  have hp := plTblOk hb
  have hT := tOk hp
  have hn : (rows.map plR).length = rows.length := List.length_map ..
  have hx : ∀ y ∈ rows.map plR, y.f0.length ≤ 5 ∧ ∀ x ∈ y.f0, x.f1 = 1 ∧ x.f2 = 1 ∧ x.f0.size < 4294967281 := fun y hy => by
   obtain ⟨z, hz, rfl⟩ := List.mem_map.mp hy
   refine ⟨by have := hrl z hz; simpa [plR] using this, fun x hx => ?_⟩
   obtain ⟨w, hw, rfl⟩ := List.mem_map.mp hx
   exact ⟨rfl, rfl, by have := (hrc z hz w hw).s; show w.f0.size < _; omega⟩
  have hF : TFit (rows.map plR) := ⟨fun y hy x hx' => by have := ((hx y hy).2 x hx').2.1; omega, by
   obtain ⟨m, hm⟩ := hm
   refine ⟨m, fun i x hx => ?_⟩
   rw [List.getElem?_map] at hx
   obtain ⟨z, hz, rfl⟩ := Option.map_eq_some_iff.mp hx
   have := hm i z hz
   simpa [plR] using this⟩
  have hit := implTblOk [] hd_ ft (rows.map plR) g (fun x hx' y hy => ((hx x hx').2 y hy).2.2)
  have hst := specTblOk [] hd_ ft (rows.map plR) g (by simp) (by omega) (fun x hx' => by have := (hx x hx').1; omega) (fun x hx' y hy => ((hx x hx').2 y hy).2.2)
  rw [hp] at hit hst
  generalize hq : rows.map plR = rows' at *
  have gi := implOf hT hF hit
  have gs : Ev (fun k => spec_GrdOf.f k [] hd_ ft rows' g) ((rows'.length : Int), wideOf (if 1 > ((([] : List S53).length : Nat) : Int) then 1 else ((([] : List S53).length : Nat) : Int)) (putRows hd_ ft rows'.length 0 rows' []), putRows hd_ ft rows'.length 0 rows' []) := by
   unfold spec_GrdOf.f
   exact hst.bind (evIf rfl ((specOf hT).bind (evNow rfl)))
  have hl := putRows_len hd_ ft rows'.length 5 rows' 0 [] (fun y hy => (hx y hy).1)
  simp only [List.length_nil, Nat.zero_add] at hl
  have n0 := hT.n0
  have n1 := hT.n1
  have pl := putRows_pl hd_ ft rows'.length rows' 0 [] (by omega) (fun j y hy => by
   obtain ⟨hj, rfl⟩ := List.getElem?_eq_some_iff.mp hy
   obtain ⟨q1, q2⟩ := hx _ (List.getElem_mem hj)
   refine ⟨q1, fun x hx' => ?_⟩
   obtain ⟨z1, z2, _⟩ := q2 x hx'
   obtain ⟨er1, er2⟩ := endOf_range hT j hj
   refine ⟨?_, z1⟩
   rw [Nat.zero_add]
   unfold highOf
   rw [if_neg (by omega), z2]) ⟨fun d hd => (by cases hd), fun d hd => (by cases hd), fun j hj => (by omega), fun q c hc => (by simp at hc)⟩
  rw [Nat.zero_add] at pl
  refine Run.evBind gi (Run.evBind gs (Run.evBind (pwGrid _ _ (putRows hd_ ft rows'.length 0 rows' []) (by omega)) (Run.pos rfl ?_)))
  exact plainLoop rows'.length _ pl (by omega) n1 (by omega)
end Go.Proofs.YtnalfnoebhmijaaDoor.Pure
