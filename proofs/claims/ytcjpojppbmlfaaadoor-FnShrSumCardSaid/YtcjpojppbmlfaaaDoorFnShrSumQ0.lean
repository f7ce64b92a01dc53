/- The plain laws that the claim of 'FnShrSum' leans on. -/
import Derived.Test.YtcjpojppbmlfaaaDoorFnShrSumP0
import Derived.ProofKit
import Derived.OpenShut
import Derived.ShutString
import Derived.ChangeOld
import Derived.Below
import Derived.SizedLaws
import Derived.DataElems
import Derived.Test.YtcjpojppbmlfaaaDoorFnShrSumP3
import Derived.Test.YtcjpojppbmlfaaaDoorFnShrSumP2
import Derived.Test.YtcjpojppbmlfaaaDoorFnShrSumP1
import Derived.Test.YtcjpojppbmlfaaaDoorFnShrSumPr78
import Derived.Test.YtcjpojppbmlfaaaDoorFnShrSumP5
import Derived.Test.YtcjpojppbmlfaaaDoorFnShrSumPr24
import Derived.Test.YtcjpojppbmlfaaaDoorFnShrSumP4
import Derived.Test.YtcjpojppbmlfaaaDoorFnShrSumPr25
import Derived.Test.YtcjpojppbmlfaaaDoorFnShrSumQCut
import Derived.Lib.LazyBuf
import Derived.Test.YtcjpojppbmlfaaaDoorFnShrSumPr3
set_option linter.unusedVariables false
set_option linter.unusedSimpArgs false
namespace Go.Proofs.YtcjpojppbmlfaaaDoor.Pure
open Go.RowKit Go.Proofs.YtcjpojppbmlfaaaDoor.Pr Go.Proofs.YtcjpojppbmlfaaaDoorW.PrintWords Go.Proofs.YtcjpojppbmlfaaaDoorW.PrintLast Go.Proofs.YtcjpojppbmlfaaaDoorW.PrintMore
section
variable {H : Type} {enc : TypeId × Value → H} {P : Program} {W : World} {α β γ : Type}
structure Opens (enc : TypeId × Value → H) (P : Program) (W : World) (t : TypeId) (d : Kd α) (I : α → Prop) : Prop where
  out : ∀ (fuel : Nat) (cs : List Value) (x : DataW H × List MemPlace), DataW.trod enc P W 0 (fun _ => true) true fuel t cs = some x → ∃ y, d.K W y cs ∧ I y
theorem opens_int {t : TypeId} {k : IntKind} (hu : P.underlying t = some (.int k)) : Opens enc P W t (Kd.int k) (fun n => (Lit.int k n).wf = true) := ⟨by
  intro fuel cs x h
  cases fuel with
  | zero => simp [DataW.trod] at h
  | succ fuel =>
    simp only [DataW.trod, hu] at h
    split at h <;> simp_all
    exact ⟨_, rfl, h.1.2⟩⟩
theorem mapM_get {δ ε : Type} {f : δ → Option ε} : ∀ {xs : List δ} {ys : List ε}, xs.mapM f = some ys → ys.length = xs.length ∧ ∀ (j : Nat) x, xs[j]? = some x → ∃ y, ys[j]? = some y ∧ f x = some y
  | [], ys, h => by simp at h; subst h; simp
  | a :: xs, ys, h => by
    rw [List.mapM_cons] at h
    simp only [Option.bind_eq_bind, Option.bind_eq_some_iff, Option.pure_def, Option.some.injEq] at h
    obtain ⟨b, hb, zs, hz, rfl⟩ := h
    obtain ⟨h1, h2⟩ := mapM_get hz
    refine ⟨by simp [h1], ?_⟩
    intro j x hx
    cases j with
    | zero => simp at hx; subst hx; exact ⟨b, by simp, hb⟩
    | succ j => simpa using h2 j x (by simpa using hx)
theorem list_of {len : Nat} {Q : Nat → α → Prop} (h : ∀ j, j < len → ∃ y, Q j y) : ∃ ys : List α, ys.length = len ∧ ∀ (j : Nat) y, ys[j]? = some y → Q j y := by
  induction len with
  | zero => exact ⟨[], rfl, by simp⟩
  | succ n ih =>
    obtain ⟨ys, hl, hq⟩ := ih (fun j hj => h j (by omega))
    obtain ⟨y, hy⟩ := h n (by omega)
    refine ⟨ys ++ [y], by simp [hl], ?_⟩
    intro j z hz
    by_cases hj : j < ys.length
    · rw [List.getElem?_append_left hj] at hz; exact hq j z hz
    · rw [List.getElem?_append_right (by omega)] at hz
      have e : j - ys.length = 0 := by
        rcases Nat.eq_zero_or_pos (j - ys.length) with h0 | h0
        · exact h0
        · rw [List.getElem?_eq_none (by simp; omega)] at hz; cases hz
      rw [e] at hz
      simp at hz
      subst hz
      have : j = n := by omega
      subst this; exact hy
theorem cells_at {base : Nat} {a : Addr} {n : Nat} {c : List Value} (h : W.cells? base a n = some c) (i : Nat) (u : Value) (hu : c[i]? = some u) : W.cell? (a.add i) = some u := by
  unfold World.cells? at h
  split at h
  · obtain ⟨hl, hg⟩ := mapM_get h
    rw [List.length_range] at hl
    have hi : i < n := by rw [← hl]; exact (List.getElem?_eq_some_iff.1 hu).1
    obtain ⟨y, hy, hc⟩ := hg i i (by rw [List.getElem?_range hi])
    rw [hy] at hu
    cases hu
    exact hc
  · cases h
theorem opens_slice {t e : TypeId} {d : Kd α} {I : α → Prop} (hu : P.underlying t = some (.slice e)) (hc : P.cellsOf e = d.sz) (h : Opens enc P W e d I) : Opens enc P W t (Kd.slice e d) (fun xs => xs.length ≤ 9223372036854775807 ∧ ∀ x ∈ xs, I x) := ⟨by
  intro fuel cs x hx
  cases fuel with
  | zero => simp [DataW.trod] at hx
  | succ fuel =>
    unfold DataW.trod at hx
    rw [hu] at hx
    split at hx
    all_goals first | (rename_i heq; cases heq; done) | (rename_i heq _; cases heq; done) | (cases hx; done) | skip
    · exact ⟨[], ⟨none, 0, rfl, Nat.le_refl _, Kd.C_nil d W⟩, by simp, by simp⟩
    · rename_i e' a len cap heq
      injection heq with heq
      injection heq with heq
      subst heq
      dsimp only at hx
      split at hx
      · rename_i hlc
        obtain ⟨_, hle, hmax⟩ := hlc
        simp only [Option.bind_eq_some_iff, Option.map_eq_some_iff] at hx
        obtain ⟨elems, hel, _, _, _⟩ := hx
        obtain ⟨hlen, hget⟩ := mapM_get hel
        rw [List.length_range] at hlen
        obtain ⟨ys, hyl, hyq⟩ := list_of (len := len) (Q := fun j y => I y ∧ ∃ c, c.length = d.sz ∧ d.K W y c ∧ ∀ (i : Nat) u, c[i]? = some u → W.cell? (a.add (j * d.sz + i)) = some u) (by
          intro j hj
          obtain ⟨y, _, hy⟩ := hget j j (by rw [List.getElem?_range hj])
          rw [Option.bind_eq_some_iff] at hy
          obtain ⟨c, hcs, hy⟩ := hy
          obtain ⟨y', hK, hI⟩ := h.out fuel c _ hy
          refine ⟨y', hI, c, d.K_len hK, hK, ?_⟩
          intro i u hi
          rw [hc] at hcs
          have := cells_at hcs i u hi
          rw [Addr.add_add] at this
          exact this)
        refine ⟨ys, ⟨some a, cap, by rw [hyl], by omega, hyl ▸ rfl, by unfold maxLen at hmax; omega, fun _ => ⟨a, rfl, fun j p hj => (hyq j p hj).2⟩⟩, by unfold maxLen at hmax; omega, ?_⟩
        intro x hx
        obtain ⟨j, hj⟩ := List.getElem?_of_mem hx
        exact (hyq j x hj).1
      · cases hx⟩
theorem Opens.imp {t : TypeId} {d : Kd α} {I I' : α → Prop} (h : Opens enc P W t d I) (hi : ∀ x, I x → I' x) : Opens enc P W t d I' := ⟨fun fuel cs x hx => by
  obtain ⟨y, a, b⟩ := h.out fuel cs x hx
  exact ⟨y, a, hi y b⟩⟩
end
end Go.Proofs.YtcjpojppbmlfaaaDoor.Pure
set_option linter.unusedVariables false
set_option linter.unusedSimpArgs false
namespace Go.Proofs.YtcjpojppbmlfaaaDoor.Pure
open Go.RowKit Go.Proofs.YtcjpojppbmlfaaaDoor.Pr Go.Proofs.YtcjpojppbmlfaaaDoorW.PrintWords Go.Proofs.YtcjpojppbmlfaaaDoorW.PrintLast Go.Proofs.YtcjpojppbmlfaaaDoorW.PrintMore
theorem evIf {α : Type} {c : Prop} [Decidable c] {g f : Nat → Option α} {r : α} (hc : c) (h : Ev g r) : Ev (fun k => if c then g k else f k) r :=
  Ev.congr (fun _ => if_pos hc) h
theorem evElse {α : Type} {c : Prop} [Decidable c] {g f : Nat → Option α} {r : α} (hc : ¬ c) (h : Ev f r) : Ev (fun k => if c then g k else f k) r :=
  Ev.congr (fun _ => if_neg hc) h
theorem evSome {α β : Type} {a : α} {f : Nat → α → Option β} {r : β} (h : Ev (fun k => f k a) r) : Ev (fun k => (some a).bind (f k)) r := h
theorem evNow {α : Type} {g : Option α} {r : α} (h : g = some r) : Ev (fun _ => g) r := ⟨0, fun _ _ => h⟩
theorem evBindC {α β : Type} {g : Option α} {f : Nat → α → Option β} {a : α} {r : β} (h : g = some a) (k : Ev (fun n => f n a) r) : Ev (fun n => g.bind (f n)) r := by
  subst h; exact k
theorem in_eq (a b c : Int) : impl_in.f a b c = some (decide (b ≤ a) && decide (a ≤ c)) := by
  unfold impl_in.f; by_cases h : a ≥ b <;> simp [h] <;> omega
theorem l1In_eq (a b c : Int) : spec_l1In.f a b c = some (decide (b ≤ a) && decide (a ≤ c)) := by
  unfold spec_l1In.f; by_cases h : a ≥ b <;> simp [h] <;> omega
theorem w64 {x : Int} (h : -9223372036854775808 ≤ x) (h2 : x ≤ 9223372036854775807) : wrap64 x = x := by unfold wrap64; omega
def Run {α : Type} (g : Nat → Option α) (Q : α → Prop) : Prop := ∃ r, Ev g r ∧ Q r
theorem Run.ret {α : Type} {r : α} {Q : α → Prop} (h : Q r) : Run (fun _ => some r) Q := ⟨r, Ev.now r, h⟩
theorem Run.bind {α β : Type} {g : Nat → Option α} {f : Nat → α → Option β} {Q : α → Prop} {R : β → Prop} (h : Run g Q) (k : ∀ a, Q a → Run (fun n => f n a) R) : Run (fun n => (g n).bind (f n)) R := by
  obtain ⟨a, ha, qa⟩ := h
  obtain ⟨b, hb, rb⟩ := k a qa
  exact ⟨b, ha.bind hb, rb⟩
theorem Run.evBind {α β : Type} {g : Nat → Option α} {f : Nat → α → Option β} {a : α} {R : β → Prop} (h : Ev g a) (k : Run (fun n => f n a) R) : Run (fun n => (g n).bind (f n)) R := by
  obtain ⟨b, hb, rb⟩ := k
  exact ⟨b, h.bind hb, rb⟩
theorem Run.some {α β : Type} {a : α} {f : Nat → α → Option β} {R : β → Prop} (k : Run (fun n => f n a) R) : Run (fun n => (Option.some a).bind (f n)) R := k
theorem Run.constBind {α β : Type} {g : Option α} {f : Nat → α → Option β} {a : α} {R : β → Prop} (h : g = Option.some a) (k : Run (fun n => f n a) R) : Run (fun n => g.bind (f n)) R := by subst h; exact k
theorem Run.ite {α : Type} {c : Prop} [Decidable c] {g f : Nat → Option α} {Q : α → Prop} (h : c → Run g Q) (k : ¬ c → Run f Q) : Run (fun n => if c then g n else f n) Q := by
  by_cases hc : c
  · obtain ⟨r, e, q⟩ := h hc; exact ⟨r, evIf hc e, q⟩
  · obtain ⟨r, e, q⟩ := k hc; exact ⟨r, evElse hc e, q⟩
theorem Run.pos {α : Type} {c : Prop} [Decidable c] {g f : Nat → Option α} {Q : α → Prop} (hc : c) (h : Run g Q) : Run (fun n => if c then g n else f n) Q := Run.ite (fun _ => h) (fun k => absurd hc k)
theorem Run.neg {α : Type} {c : Prop} [Decidable c] {g f : Nat → Option α} {Q : α → Prop} (hc : ¬ c) (h : Run f Q) : Run (fun n => if c then g n else f n) Q := Run.ite (fun k => absurd k hc) (fun _ => h)
theorem Run.step {α : Type} {g f : Nat → Option α} {Q : α → Prop} (h : ∀ k, g (k + 1) = f k) (k : Run f Q) : Run g Q := by
  obtain ⟨r, e, q⟩ := k; exact ⟨r, Ev.step h e, q⟩
theorem Run.imp {α : Type} {g : Nat → Option α} {Q R : α → Prop} (h : Run g Q) (k : ∀ r, Q r → R r) : Run g R := by
  obtain ⟨r, e, q⟩ := h; exact ⟨r, e, k r q⟩
theorem Run.get {α : Type} {g : Nat → Option α} {r : α} (h : Run g (· = r)) : ∃ k, g k = Option.some r := by
  obtain ⟨r', e, rfl⟩ := h; exact e.rounds
theorem Ev.run {α : Type} {g : Nat → Option α} {r : α} (h : Ev g r) : Run g (· = r) := ⟨r, h, rfl⟩
theorem wfb {n : Int} (h : (Lit.int .u8 n).wf = true) : 0 ≤ n ∧ n ≤ 255 := by
  simp [Lit.wf, IntKind.min, IntKind.max, IntKind.bits, IntKind.signed] at h; omega
end Go.Proofs.YtcjpojppbmlfaaaDoor.Pure
set_option linter.unusedVariables false
set_option linter.unusedSimpArgs false
namespace Go.Proofs.YtcjpojppbmlfaaaDoor.Pure
open Go.RowKit Go.Proofs.YtcjpojppbmlfaaaDoor.Pr Go.Proofs.YtcjpojppbmlfaaaDoorW.PrintWords Go.Proofs.YtcjpojppbmlfaaaDoorW.PrintLast Go.Proofs.YtcjpojppbmlfaaaDoorW.PrintMore
theorem wnext {n i : Nat} (h : i < n) (hn : n ≤ 9223372036854775807) : wrap64 ((i : Int) + 1) = ((i + 1 : Nat) : Int) := by
  rw [w64 (by omega) (by omega)]; omega
theorem rdNat (l : List Int) (i : Nat) (h : i < l.length) : rd l i = l[i] := by unfold rd; simp [h]
theorem dropCons {α : Type} (l : List α) (i : Nat) (h : i < l.length) : l.drop i = l[i] :: l.drop (i + 1) := List.drop_eq_getElem_cons h
end Go.Proofs.YtcjpojppbmlfaaaDoor.Pure
set_option linter.unusedVariables false
set_option linter.unusedSimpArgs false
namespace Go.Proofs.YtcjpojppbmlfaaaDoor.Pure
open Go.RowKit Go.Proofs.YtcjpojppbmlfaaaDoor.Pr Go.Proofs.YtcjpojppbmlfaaaDoorW.PrintWords Go.Proofs.YtcjpojppbmlfaaaDoorW.PrintLast Go.Proofs.YtcjpojppbmlfaaaDoorW.PrintMore
theorem rdAt (P S : List Int) (x : Int) (i : Int) (h : i = (P.length : Int)) : rd (P ++ x :: S) i = x := by
  subst h; unfold rd; simp [List.getD_eq_getElem?_getD]
theorem setAt (P S : List Int) (x y : Int) (i : Int) (h : i = (P.length : Int)) : (P ++ x :: S).set i.toNat y = P ++ y :: S := by
  subst h; simp [List.set_append]
theorem w64n {x : Int} {n : Nat} (h : x = (n : Int)) (hn : n ≤ 9223372036854775807) : wrap64 x = (n : Int) := by subst h; exact w64 (by omega) (by omega)
theorem swapFacts (p u m v s a b i n l : Nat) (h : u = v) (ha : a + i = p) (hb : b + i = p + (u + 1) + m) (hn : n = i + (u + 1)) (hx : b + n ≤ 1000000) (hl : l = p + u + m + v + s + 2) :
    wrap64 ((b : Int) + (i : Int)) = ((b + i : Nat) : Int) ∧ wrap64 ((a : Int) + (i : Int)) = ((a + i : Nat) : Int) ∧ wrap64 ((i : Int) + 1) = ((i + 1 : Nat) : Int) ∧ (i : Int) < (n : Int) ∧ (0 : Int) ≤ ((b + i : Nat) : Int) ∧ ((b + i : Nat) : Int) < (l : Int) ∧ (0 : Int) ≤ ((a + i : Nat) : Int) ∧ ((a + i : Nat) : Int) < (l : Int) ∧ ((a + i : Nat) : Int) = (p : Int) ∧ ((b + i : Nat) : Int) = ((p + (u + 1 + m) : Nat) : Int) :=
  ⟨w64n (by omega) (by omega), w64n (by omega) (by omega), w64n (by omega) (by omega), by omega, by omega, by omega, by omega, by omega, by omega, by omega⟩
theorem swapRange (cmp : Int → Int → Option Int) (n : Nat) : ∀ (U V P M S : List Int) (a b i : Nat), U.length = V.length → a + i = P.length → b + i = P.length + U.length + M.length → n = i + U.length → b + n ≤ 1000000 →
    Ev (fun k => slices_swapRangeCmpFunc_int.l0 k (P ++ (U ++ (M ++ (V ++ S)))) a b n i) (P ++ (V ++ (M ++ (U ++ S)))) := by
  intro U
  induction U with
  | nil =>
    intro V P M S a b i h ha hb hn hx
    cases V with
    | cons v V => simp at h
    | nil => exact Ev.step (fun k => by rw [slices_swapRangeCmpFunc_int.l0]) (evElse (by simp at hn; omega) (evNow rfl))
  | cons u U ih =>
    intro V P M S a b i h ha hb hn hx
    cases V with
    | nil => simp at h
    | cons v V =>
    simp only [List.length_cons] at h hb hn
    have ih := ih V (P ++ [v]) (M ++ [u]) S a b (i + 1) (by omega) (by simp; omega) (by simp; omega) (by omega) hx
    have l3 : (P ++ (u :: U ++ M)).length = P.length + (U.length + 1 + M.length) := by simp; omega
    have l4 : (P ++ (v :: U ++ M)).length = P.length + (U.length + 1 + M.length) := by simp; omega
    obtain ⟨e1, e2, e3, c1, c2, c3, c4, c5, q1, q2⟩ := swapFacts P.length U.length M.length V.length S.length a b i n (P ++ ((u :: U) ++ (M ++ ((v :: V) ++ S)))).length (by omega) ha hb hn hx (by simp; omega)
    have r1 : rd (P ++ ((u :: U) ++ (M ++ ((v :: V) ++ S)))) ((a + i : Nat) : Int) = u := by
      rw [List.cons_append]; exact rdAt _ _ _ _ q1
    have e4 : P ++ ((u :: U) ++ (M ++ ((v :: V) ++ S))) = (P ++ (u :: U ++ M)) ++ v :: (V ++ S) := by simp
    have q3 : ((b + i : Nat) : Int) = (((P ++ (u :: U ++ M)).length : Nat) : Int) := by rw [l3]; exact q2
    have r2 : rd (P ++ ((u :: U) ++ (M ++ ((v :: V) ++ S)))) ((b + i : Nat) : Int) = v := by
      rw [e4]; exact rdAt _ _ _ _ q3
    have s1 : (P ++ ((u :: U) ++ (M ++ ((v :: V) ++ S)))).set ((a + i : Nat) : Int).toNat v = P ++ v :: (U ++ (M ++ ((v :: V) ++ S))) := by
      rw [List.cons_append]; exact setAt _ _ _ _ _ q1
    have e5 : P ++ v :: (U ++ (M ++ ((v :: V) ++ S))) = (P ++ (v :: U ++ M)) ++ v :: (V ++ S) := by simp
    have q4 : ((b + i : Nat) : Int) = (((P ++ (v :: U ++ M)).length : Nat) : Int) := by rw [l4]; exact q2
    have s2 : (P ++ v :: (U ++ (M ++ ((v :: V) ++ S)))).set ((b + i : Nat) : Int).toNat u = (P ++ [v]) ++ (U ++ ((M ++ [u]) ++ (V ++ S))) := by
      rw [e5, setAt _ _ _ _ _ q4]; simp
    refine Ev.step (fun k => by rw [slices_swapRangeCmpFunc_int.l0]) ?_
    rw [e1, e2, e3, r1, r2, s1, s2]
    refine evIf c1 (evIf c2 (evIf c3 (evIf c4 (evIf c5 ?_))))
    have e6 : P ++ ((v :: V) ++ (M ++ ((u :: U) ++ S))) = (P ++ [v]) ++ (V ++ ((M ++ [u]) ++ (U ++ S))) := by simp
    rw [e6]; exact ih
theorem subW (a b c : Nat) (h : a = c + b) (hc : c ≤ 4000000) : wrap64 ((a : Int) - (b : Int)) = (c : Int) := w64n (by omega) (by omega)
theorem addW (a b c : Nat) (h : a + b = c) (hc : c ≤ 4000000) : wrap64 ((a : Int) + (b : Int)) = (c : Int) := w64n (by omega) (by omega)
theorem rotLoop (cmp : Int → Int → Option Int) (m : Nat) (hm : m ≤ 400000) : ∀ (N : Nat) (U V P S : List Int), U.length + V.length ≤ N → 0 < U.length → 0 < V.length → P.length + U.length = m → V.length ≤ 400000 →
    Ev (fun k => slices_rotateCmpFunc_int.l0 k (P ++ (U ++ (V ++ S))) m cmp U.length V.length) (P ++ (V ++ (U ++ S))) := by
  intro N
  induction N with
  | zero => intro U V P S h h1; omega
  | succ N ih =>
    intro U V P S hN hU hV hP hx
    refine Ev.step (fun k => by rw [slices_rotateCmpFunc_int.l0]) ?_
    rw [subW m U.length P.length (by omega) (by omega)]
    by_cases he : U.length = V.length
    · refine evIf (by omega) ?_
      refine Ev.bind (?_ : Ev _ (P ++ (V ++ (U ++ S)))) (evNow rfl)
      have := swapRange cmp U.length U V P [] S P.length m 0 he (by omega) (by simp; omega) (by omega) (by omega)
      simpa [slices_swapRangeCmpFunc_int.f] using this
    · refine evElse (by omega) ?_
      by_cases hg : V.length < U.length
      · refine evIf (by omega) ?_
        obtain ⟨U1, U2, rfl, h1⟩ : ∃ U1 U2, U = U1 ++ U2 ∧ U1.length = V.length := ⟨U.take V.length, U.drop V.length, (List.take_append_drop _ _).symm, by simp; omega⟩
        simp only [List.length_append] at *
        have h2 := swapRange cmp V.length U1 V P U2 S P.length m 0 h1 (by omega) (by omega) (by omega) (by omega)
        have h3 := ih U2 U1 (P ++ V) S (by omega) (by omega) (by omega) (by simp; omega) (by omega)
        rw [subW (U1.length + U2.length) V.length U2.length (by omega) (by omega)]
        rw [h1] at h3
        refine Ev.bind (?_ : Ev _ (P ++ (V ++ (U2 ++ (U1 ++ S))))) ?_
        · simpa [slices_swapRangeCmpFunc_int.f] using h2
        · simpa using h3
      · refine evElse (by omega) ?_
        obtain ⟨V1, V2, rfl, h1⟩ : ∃ V1 V2, V = V1 ++ V2 ∧ V2.length = U.length := ⟨V.take (V.length - U.length), V.drop (V.length - U.length), (List.take_append_drop _ _).symm, by simp; omega⟩
        simp only [List.length_append] at *
        have h2 := swapRange cmp U.length U V2 P V1 S P.length (m + V1.length) 0 (by omega) (by omega) (by omega) (by omega) (by omega)
        have h3 := ih V2 V1 P (U ++ S) (by omega) (by omega) (by omega) (by omega) (by omega)
        rw [addW m (V1.length + V2.length) (m + V1.length + V2.length) (by omega) (by omega), subW (m + V1.length + V2.length) U.length (m + V1.length) (by omega) (by omega), subW (V1.length + V2.length) U.length V1.length (by omega) (by omega)]
        rw [h1] at h3
        refine Ev.bind (?_ : Ev _ (P ++ (V2 ++ (V1 ++ (U ++ S))))) ?_
        · simpa [slices_swapRangeCmpFunc_int.f] using h2
        · simpa using h3
theorem rotate (cmp : Int → Int → Option Int) (U V P S : List Int) (hU : 0 < U.length) (hV : 0 < V.length) (hx : P.length + U.length + V.length ≤ 400000) (a m b : Nat) (ha : a = P.length) (hm : m = P.length + U.length) (hb : b = P.length + U.length + V.length) :
    Ev (fun k => slices_rotateCmpFunc_int.f k (P ++ (U ++ (V ++ S))) a m b cmp) (P ++ (V ++ (U ++ S))) := by
  unfold slices_rotateCmpFunc_int.f
  rw [subW m a U.length (by omega) (by omega), subW b m V.length (by omega) (by omega)]
  exact rotLoop cmp m (by omega) _ U V P S (Nat.le_refl _) hU hV (by omega) (by omega)
end Go.Proofs.YtcjpojppbmlfaaaDoor.Pure
set_option linter.unusedVariables false
set_option linter.unusedSimpArgs false
namespace Go.Proofs.YtcjpojppbmlfaaaDoor.Pure
open Go.RowKit Go.Proofs.YtcjpojppbmlfaaaDoor.Pr Go.Proofs.YtcjpojppbmlfaaaDoorW.PrintWords Go.Proofs.YtcjpojppbmlfaaaDoorW.PrintLast Go.Proofs.YtcjpojppbmlfaaaDoorW.PrintMore
def bt (key : Int → Int) (x y : Int) : Prop := key y < key x ∨ (key x = key y ∧ x < y)
theorem bt_trans {key : Int → Int} {x y z : Int} (h : bt key x y) (k : bt key y z) : bt key x z := by unfold bt at *; omega
theorem bt_irrefl {key : Int → Int} {x : Int} : ¬ bt key x x := by unfold bt; omega
theorem bt_asymm {key : Int → Int} {x y : Int} (h : bt key x y) : ¬ bt key y x := fun k => bt_irrefl (bt_trans h k)
def Cok (key : Int → Int) (cmp : Int → Int → Option Int) (x y : Int) : Prop := ∃ c, cmp y x = some c ∧ (c < 0 → bt key y x) ∧ (¬ c < 0 → bt key x y)
def Seg (key : Int → Int) (P X S r : List Int) : Prop := ∃ Z, r = P ++ (Z ++ S) ∧ Z.Perm X ∧ Z.Pairwise (bt key)
theorem ins1 {key : Int → Int} {cmp : Int → Int → Option Int} {Q : List Int → Prop} (P S : List Int) (y : Int) (a b i : Nat) (ha : a = P.length) : ∀ (n : Nat) (X Z : List Int) (j : Nat), X.length = n → j = P.length + X.length → P.length + X.length + Z.length + S.length ≤ 400000 →
    (X ++ Z).Pairwise (bt key) → (∀ z ∈ Z, bt key y z) → (∀ x ∈ X, Cok key cmp x y) →
    (∀ X', X'.Perm (X ++ y :: Z) → X'.Pairwise (bt key) → Run (fun k => slices_insertionSortCmpFunc_int.l0 k (P ++ (X' ++ S)) a b cmp (wrap64 ((i : Int) + 1))) Q) →
    Run (fun k => slices_insertionSortCmpFunc_int.l1 k (P ++ (X ++ (y :: (Z ++ S)))) a b cmp i j) Q := by
  intro n
  induction n with
  | zero =>
    intro X Z j hX hj hx hs hz hc K
    obtain rfl := List.eq_nil_of_length_eq_zero hX
    simp only [List.length_nil, Nat.add_zero] at hj
    refine Run.step (fun k => by rw [slices_insertionSortCmpFunc_int.l1]) (Run.neg (by omega) ?_)
    have := K (y :: Z) (by simp) (List.pairwise_cons.2 ⟨hz, by simpa using hs⟩)
    simpa using this
  | succ n ih =>
    intro X Z j hX hj hx hs hz hc K
    obtain rfl | ⟨X0, x, rfl⟩ := List.eq_nil_or_concat X
    · simp at hX
    simp only [List.concat_eq_append] at *
    simp only [List.length_append, List.length_singleton] at hX hj hx
    obtain ⟨c, hcm, hc1, hc2⟩ := hc x (by simp)
    have e1 : P ++ (X0 ++ [x] ++ (y :: (Z ++ S))) = (P ++ (X0 ++ [x])) ++ y :: (Z ++ S) := by simp
    have e2 : P ++ (X0 ++ [x] ++ (y :: (Z ++ S))) = (P ++ X0) ++ x :: (y :: (Z ++ S)) := by simp
    have hl : (P ++ (X0 ++ [x] ++ (y :: (Z ++ S)))).length = P.length + X0.length + Z.length + S.length + 2 := by simp; omega
    have l1 : (P ++ (X0 ++ [x])).length = j := by simp; omega
    have l2 : (P ++ X0).length = j - 1 := by simp; omega
    have hw : wrap64 ((j : Int) - 1) = ((j - 1 : Nat) : Int) := by have := subW j 1 (j - 1) (by omega) (by omega); simpa using this
    have r1 : rd (P ++ (X0 ++ [x] ++ (y :: (Z ++ S)))) (j : Int) = y := by rw [e1]; exact rdAt _ _ _ _ (by rw [l1])
    have r2 : rd (P ++ (X0 ++ [x] ++ (y :: (Z ++ S)))) ((j - 1 : Nat) : Int) = x := by rw [e2]; exact rdAt _ _ _ _ (by rw [l2])
    have s1 : (P ++ (X0 ++ [x] ++ (y :: (Z ++ S)))).set (j : Int).toNat x = (P ++ X0) ++ x :: (x :: (Z ++ S)) := by rw [e1, setAt _ _ _ _ _ (by rw [l1])]; simp
    have s2 : ((P ++ X0) ++ x :: (x :: (Z ++ S))).set ((j - 1 : Nat) : Int).toNat y = P ++ (X0 ++ (y :: ((x :: Z) ++ S))) := by rw [setAt _ _ _ _ _ (by rw [l2])]; simp
    have k1 : (j : Int) > (a : Int) := by clear hw r1 r2; omega
    have k2 : (0 : Int) ≤ (j : Int) := by clear hw r1 r2; omega
    have k3 : (j : Int) < (((P ++ (X0 ++ [x] ++ (y :: (Z ++ S)))).length : Nat) : Int) := by clear hw r1 r2; rw [hl]; omega
    have k4 : (0 : Int) ≤ ((j - 1 : Nat) : Int) := by clear hw r1 r2; omega
    have k5 : ((j - 1 : Nat) : Int) < (((P ++ (X0 ++ [x] ++ (y :: (Z ++ S)))).length : Nat) : Int) := by clear hw r1 r2; rw [hl]; omega
    have hj2 : j - 1 = P.length + X0.length := by clear hw r1 r2; omega
    have hx2 : P.length + X0.length + (x :: Z).length + S.length ≤ 400000 := by clear hw r1 r2; simp; omega
    have hn2 : X0.length = n := by clear hw r1 r2; omega
    refine Run.step (fun k => by rw [slices_insertionSortCmpFunc_int.l1]) ?_
    rw [hw, r1, r2, s1, s2]
    refine Run.pos k1 (Run.pos k2 (Run.pos k3 (Run.pos k4 (Run.pos k5 (Run.constBind hcm (Run.ite (fun hneg => ?_) fun hneg => ?_))))))
    · refine ih X0 (x :: Z) (j - 1) hn2 hj2 hx2 (by simpa using hs) (fun z hz' => ?_) (fun q hq => hc q (by simp [hq])) (fun X' hp hs' => K X' (hp.trans ?_) hs')
      · rcases List.mem_cons.1 hz' with rfl | h
        · exact hc1 hneg
        · exact hz z h
      · simp only [List.append_assoc, List.singleton_append]
        exact List.Perm.append_left X0 (List.Perm.swap x y Z)
    · have hxy := hc2 hneg
      rw [List.append_assoc] at hs
      have := K (X0 ++ [x] ++ y :: Z) (List.Perm.refl _) ?_
      · simpa using this
      · rw [List.pairwise_append] at hs
        obtain ⟨h0, h1, h2⟩ := hs
        simp only [List.singleton_append, List.pairwise_cons] at h1
        rw [List.append_assoc, List.pairwise_append]
        refine ⟨h0, ?_, ?_⟩
        · simp only [List.singleton_append, List.pairwise_cons]
          refine ⟨fun q hq => ?_, hz, h1.2⟩
          rcases List.mem_cons.1 hq with rfl | h
          · exact hxy
          · exact h1.1 q h
        · intro p hp q hq
          simp only [List.singleton_append, List.mem_cons] at hq
          rcases hq with rfl | rfl | h
          · exact h2 p hp _ (by simp)
          · exact bt_trans (h2 p hp x (by simp)) hxy
          · exact h2 p hp q (by simp [h])
theorem ins0 {key : Int → Int} {cmp : Int → Int → Option Int} (P S : List Int) (a : Nat) (ha : a = P.length) : ∀ (Y X : List Int) (i b : Nat), i = P.length + X.length → b = P.length + X.length + Y.length → P.length + X.length + Y.length + S.length ≤ 400000 →
    X.Pairwise (bt key) → (∀ x ∈ X, ∀ y ∈ Y, Cok key cmp x y) → Y.Pairwise (Cok key cmp) →
    Run (fun k => slices_insertionSortCmpFunc_int.l0 k (P ++ (X ++ (Y ++ S))) a b cmp i) (Seg key P (X ++ Y) S) := by
  intro Y
  induction Y with
  | nil =>
    intro X i b hi hb hx hs _ _
    refine Run.step (fun k => by rw [slices_insertionSortCmpFunc_int.l0]) (Run.neg (by simp at hb; omega) (Run.ret ⟨X, by simp, by simp, hs⟩))
  | cons y Y ih =>
    intro X i b hi hb hx hs hc hy
    simp only [List.length_cons] at hb hx
    refine Run.step (fun k => by rw [slices_insertionSortCmpFunc_int.l0]) (Run.pos (by omega) ?_)
    have e : P ++ (X ++ (y :: Y ++ S)) = P ++ (X ++ (y :: ([] ++ (Y ++ S)))) := by simp
    rw [e]
    refine ins1 P (Y ++ S) y a b i ha _ X [] i rfl hi (by simp; omega) (by simpa using hs) (by simp) (fun x hx' => hc x hx' y (by simp)) fun X' hp hs' => ?_
    have hl : X'.length = X.length + 1 := by have := hp.length_eq; simpa using this
    have h1 := ih X' (i + 1) b (by omega) (by omega) (by omega) hs' (fun x hx' q hq => by
      rcases List.mem_append.1 (hp.mem_iff.1 hx') with h | h
      · exact hc x h q (by simp [hq])
      · simp at h; subst h; exact (List.pairwise_cons.1 hy).1 q hq) (List.pairwise_cons.1 hy).2
    rw [show wrap64 ((i : Int) + 1) = ((i + 1 : Nat) : Int) from by have := addW i 1 (i + 1) rfl (by omega); simpa using this]
    refine Run.imp h1 fun r hr => ?_
    obtain ⟨Z, h2, h3, h4⟩ := hr
    refine ⟨Z, h2, h3.trans ?_, h4⟩
    have := List.Perm.append_right Y hp
    simpa using this
theorem insertion {key : Int → Int} {cmp : Int → Int → Option Int} (P Y S : List Int) (a b : Nat) (ha : a = P.length) (hb : b = P.length + Y.length) (hx : P.length + Y.length + S.length ≤ 400000) (hy : Y.Pairwise (Cok key cmp)) :
    Run (fun k => slices_insertionSortCmpFunc_int.f k (P ++ (Y ++ S)) a b cmp) (Seg key P Y S) := by
  unfold slices_insertionSortCmpFunc_int.f
  rw [show wrap64 ((a : Int) + 1) = ((a + 1 : Nat) : Int) from by have := addW a 1 (a + 1) rfl (by omega); simpa using this]
  cases Y with
  | nil => exact Run.step (fun k => by rw [slices_insertionSortCmpFunc_int.l0]) (Run.neg (by simp at hb; omega) (Run.ret ⟨[], by simp, by simp, by simp⟩))
  | cons y Y =>
    have := ins0 (key := key) (cmp := cmp) P S a ha Y [y] (a + 1) b (by simp; omega) (by simp at hb ⊢; omega) (by simp at hx ⊢; omega) (by simp) (fun x hx' q hq => by simp at hx'; subst hx'; exact (List.pairwise_cons.1 hy).1 q hq) (List.pairwise_cons.1 hy).2
    simpa using this
end Go.Proofs.YtcjpojppbmlfaaaDoor.Pure
set_option linter.unusedVariables false
set_option linter.unusedSimpArgs false
namespace Go.Proofs.YtcjpojppbmlfaaaDoor.Pure
open Go.RowKit Go.Proofs.YtcjpojppbmlfaaaDoor.Pr Go.Proofs.YtcjpojppbmlfaaaDoorW.PrintWords Go.Proofs.YtcjpojppbmlfaaaDoorW.PrintLast Go.Proofs.YtcjpojppbmlfaaaDoorW.PrintMore
theorem half (i j c : Nat) (h : c = (i + j) / 2) (hx : i + j ≤ 4000000) : wrap64 ((IntKind.u64.wrap (wrap64 ((i : Int) + (j : Int)))) / 2) = (c : Int) := by
  rw [addW i j (i + j) rfl hx]
  have e : IntKind.u64.wrap ((i + j : Nat) : Int) = ((i + j : Nat) : Int) := by
    rw [IntKind.wrap_u64]; omega
  rw [e]
  exact w64n (by omega) (by omega)
theorem srt {key : Int → Int} {Y : List Int} (h : Y.Pairwise (bt key)) {i j : Nat} {u v : Int} (hi : Y[i]? = some u) (hj : Y[j]? = some v) (hij : i < j) : bt key u v := by
  rw [List.pairwise_iff_getElem] at h
  obtain ⟨h1, rfl⟩ := List.getElem?_eq_some_iff.1 hi
  obtain ⟨h2, rfl⟩ := List.getElem?_eq_some_iff.1 hj
  exact h i j h1 h2 hij
theorem take_bt {key : Int → Int} {Y : List Int} (h : Y.Pairwise (bt key)) {p : Nat} {u x : Int} (hp : 0 < p) (hu : Y[p - 1]? = some u) (hx : bt key u x) : ∀ z ∈ Y.take p, bt key z x := by
  intro z hz
  obtain ⟨j, hj⟩ := List.getElem?_of_mem hz
  rw [List.getElem?_take] at hj
  split at hj
  · by_cases e : j = p - 1
    · subst e; rw [hu] at hj; cases hj; exact hx
    · exact bt_trans (srt h hj hu (by omega)) hx
  · cases hj
theorem drop_bt {key : Int → Int} {Y : List Int} (h : Y.Pairwise (bt key)) {q : Nat} {u x : Int} (hu : Y[q]? = some u) (hx : bt key x u) : ∀ z ∈ Y.drop q, bt key x z := by
  intro z hz
  obtain ⟨j, hj⟩ := List.getElem?_of_mem hz
  rw [List.getElem?_drop] at hj
  by_cases e : j = 0
  · subst e; rw [Nat.add_zero, hu] at hj; cases hj; exact hx
  · exact bt_trans hx (srt h hu hj (by omega))
theorem splitAt {Y : List Int} {p : Nat} (h : p < Y.length) : ∃ A y B, Y = A ++ y :: B ∧ A.length = p ∧ Y[p]? = some y := ⟨Y.take p, Y[p], Y.drop (p + 1), by simp, by simp; omega, by simp [h]⟩
theorem shiftR : ∀ (Y P T : List Int) (x : Int) (i p : Nat), p = P.length → i = P.length + Y.length + 1 → P.length + Y.length + T.length ≤ 400000 → Ev (fun k => slices_symMergeCmpFunc_int.l1 k (P ++ x :: (Y ++ T)) i p) (P ++ (Y ++ x :: T)) := by
  intro Y
  induction Y with
  | nil =>
    intro P T x i p hp hi hx
    refine Ev.step (fun k => by rw [slices_symMergeCmpFunc_int.l1]) ?_
    rw [show wrap64 ((i : Int) - 1) = ((i - 1 : Nat) : Int) from by have := subW i 1 (i - 1) (by omega) (by simp at hi hx; omega); simpa using this]
    exact evElse (by simp at hi; omega) (evNow (by simp))
  | cons y Y ih =>
    intro P T x i p hp hi hx
    simp only [List.length_cons] at hi hx
    have h0 := ih (P ++ [y]) T x i (p + 1) (by simp; omega) (by simp; omega) (by simp; omega)
    have hl : (P ++ x :: (y :: Y ++ T)).length = P.length + Y.length + T.length + 2 := by simp; omega
    have c1 : (p : Int) < ((i - 1 : Nat) : Int) := by omega
    have c2 : (0 : Int) ≤ ((p + 1 : Nat) : Int) := by omega
    have c3 : ((p + 1 : Nat) : Int) < (((P ++ x :: (y :: Y ++ T)).length : Nat) : Int) := by rw [hl]; omega
    have c4 : (0 : Int) ≤ (p : Int) := by omega
    have c5 : (p : Int) < (((P ++ x :: (y :: Y ++ T)).length : Nat) : Int) := by rw [hl]; omega
    have hi1 : i ≤ 400001 := by omega
    have hi2 : i = i - 1 + 1 := by omega
    have hp1 : p ≤ 400000 := by omega
    have hp2 : ((p + 1 : Nat) : Int) = (((P ++ [x]).length : Nat) : Int) := by simp; omega
    have hp3 : (p : Int) = ((P.length : Nat) : Int) := by omega
    have hp4 : ((p + 1 : Nat) : Int) = (((P ++ [y]).length : Nat) : Int) := by simp; omega
    have r1 : rd (P ++ x :: (y :: Y ++ T)) ((p + 1 : Nat) : Int) = y := by
      rw [show P ++ x :: (y :: Y ++ T) = (P ++ [x]) ++ y :: (Y ++ T) by simp]; exact rdAt _ _ _ _ hp2
    have r2 : rd (P ++ x :: (y :: Y ++ T)) (p : Int) = x := rdAt _ _ _ _ hp3
    have s1 : (P ++ x :: (y :: Y ++ T)).set (p : Int).toNat y = P ++ y :: (y :: Y ++ T) := setAt _ _ _ _ _ hp3
    have s2 : (P ++ y :: (y :: Y ++ T)).set ((p + 1 : Nat) : Int).toNat x = (P ++ [y]) ++ x :: (Y ++ T) := by
      rw [show P ++ y :: (y :: Y ++ T) = (P ++ [y]) ++ y :: (Y ++ T) by simp]; exact setAt _ _ _ _ _ hp4
    refine Ev.step (fun k => by rw [slices_symMergeCmpFunc_int.l1]) ?_
    rw [show wrap64 ((i : Int) - 1) = ((i - 1 : Nat) : Int) from by have := subW i 1 (i - 1) hi2 (Nat.le_trans (Nat.sub_le _ _) (Nat.le_trans hi1 (by decide))); simpa using this,
      show wrap64 ((p : Int) + 1) = ((p + 1 : Nat) : Int) from by have := addW p 1 (p + 1) rfl (Nat.le_trans (Nat.succ_le_succ hp1) (by decide)); simpa using this, r1, r2, s1, s2]
    refine evIf c1 (evIf c2 (evIf c3 (evIf c4 (evIf c5 ?_))))
    simpa using h0
theorem shiftL : ∀ (n : Nat) (Y P T : List Int) (x : Int) (i p : Nat), Y.length = n → i = P.length → p = P.length + Y.length → P.length + Y.length + T.length ≤ 400000 → Ev (fun k => slices_symMergeCmpFunc_int.l3 k (P ++ (Y ++ x :: T)) i p) (P ++ (x :: Y ++ T)) := by
  intro n
  induction n with
  | zero =>
    intro Y P T x i p hn hi hp hx
    obtain rfl := List.eq_nil_of_length_eq_zero hn
    exact Ev.step (fun k => by rw [slices_symMergeCmpFunc_int.l3]) (evElse (by simp at hp; omega) (evNow (by simp)))
  | succ n ih =>
    intro Y P T x i p hn hi hp hx
    obtain rfl | ⟨Y, y, rfl⟩ := List.eq_nil_or_concat Y
    · simp at hn
    simp only [List.concat_eq_append] at *
    simp only [List.length_append, List.length_singleton] at hn hp hx
    have h0 := ih Y P (y :: T) x i (p - 1) (by omega) hi (by omega) (by simp; omega)
    have hl : (P ++ (Y ++ [y] ++ x :: T)).length = P.length + Y.length + T.length + 2 := by simp; omega
    have c1 : (p : Int) > (i : Int) := by omega
    have c2 : (0 : Int) ≤ ((p - 1 : Nat) : Int) := by omega
    have c3 : ((p - 1 : Nat) : Int) < (((P ++ (Y ++ [y] ++ x :: T)).length : Nat) : Int) := by rw [hl]; omega
    have c4 : (0 : Int) ≤ (p : Int) := by omega
    have c5 : (p : Int) < (((P ++ (Y ++ [y] ++ x :: T)).length : Nat) : Int) := by rw [hl]; omega
    have hp1 : p - 1 ≤ 4000000 := by omega
    have hp2 : (p : Int) = (((P ++ (Y ++ [y])).length : Nat) : Int) := by simp; omega
    have hp3 : ((p - 1 : Nat) : Int) = (((P ++ Y).length : Nat) : Int) := by simp; omega
    have hp4 : p = p - 1 + 1 := by omega
    have r1 : rd (P ++ (Y ++ [y] ++ x :: T)) (p : Int) = x := by
      rw [show P ++ (Y ++ [y] ++ x :: T) = (P ++ (Y ++ [y])) ++ x :: T by simp]; exact rdAt _ _ _ _ hp2
    have r2 : rd (P ++ (Y ++ [y] ++ x :: T)) ((p - 1 : Nat) : Int) = y := by
      rw [show P ++ (Y ++ [y] ++ x :: T) = (P ++ Y) ++ y :: (x :: T) by simp]; exact rdAt _ _ _ _ hp3
    have s1 : (P ++ (Y ++ [y] ++ x :: T)).set (p : Int).toNat y = (P ++ Y) ++ y :: (y :: T) := by
      rw [show P ++ (Y ++ [y] ++ x :: T) = (P ++ (Y ++ [y])) ++ x :: T by simp, setAt _ _ _ _ _ hp2]; simp
    have s2 : ((P ++ Y) ++ y :: (y :: T)).set ((p - 1 : Nat) : Int).toNat x = P ++ (Y ++ x :: (y :: T)) := by
      rw [setAt _ _ _ _ _ hp3]; simp
    refine Ev.step (fun k => by rw [slices_symMergeCmpFunc_int.l3]) ?_
    rw [show wrap64 ((p : Int) - 1) = ((p - 1 : Nat) : Int) from by have := subW p 1 (p - 1) hp4 hp1; simpa using this, r1, r2, s1, s2]
    refine evIf c1 (evIf c2 (evIf c3 (evIf c4 (evIf c5 ?_))))
    simpa using h0
end Go.Proofs.YtcjpojppbmlfaaaDoor.Pure
set_option linter.unusedVariables false
set_option linter.unusedSimpArgs false
namespace Go.Proofs.YtcjpojppbmlfaaaDoor.Pure
open Go.RowKit Go.Proofs.YtcjpojppbmlfaaaDoor.Pr Go.Proofs.YtcjpojppbmlfaaaDoorW.PrintWords Go.Proofs.YtcjpojppbmlfaaaDoorW.PrintLast Go.Proofs.YtcjpojppbmlfaaaDoorW.PrintMore
theorem merge1 {key : Int → Int} {cmp : Int → Int → Option Int} (P Y S : List Int) (x : Int) (a : Nat) (ha : a = P.length) (hx : P.length + Y.length + S.length ≤ 400000) (hs : Y.Pairwise (bt key)) (hc : ∀ y ∈ Y, Cok key cmp x y) :
    ∀ (d p q i j : Nat), q - p ≤ d → p ≤ q → q ≤ Y.length → i = a + 1 + p → j = a + 1 + q → (p = 0 ∨ ∃ u, Y[p - 1]? = some u ∧ bt key u x) → (q = Y.length ∨ ∃ u, Y[q]? = some u ∧ bt key x u) →
    Run (fun k => slices_symMergeCmpFunc_int.l0 k (P ++ x :: (Y ++ S)) a cmp i j) (Seg key P (x :: Y) S) := by
  have fin : ∀ (p i j : Nat), p ≤ Y.length → i = a + 1 + p → j = i → (p = 0 ∨ ∃ u, Y[p - 1]? = some u ∧ bt key u x) → (p = Y.length ∨ ∃ u, Y[p]? = some u ∧ bt key x u) → Run (fun k => slices_symMergeCmpFunc_int.l0 k (P ++ x :: (Y ++ S)) a cmp i j) (Seg key P (x :: Y) S) := by
    intro p i j hp hi hj lo hi'
    have h0 := shiftR (Y.take p) P (Y.drop p ++ S) x i a ha (by simp; omega) (by simp; omega)
    refine Run.step (fun k => by rw [slices_symMergeCmpFunc_int.l0]) (Run.neg (by omega) ?_)
    rw [show P ++ x :: (Y ++ S) = P ++ x :: (Y.take p ++ (Y.drop p ++ S)) by rw [← List.append_assoc, List.take_append_drop]]
    refine ⟨_, h0, Y.take p ++ x :: Y.drop p, by simp, ?_, ?_⟩
    · have := List.perm_middle (a := x) (l₁ := Y.take p) (l₂ := Y.drop p)
      rwa [List.take_append_drop] at this
    · have e := List.take_append_drop p Y
      rw [← e] at hs
      rw [List.pairwise_append] at hs ⊢
      obtain ⟨h1, h2, h3⟩ := hs
      have hlo : ∀ z ∈ Y.take p, bt key z x := by
        rcases lo with rfl | ⟨u, hu, hux⟩
        · intro z hz; simp at hz
        · by_cases h0 : p = 0
          · subst h0; intro z hz; simp at hz
          · exact take_bt (by rw [← e, List.pairwise_append]; exact ⟨h1, h2, h3⟩) (by omega) hu hux
      have hhi : ∀ z ∈ Y.drop p, bt key x z := by
        rcases hi' with rfl | ⟨u, hu, hux⟩
        · intro z hz; simp at hz
        · exact drop_bt (by rw [← e, List.pairwise_append]; exact ⟨h1, h2, h3⟩) hu hux
      refine ⟨h1, List.pairwise_cons.2 ⟨hhi, h2⟩, fun p' hp' q' hq' => ?_⟩
      rcases List.mem_cons.1 hq' with rfl | h
      · exact hlo p' hp'
      · exact h3 p' hp' q' h
  intro d
  induction d with
  | zero =>
    intro p q i j hd hpq hq hi hj lo hi'
    obtain rfl : p = q := by omega
    exact fin p i j hq hi (by omega) lo hi'
  | succ d ih =>
    intro p q i j hd hpq hq hi hj lo hi'
    by_cases hlt : p < q
    case neg =>
      obtain rfl : p = q := by omega
      exact fin p i j hq hi (by omega) lo hi'
    obtain ⟨h, hh⟩ : ∃ h, h = (i + j) / 2 := ⟨_, rfl⟩
    obtain ⟨t, ht⟩ : ∃ t, h = a + 1 + t := ⟨h - (a + 1), by omega⟩
    have ht1 : p ≤ t := by omega
    have ht2 : t < q := by omega
    obtain ⟨A, y, B, hY, hA, hg⟩ := splitAt (Y := Y) (p := t) (by omega)
    obtain ⟨c, hcm, hc1, hc2⟩ := hc y (List.mem_of_getElem? hg)
    have lo2 : t + 1 - 1 = t := by omega
    have up := fun hb : bt key y x => ih (t + 1) q (h + 1) j (by omega) (by omega) hq (by omega) hj (.inr ⟨y, by rw [lo2]; exact hg, hb⟩) hi'
    have dn := fun hb : bt key x y => ih p t i h (by omega) ht1 (by omega) hi ht lo (.inr ⟨y, hg, hb⟩)
    have hl : (P ++ x :: (Y ++ S)).length = P.length + Y.length + S.length + 1 := by simp; omega
    have c1 : (i : Int) < (j : Int) := by omega
    have c2 : (0 : Int) ≤ (h : Int) := by omega
    have c3 : (h : Int) < (((P ++ x :: (Y ++ S)).length : Nat) : Int) := by rw [hl]; omega
    have c4 : (0 : Int) ≤ (a : Int) := by omega
    have c5 : (a : Int) < (((P ++ x :: (Y ++ S)).length : Nat) : Int) := by rw [hl]; omega
    have q1 : (h : Int) = (((P ++ x :: A).length : Nat) : Int) := by simp; omega
    have q2 : (a : Int) = ((P.length : Nat) : Int) := by omega
    have q3 : i + j ≤ 4000000 := by omega
    have q4 : h + 1 ≤ 4000000 := by omega
    have r1 : rd (P ++ x :: (Y ++ S)) (h : Int) = y := by
      rw [hY, show P ++ x :: (A ++ y :: B ++ S) = (P ++ x :: A) ++ y :: (B ++ S) by simp]; exact rdAt _ _ _ _ q1
    have r2 : rd (P ++ x :: (Y ++ S)) (a : Int) = x := rdAt _ _ _ _ q2
    refine Run.step (fun k => by rw [slices_symMergeCmpFunc_int.l0]) ?_
    rw [half i j h hh q3, r1, r2, show wrap64 ((h : Int) + 1) = ((h + 1 : Nat) : Int) from by have := addW h 1 (h + 1) rfl q4; simpa using this]
    exact Run.pos c1 (Run.pos c2 (Run.pos c3 (Run.pos c4 (Run.pos c5 (Run.constBind hcm (Run.ite (fun hn => up (hc1 hn)) (fun hn => dn (hc2 hn))))))))
theorem merge2 {key : Int → Int} {cmp : Int → Int → Option Int} (P Y S : List Int) (x : Int) (a m : Nat) (ha : a = P.length) (hm : m = P.length + Y.length) (hx : P.length + Y.length + S.length ≤ 400000) (hs : Y.Pairwise (bt key)) (hc : ∀ y ∈ Y, Cok key cmp y x) :
    ∀ (d p q i j : Nat), q - p ≤ d → p ≤ q → q ≤ Y.length → i = a + p → j = a + q → (p = 0 ∨ ∃ u, Y[p - 1]? = some u ∧ bt key u x) → (q = Y.length ∨ ∃ u, Y[q]? = some u ∧ bt key x u) →
    Run (fun k => slices_symMergeCmpFunc_int.l2 k (P ++ (Y ++ x :: S)) m cmp i j) (Seg key P (Y ++ [x]) S) := by
  have fin : ∀ (p i j : Nat), p ≤ Y.length → i = a + p → j = i → (p = 0 ∨ ∃ u, Y[p - 1]? = some u ∧ bt key u x) → (p = Y.length ∨ ∃ u, Y[p]? = some u ∧ bt key x u) → Run (fun k => slices_symMergeCmpFunc_int.l2 k (P ++ (Y ++ x :: S)) m cmp i j) (Seg key P (Y ++ [x]) S) := by
    intro p i j hp hi hj lo hi'
    have h0 := shiftL _ (Y.drop p) (P ++ Y.take p) S x i m rfl (by simp; omega) (by simp; omega) (by simp; omega)
    refine Run.step (fun k => by rw [slices_symMergeCmpFunc_int.l2]) (Run.neg (by omega) ?_)
    rw [show P ++ (Y ++ x :: S) = (P ++ Y.take p) ++ (Y.drop p ++ x :: S) by rw [List.append_assoc, ← List.append_assoc (Y.take p), List.take_append_drop]]
    refine ⟨_, h0, Y.take p ++ x :: Y.drop p, by simp, ?_, ?_⟩
    · have h1 := List.perm_middle (a := x) (l₁ := Y.take p) (l₂ := Y.drop p)
      rw [List.take_append_drop] at h1
      exact h1.trans (List.perm_append_singleton x Y).symm
    · have e := List.take_append_drop p Y
      rw [← e] at hs
      rw [List.pairwise_append] at hs ⊢
      obtain ⟨h1, h2, h3⟩ := hs
      have hlo : ∀ z ∈ Y.take p, bt key z x := by
        rcases lo with rfl | ⟨u, hu, hux⟩
        · intro z hz; simp at hz
        · by_cases h0 : p = 0
          · subst h0; intro z hz; simp at hz
          · exact take_bt (by rw [← e, List.pairwise_append]; exact ⟨h1, h2, h3⟩) (by omega) hu hux
      have hhi : ∀ z ∈ Y.drop p, bt key x z := by
        rcases hi' with rfl | ⟨u, hu, hux⟩
        · intro z hz; simp at hz
        · exact drop_bt (by rw [← e, List.pairwise_append]; exact ⟨h1, h2, h3⟩) hu hux
      refine ⟨h1, List.pairwise_cons.2 ⟨hhi, h2⟩, fun p' hp' q' hq' => ?_⟩
      rcases List.mem_cons.1 hq' with rfl | h
      · exact hlo p' hp'
      · exact h3 p' hp' q' h
  intro d
  induction d with
  | zero =>
    intro p q i j hd hpq hq hi hj lo hi'
    obtain rfl : p = q := by omega
    exact fin p i j hq hi (by omega) lo hi'
  | succ d ih =>
    intro p q i j hd hpq hq hi hj lo hi'
    by_cases hlt : p < q
    case neg =>
      obtain rfl : p = q := by omega
      exact fin p i j hq hi (by omega) lo hi'
    obtain ⟨h, hh⟩ : ∃ h, h = (i + j) / 2 := ⟨_, rfl⟩
    obtain ⟨t, ht⟩ : ∃ t, h = a + t := ⟨h - a, by omega⟩
    have ht1 : p ≤ t := by omega
    have ht2 : t < q := by omega
    obtain ⟨A, y, B, hY, hA, hg⟩ := splitAt (Y := Y) (p := t) (by omega)
    obtain ⟨c, hcm, hc1, hc2⟩ := hc y (List.mem_of_getElem? hg)
    have lo2 : t + 1 - 1 = t := by omega
    have up := fun hb : bt key y x => ih (t + 1) q (h + 1) j (by omega) (by omega) hq (by omega) hj (.inr ⟨y, by rw [lo2]; exact hg, hb⟩) hi'
    have dn := fun hb : bt key x y => ih p t i h (by omega) ht1 (by omega) hi ht lo (.inr ⟨y, hg, hb⟩)
    have hl : (P ++ (Y ++ x :: S)).length = P.length + Y.length + S.length + 1 := by simp; omega
    have c1 : (i : Int) < (j : Int) := by omega
    have c2 : (0 : Int) ≤ (m : Int) := by omega
    have c3 : (m : Int) < (((P ++ (Y ++ x :: S)).length : Nat) : Int) := by rw [hl]; omega
    have c4 : (0 : Int) ≤ (h : Int) := by omega
    have c5 : (h : Int) < (((P ++ (Y ++ x :: S)).length : Nat) : Int) := by rw [hl]; omega
    have q1 : (h : Int) = (((P ++ A).length : Nat) : Int) := by simp; omega
    have q2 : (m : Int) = (((P ++ Y).length : Nat) : Int) := by simp; omega
    have q3 : i + j ≤ 4000000 := by omega
    have q4 : h + 1 ≤ 4000000 := by omega
    have r1 : rd (P ++ (Y ++ x :: S)) (h : Int) = y := by
      rw [hY, show P ++ (A ++ y :: B ++ x :: S) = (P ++ A) ++ y :: (B ++ x :: S) by simp]; exact rdAt _ _ _ _ q1
    have r2 : rd (P ++ (Y ++ x :: S)) (m : Int) = x := by rw [← List.append_assoc]; exact rdAt _ _ _ _ q2
    refine Run.step (fun k => by rw [slices_symMergeCmpFunc_int.l2]) ?_
    rw [half i j h hh q3, r1, r2, show wrap64 ((h : Int) + 1) = ((h + 1 : Nat) : Int) from by have := addW h 1 (h + 1) rfl q4; simpa using this]
    exact Run.pos c1 (Run.pos c2 (Run.pos c3 (Run.pos c4 (Run.pos c5 (Run.constBind hcm (Run.ite (fun hn => dn (hc1 hn)) (fun hn => up (hc2 hn))))))))
end Go.Proofs.YtcjpojppbmlfaaaDoor.Pure
set_option linter.unusedVariables false
set_option linter.unusedSimpArgs false
namespace Go.Proofs.YtcjpojppbmlfaaaDoor.Pure
open Go.RowKit Go.Proofs.YtcjpojppbmlfaaaDoor.Pr Go.Proofs.YtcjpojppbmlfaaaDoorW.PrintWords Go.Proofs.YtcjpojppbmlfaaaDoorW.PrintLast Go.Proofs.YtcjpojppbmlfaaaDoorW.PrintMore
def MOk (key : Int → Int) (cmp : Int → Int → Option Int) (N : Nat) : Prop := ∀ (X Y P S : List Int) (a m b : Nat), X.length + Y.length ≤ N → 0 < X.length → 0 < Y.length → a = P.length → m = P.length + X.length → b = P.length + X.length + Y.length →
  P.length + X.length + Y.length + S.length ≤ 400000 → X.Pairwise (bt key) → Y.Pairwise (bt key) → (∀ x ∈ X, ∀ y ∈ Y, Cok key cmp x y) → Run (fun k => slices_symMergeCmpFunc_int.f k (P ++ (X ++ (Y ++ S))) a m b cmp) (Seg key P (X ++ Y) S)
theorem comb {key : Int → Int} {P X1 X2 Z1 S r : List Int} (h1 : Z1.Perm X1) (s1 : Z1.Pairwise (bt key)) (hc : ∀ x ∈ X1, ∀ y ∈ X2, bt key x y) (h : Seg key (P ++ Z1) X2 S r) : Seg key P (X1 ++ X2) S r := by
  obtain ⟨Z2, e, h2, s2⟩ := h
  refine ⟨Z1 ++ Z2, by rw [e]; simp, h1.append h2, ?_⟩
  rw [List.pairwise_append]
  exact ⟨s1, s2, fun x hx y hy => hc x (h1.mem_iff.1 hx) y (h2.mem_iff.1 hy)⟩
theorem ph2 {key : Int → Int} {cmp : Int → Int → Option Int} {N : Nat} (IH : MOk key cmp N) (P X Y S : List Int) (a m b : Nat) (hN : X.length + Y.length ≤ N) (ha : a = P.length) (hm : m = P.length + X.length) (hb : b = P.length + X.length + Y.length)
    (hx : P.length + X.length + Y.length + S.length ≤ 400000) (sX : X.Pairwise (bt key)) (sY : Y.Pairwise (bt key)) (hc : ∀ x ∈ X, ∀ y ∈ Y, Cok key cmp x y) :
    Run (fun k => if (a : Int) < (m : Int) then (if (m : Int) < (b : Int) then ((slices_symMergeCmpFunc_int.f k (P ++ (X ++ (Y ++ S))) a m b cmp).bind fun t => some t) else some (P ++ (X ++ (Y ++ S)))) else some (P ++ (X ++ (Y ++ S)))) (Seg key P (X ++ Y) S) := by
  refine Run.ite (fun h1 => Run.ite (fun h2 => ?_) (fun h2 => ?_)) (fun h1 => ?_)
  · exact Run.bind (IH X Y P S a m b hN (by omega) (by omega) ha hm hb hx sX sY hc) fun r hr => Run.ret hr
  · obtain rfl : Y = [] := List.eq_nil_of_length_eq_zero (by omega)
    exact Run.ret ⟨X, by simp, by simp, sX⟩
  · obtain rfl : X = [] := List.eq_nil_of_length_eq_zero (by omega)
    exact Run.ret ⟨Y, by simp, by simp, sY⟩
theorem tail8 {key : Int → Int} {cmp : Int → Int → Option Int} {N : Nat} (IH : MOk key cmp N) (P X1 Y1 X2 Y2 S : List Int) (a s mid e b : Nat) (fl : Bool) (hfl : fl = true ↔ (0 < X1.length ∧ 0 < Y1.length)) (hN1 : X1.length + Y1.length ≤ N) (hN2 : X2.length + Y2.length ≤ N)
    (ha : a = P.length) (hs : s = a + X1.length) (hmid : mid = s + Y1.length) (he : e = mid + X2.length) (hb : b = e + Y2.length) (hx : b + S.length ≤ 400000)
    (s1 : X1.Pairwise (bt key)) (s2 : Y1.Pairwise (bt key)) (s3 : X2.Pairwise (bt key)) (s4 : Y2.Pairwise (bt key)) (c1 : ∀ x ∈ X1, ∀ y ∈ Y1, Cok key cmp x y) (c2 : ∀ x ∈ X2, ∀ y ∈ Y2, Cok key cmp x y) (hc : ∀ x ∈ X1 ++ Y1, ∀ y ∈ X2 ++ Y2, bt key x y) :
    Run (fun k => slices_symMergeCmpFunc_int.j8 k (P ++ (X1 ++ (Y1 ++ (X2 ++ (Y2 ++ S))))) a b cmp mid s e fl) (Seg key P ((X1 ++ Y1) ++ (X2 ++ Y2)) S) := by
  refine Run.step (fun k => by rw [slices_symMergeCmpFunc_int.j8]) (Run.ite (fun h => ?_) (fun h => ?_))
  · obtain ⟨h1, h2⟩ := hfl.1 h
    refine Run.bind (IH X1 Y1 P (X2 ++ (Y2 ++ S)) a s mid hN1 h1 h2 ha (by omega) (by omega) (by simp; omega) s1 s2 c1) fun r hr => ?_
    obtain ⟨Z1, rfl, p1, q1⟩ := hr
    have hl : Z1.length = X1.length + Y1.length := by have := p1.length_eq; simpa using this
    have h3 := ph2 IH (P ++ Z1) X2 Y2 S mid e b hN2 (by simp; omega) (by simp; omega) (by simp; omega) (by simp; omega) s3 s4 c2
    simp only [List.append_assoc] at h3
    exact Run.imp h3 fun r hr => comb p1 q1 hc hr
  · have hz : (X1 ++ Y1).Pairwise (bt key) := by
      by_cases h1 : X1.length = 0
      · obtain rfl := List.eq_nil_of_length_eq_zero h1; simpa using s2
      · have h2 : Y1.length = 0 := by
          by_cases h2 : Y1.length = 0
          · exact h2
          · exact absurd (hfl.2 ⟨by omega, by omega⟩) h
        obtain rfl := List.eq_nil_of_length_eq_zero h2; simpa using s1
    have h3 := ph2 IH (P ++ (X1 ++ Y1)) X2 Y2 S mid e b hN2 (by simp; omega) (by simp; omega) (by simp; omega) (by simp; omega) s3 s4 c2
    have h4 := Run.imp h3 fun r hr => comb (List.Perm.refl (X1 ++ Y1)) hz hc hr
    simp only [List.append_assoc] at h4 ⊢
    exact h4
theorem tail7 {key : Int → Int} {cmp : Int → Int → Option Int} {N : Nat} (IH : MOk key cmp N) (P X1 Y1 X2 Y2 S : List Int) (a s mid e b : Nat) (hN1 : X1.length + Y1.length ≤ N) (hN2 : X2.length + Y2.length ≤ N)
    (ha : a = P.length) (hs : s = a + X1.length) (hmid : mid = s + Y1.length) (he : e = mid + X2.length) (hb : b = e + Y2.length) (hx : b + S.length ≤ 400000)
    (s1 : X1.Pairwise (bt key)) (s2 : Y1.Pairwise (bt key)) (s3 : X2.Pairwise (bt key)) (s4 : Y2.Pairwise (bt key)) (c1 : ∀ x ∈ X1, ∀ y ∈ Y1, Cok key cmp x y) (c2 : ∀ x ∈ X2, ∀ y ∈ Y2, Cok key cmp x y) (hc : ∀ x ∈ X1 ++ Y1, ∀ y ∈ X2 ++ Y2, bt key x y) :
    Run (fun k => slices_symMergeCmpFunc_int.j7 k (P ++ (X1 ++ (Y1 ++ (X2 ++ (Y2 ++ S))))) a b cmp mid s e) (Seg key P ((X1 ++ Y1) ++ (X2 ++ Y2)) S) := by
  refine Run.step (fun k => by rw [slices_symMergeCmpFunc_int.j7]) (Run.ite (fun h => ?_) (fun h => ?_))
  · exact tail8 IH P X1 Y1 X2 Y2 S a s mid e b _ (by rw [decide_eq_true_iff]; omega) hN1 hN2 ha hs hmid he hb hx s1 s2 s3 s4 c1 c2 hc
  · exact tail8 IH P X1 Y1 X2 Y2 S a s mid e b _ (by simp; omega) hN1 hN2 ha hs hmid he hb hx s1 s2 s3 s4 c1 c2 hc
theorem tail6 {key : Int → Int} {cmp : Int → Int → Option Int} {N : Nat} (IH : MOk key cmp N) (P X1 Y1 X2 Y2 S : List Int) (a m s mid e b : Nat) (fl : Bool) (hfl : fl = true ↔ (0 < X2.length ∧ 0 < Y1.length)) (hN1 : X1.length + Y1.length ≤ N) (hN2 : X2.length + Y2.length ≤ N)
    (ha : a = P.length) (hs : s = a + X1.length) (hm : m = s + X2.length) (hmid : mid = s + Y1.length) (he : e = mid + X2.length) (hb : b = e + Y2.length) (hx : b + S.length ≤ 400000)
    (s1 : X1.Pairwise (bt key)) (s2 : Y1.Pairwise (bt key)) (s3 : X2.Pairwise (bt key)) (s4 : Y2.Pairwise (bt key)) (c1 : ∀ x ∈ X1, ∀ y ∈ Y1, Cok key cmp x y) (c2 : ∀ x ∈ X2, ∀ y ∈ Y2, Cok key cmp x y) (hc : ∀ x ∈ X1 ++ Y1, ∀ y ∈ X2 ++ Y2, bt key x y) :
    Run (fun k => slices_symMergeCmpFunc_int.j6 k (P ++ (X1 ++ (X2 ++ (Y1 ++ (Y2 ++ S))))) a m b cmp mid s e fl) (Seg key P ((X1 ++ Y1) ++ (X2 ++ Y2)) S) := by
  have h7 := tail7 IH P X1 Y1 X2 Y2 S a s mid e b hN1 hN2 ha hs hmid he hb hx s1 s2 s3 s4 c1 c2 hc
  refine Run.step (fun k => by rw [slices_symMergeCmpFunc_int.j6]) (Run.ite (fun h => ?_) (fun h => ?_))
  · obtain ⟨h1, h2⟩ := hfl.1 h
    have hr := rotate cmp X2 Y1 (P ++ X1) (Y2 ++ S) h1 h2 (by simp; omega) s m e (by simp; omega) (by simp; omega) (by simp; omega)
    simp only [List.append_assoc] at hr
    exact Run.evBind hr h7
  · have e1 : X2 ++ (Y1 ++ (Y2 ++ S)) = Y1 ++ (X2 ++ (Y2 ++ S)) := by
      by_cases h1 : X2.length = 0
      · obtain rfl := List.eq_nil_of_length_eq_zero h1; simp
      · have h2 : Y1.length = 0 := by
          by_cases h2 : Y1.length = 0
          · exact h2
          · exact absurd (hfl.2 ⟨by omega, by omega⟩) h
        obtain rfl := List.eq_nil_of_length_eq_zero h2; simp
    rw [e1]; exact h7
end Go.Proofs.YtcjpojppbmlfaaaDoor.Pure
set_option linter.unusedVariables false
set_option linter.unusedSimpArgs false
namespace Go.Proofs.YtcjpojppbmlfaaaDoor.Pure
open Go.RowKit Go.Proofs.YtcjpojppbmlfaaaDoor.Pr Go.Proofs.YtcjpojppbmlfaaaDoorW.PrintWords Go.Proofs.YtcjpojppbmlfaaaDoorW.PrintLast Go.Proofs.YtcjpojppbmlfaaaDoorW.PrintMore
theorem search4 {key : Int → Int} {cmp : Int → Int → Option Int} {N : Nat} (IH : MOk key cmp N) (P X Y S : List Int) (a m b mid n s0 r0 pp : Nat) (hN : X.length + Y.length ≤ N + 1) (ha : a = P.length) (hm : m = a + X.length) (hb : b = m + Y.length) (hmid : mid = (a + b) / 2) (hn : n = mid + m) (hpp : pp + 1 = n)
    (h2X : 0 < X.length) (h2Y : 0 < Y.length) (hx : b + S.length ≤ 400000) (sX : X.Pairwise (bt key)) (sY : Y.Pairwise (bt key)) (hc : ∀ x ∈ X, ∀ y ∈ Y, Cok key cmp x y)
    (hs0 : s0 = a ∨ s0 + b = n) (hs1 : a ≤ s0) (hs2 : n ≤ s0 + b) (hr0 : r0 = m ∨ r0 = mid) (hr1 : r0 ≤ m) (hr2 : r0 ≤ mid) (hbig : 2 < X.length + Y.length) :
    ∀ (d s r : Nat), r - s ≤ d → s ≤ r → s0 ≤ s → r ≤ r0 → (s = s0 ∨ ∃ u v, 0 < s - a ∧ X[s - a - 1]? = some u ∧ Y[mid - s]? = some v ∧ bt key u v) → (r = r0 ∨ ∃ u v, 0 < mid - r ∧ X[r - a]? = some u ∧ Y[mid - r - 1]? = some v ∧ bt key v u) →
    Run (fun k => slices_symMergeCmpFunc_int.l4 k (P ++ (X ++ (Y ++ S))) a m b cmp mid n s r pp) (Seg key P (X ++ Y) S) := by
  have fin : ∀ (s r : Nat), s = r → s0 ≤ s → r ≤ r0 → (s = s0 ∨ ∃ u v, 0 < s - a ∧ X[s - a - 1]? = some u ∧ Y[mid - s]? = some v ∧ bt key u v) → (r = r0 ∨ ∃ u v, 0 < mid - r ∧ X[r - a]? = some u ∧ Y[mid - r - 1]? = some v ∧ bt key v u) →
    Run (fun k => slices_symMergeCmpFunc_int.l4 k (P ++ (X ++ (Y ++ S))) a m b cmp mid n s r pp) (Seg key P (X ++ Y) S) := by
    intro s r e hs hr lo hi
    subst e
    have eX := List.take_append_drop (s - a) X
    have eY := List.take_append_drop (mid - s) Y
    have lX1 : (X.take (s - a)).length = s - a := by simp; omega
    have lX2 : (X.drop (s - a)).length = m - s := by simp; omega
    have lY1 : (Y.take (mid - s)).length = mid - s := by simp; omega
    have lY2 : (Y.drop (mid - s)).length = b + s - n := by simp; omega
    have x1y2 : ∀ x ∈ X.take (s - a), ∀ y ∈ Y.drop (mid - s), bt key x y := by
      rcases lo with h | ⟨u, v, h0, hu, hv, huv⟩
      · rcases hs0 with h' | h'
        · intro x hx'; rw [show s - a = 0 by omega] at hx'; simp at hx'
        · intro x _ y hy; rw [List.drop_eq_nil_of_le (by omega)] at hy; simp at hy
      · intro x hx' y hy
        exact drop_bt sY hv (take_bt sX h0 hu huv x hx') y hy
    have y1x2 : ∀ x ∈ Y.take (mid - s), ∀ y ∈ X.drop (s - a), bt key x y := by
      rcases hi with h | ⟨u, v, h0, hu, hv, huv⟩
      · rcases hr0 with h' | h'
        · intro x _ y hy; rw [List.drop_eq_nil_of_le (by omega)] at hy; simp at hy
        · intro x hx'; rw [show mid - s = 0 by omega] at hx'; simp at hx'
      · intro x hx' y hy
        exact drop_bt sX hu (take_bt sY h0 hv huv x hx') y hy
    have sX' := sX
    have sY' := sY
    rw [← eX, List.pairwise_append] at sX'
    rw [← eY, List.pairwise_append] at sY'
    have hxy := fun (e : Nat) (he : e = n - s) (fl : Bool) (hfl : fl = true ↔ (0 < (X.drop (s - a)).length ∧ 0 < (Y.take (mid - s)).length)) => tail6 IH P (X.take (s - a)) (Y.take (mid - s)) (X.drop (s - a)) (Y.drop (mid - s)) S a m s mid e b fl hfl (by omega) (by omega) ha (by omega) (by omega) (by omega) (by omega) (by omega) hx
      sX'.1 sY'.1 sX'.2.1 sY'.2.1 (fun x h y h' => hc x (List.mem_of_mem_take h) y (List.mem_of_mem_take h')) (fun x h y h' => hc x (List.mem_of_mem_drop h) y (List.mem_of_mem_drop h'))
      (fun x h y h' => by
        rcases List.mem_append.1 h with h1 | h1
        · rcases List.mem_append.1 h' with h2 | h2
          · exact sX'.2.2 x h1 y h2
          · exact x1y2 x h1 y h2
        · rcases List.mem_append.1 h' with h2 | h2
          · exact y1x2 x h1 y h2
          · exact sY'.2.2 x h1 y h2)
    have ed : P ++ (X ++ (Y ++ S)) = P ++ (X.take (s - a) ++ (X.drop (s - a) ++ (Y.take (mid - s) ++ (Y.drop (mid - s) ++ S)))) := by
      rw [← List.append_assoc (Y.take (mid - s)), eY, ← List.append_assoc (X.take (s - a)), eX]
    have ep : (X.take (s - a) ++ Y.take (mid - s) ++ (X.drop (s - a) ++ Y.drop (mid - s))).Perm (X ++ Y) := by
      have h1 : (X.take (s - a) ++ Y.take (mid - s) ++ (X.drop (s - a) ++ Y.drop (mid - s))).Perm ((X.take (s - a) ++ X.drop (s - a)) ++ (Y.take (mid - s) ++ Y.drop (mid - s))) := by
        rw [List.append_assoc, List.append_assoc]
        refine List.Perm.append_left _ ?_
        rw [← List.append_assoc, ← List.append_assoc]
        exact List.Perm.append_right _ List.perm_append_comm
      rwa [eX, eY] at h1
    have k1 : ¬ (s : Int) < (s : Int) := by omega
    have hle : n - s ≤ 4000000 := by omega
    have hns : n = n - s + s := by omega
    have conv : ∀ {r}, Seg key P (X.take (s - a) ++ Y.take (mid - s) ++ (X.drop (s - a) ++ Y.drop (mid - s))) S r → Seg key P (X ++ Y) S r := fun ⟨Z, e1, e2, e3⟩ => ⟨Z, e1, e2.trans ep, e3⟩
    have h1 : (s : Int) < (m : Int) → Run (fun k => slices_symMergeCmpFunc_int.j6 k (P ++ (X ++ (Y ++ S))) a m b cmp mid s ((n - s : Nat) : Int) (decide ((m : Int) < ((n - s : Nat) : Int)))) (Seg key P (X ++ Y) S) := fun h => by
      have := hxy (n - s) rfl (decide ((m : Int) < ((n - s : Nat) : Int))) (by rw [decide_eq_true_iff]; omega)
      rw [← ed] at this
      exact Run.imp this fun r hr => conv hr
    have h2 : ¬ (s : Int) < (m : Int) → Run (fun k => slices_symMergeCmpFunc_int.j6 k (P ++ (X ++ (Y ++ S))) a m b cmp mid s ((n - s : Nat) : Int) false) (Seg key P (X ++ Y) S) := fun h => by
      have := hxy (n - s) rfl false (by simp; omega)
      rw [← ed] at this
      exact Run.imp this fun r hr => conv hr
    refine Run.step (fun k => by rw [slices_symMergeCmpFunc_int.l4]) (Run.neg k1 ?_)
    rw [subW n s (n - s) hns hle]
    exact Run.ite h1 h2
  intro d
  induction d with
  | zero =>
    intro s r hd hsr hs hr lo hi
    exact fin s r (by omega) hs hr lo hi
  | succ d ih =>
    intro s r hd hsr hs hr lo hi
    by_cases hlt : s < r
    case neg => exact fin s r (by omega) hs hr lo hi
    obtain ⟨c, hcc⟩ : ∃ c, c = (s + r) / 2 := ⟨_, rfl⟩
    have b1 : s ≤ c := by omega
    have b2 : c < r := by omega
    obtain ⟨A1, u, B1, hX, hA1, hgu⟩ := splitAt (Y := X) (p := c - a) (by omega)
    obtain ⟨A2, v, B2, hY, hA2, hgv⟩ := splitAt (Y := Y) (p := mid - c - 1) (by omega)
    obtain ⟨t, hcm, hc1, hc2⟩ := hc u (List.mem_of_getElem? hgu) v (List.mem_of_getElem? hgv)
    have dn := fun hb : bt key v u => ih s c (by omega) (by omega) hs (by omega) lo (.inr ⟨u, v, by omega, hgu, hgv, hb⟩)
    have up := fun hb : bt key u v => ih (c + 1) r (by omega) (by omega) (by omega) hr (.inr ⟨u, v, by omega, by rw [show c + 1 - a - 1 = c - a by omega]; exact hgu, by rw [show mid - (c + 1) = mid - c - 1 by omega]; exact hgv, hb⟩) hi
    have hl : (P ++ (X ++ (Y ++ S))).length = b + S.length := by simp; omega
    have k1 : (s : Int) < (r : Int) := by omega
    have k2 : (0 : Int) ≤ ((pp - c : Nat) : Int) := by omega
    have k3 : ((pp - c : Nat) : Int) < (((P ++ (X ++ (Y ++ S))).length : Nat) : Int) := by rw [hl]; omega
    have k4 : (0 : Int) ≤ (c : Int) := by omega
    have k5 : (c : Int) < (((P ++ (X ++ (Y ++ S))).length : Nat) : Int) := by rw [hl]; omega
    have q1 : (c : Int) = (((P ++ A1).length : Nat) : Int) := by simp; omega
    have q2 : ((pp - c : Nat) : Int) = (((P ++ (X ++ A2)).length : Nat) : Int) := by simp; omega
    have q3 : s + r ≤ 4000000 := by omega
    have q4 : c + 1 ≤ 4000000 := by omega
    have q5 : pp = pp - c + c := by omega
    have q6 : pp - c ≤ 4000000 := by omega
    have r1 : rd (P ++ (X ++ (Y ++ S))) (c : Int) = u := by
      rw [show P ++ (X ++ (Y ++ S)) = (P ++ A1) ++ u :: (B1 ++ (Y ++ S)) by rw [hX]; simp]; exact rdAt _ _ _ _ q1
    have r2 : rd (P ++ (X ++ (Y ++ S))) ((pp - c : Nat) : Int) = v := by
      rw [show P ++ (X ++ (Y ++ S)) = (P ++ (X ++ A2)) ++ v :: (B2 ++ S) by rw [hY]; simp]; exact rdAt _ _ _ _ q2
    refine Run.step (fun k => by rw [slices_symMergeCmpFunc_int.l4]) ?_
    rw [half s r c hcc q3, subW pp c (pp - c) q5 q6, r1, r2, show wrap64 ((c : Int) + 1) = ((c + 1 : Nat) : Int) from by have := addW c 1 (c + 1) rfl q4; simpa using this]
    exact Run.pos k1 (Run.pos k2 (Run.pos k3 (Run.pos k4 (Run.pos k5 (Run.constBind hcm (Run.ite (fun hn => dn (hc1 hn)) (fun hn => up (hc2 hn))))))))
theorem symMerge {key : Int → Int} {cmp : Int → Int → Option Int} : ∀ N, MOk key cmp N := by
  intro N
  induction N with
  | zero => intro X Y P S a m b hN hX; omega
  | succ N IH =>
    intro X Y P S a m b hN hX hY ha hm hb hx sX sY hc
    have q1 : m = X.length + a := by omega
    have q2 : b = Y.length + m := by omega
    have q3 : X.length ≤ 4000000 := by omega
    have q4 : Y.length ≤ 4000000 := by omega
    refine Run.step (fun k => by rw [slices_symMergeCmpFunc_int.f]) ?_
    rw [subW m a X.length q1 q3, subW b m Y.length q2 q4]
    refine Run.ite (fun h1 => ?_) (fun h1 => Run.ite (fun h2 => ?_) (fun h2 => ?_))
    · match X, hX, h1 with
      | [x], _, _ =>
        have := merge1 P Y S x a ha (by simp at hx; omega) sY (fun y hy => hc x (by simp) y hy) Y.length 0 Y.length m b (by omega) (by omega) (by omega) (by simp at hm; omega) (by simp at hb hm; omega) (.inl rfl) (.inl rfl)
        simpa using this
      | x :: x' :: X, _, h => simp at h; omega
    · match Y, hY, h2 with
      | [y], _, _ =>
        have := merge2 P X S y a m ha hm (by simp at hx; omega) sX (fun x hx' => hc x hx' y (by simp)) X.length 0 X.length a m (by omega) (by omega) (by omega) (by omega) (by omega) (.inl rfl) (.inl rfl)
        simpa using this
      | y :: y' :: Y, _, h => simp at h; omega
    · obtain ⟨mid, hmid⟩ : ∃ mid, mid = (a + b) / 2 := ⟨_, rfl⟩
      have g1 : a + b ≤ 4000000 := by omega
      have g2 : mid + m ≤ 4000000 := by omega
      have g3 : (1 : Nat) ≤ mid + m := by omega
      have g4 : mid + m = mid + m - 1 + 1 := by omega
      have g5 : mid + m - 1 ≤ 4000000 := by omega
      have big : 2 < X.length + Y.length := by omega
      have st : ∀ (s0 r0 : Nat), (s0 = a ∨ s0 + b = mid + m) → a ≤ s0 → mid + m ≤ s0 + b → (r0 = m ∨ r0 = mid) → r0 ≤ m → r0 ≤ mid → s0 ≤ r0 → Run (fun k => slices_symMergeCmpFunc_int.j4 k (P ++ (X ++ (Y ++ S))) a m b cmp mid ((mid + m : Nat) : Int) s0 r0) (Seg key P (X ++ Y) S) := fun s0 r0 h1 h2 h3 h4 h5 h6 h7 => by
        have := search4 IH P X Y S a m b mid (mid + m) s0 r0 (mid + m - 1) hN ha (by omega) (by omega) hmid rfl (by omega) hX hY (by omega) sX sY hc h1 h2 h3 h4 h5 h6 big (r0 - s0) s0 r0 (Nat.le_refl _) h7 (Nat.le_refl _) (Nat.le_refl _) (.inl rfl) (.inl rfl)
        refine Run.step (fun k => by rw [slices_symMergeCmpFunc_int.j4]) ?_
        rw [show wrap64 (((mid + m : Nat) : Int) - 1) = ((mid + m - 1 : Nat) : Int) from by have := subW (mid + m) 1 (mid + m - 1) g4 g5; simpa using this]
        exact this
      have t1 : (m : Int) > (mid : Int) → Run (fun k => slices_symMergeCmpFunc_int.j4 k (P ++ (X ++ (Y ++ S))) a m b cmp mid ((mid + m : Nat) : Int) ((mid + m - b : Nat) : Int) mid) (Seg key P (X ++ Y) S) := fun h => st (mid + m - b) mid (by omega) (by omega) (by omega) (by omega) (by omega) (by omega) (by omega)
      have t2 : ¬ (m : Int) > (mid : Int) → Run (fun k => slices_symMergeCmpFunc_int.j4 k (P ++ (X ++ (Y ++ S))) a m b cmp mid ((mid + m : Nat) : Int) a m) (Seg key P (X ++ Y) S) := fun h => st a m (by omega) (by omega) (by omega) (by omega) (by omega) (by omega) (by omega)
      rw [half a b mid hmid g1, addW mid m (mid + m) rfl g2]
      refine Run.ite (fun h => ?_) t2
      have hb2 : mid + m = mid + m - b + b := by clear t1 t2 st; omega
      rw [subW (mid + m) b (mid + m - b) hb2 (Nat.le_trans (Nat.sub_le _ _) g2)]
      exact t1 h
end Go.Proofs.YtcjpojppbmlfaaaDoor.Pure
set_option linter.unusedVariables false
set_option linter.unusedSimpArgs false
namespace Go.Proofs.YtcjpojppbmlfaaaDoor.Pure
open Go.RowKit Go.Proofs.YtcjpojppbmlfaaaDoor.Pr Go.Proofs.YtcjpojppbmlfaaaDoorW.PrintWords Go.Proofs.YtcjpojppbmlfaaaDoorW.PrintLast Go.Proofs.YtcjpojppbmlfaaaDoorW.PrintMore
inductive Blocks (key : Int → Int) (bs : Nat) : List Int → List Int → Prop
  | last (O D : List Int) (h : O.length ≤ bs) (p : D.Perm O) (s : D.Pairwise (bt key)) : Blocks key bs O D
  | cons (B B' O D : List Int) (h : B.length = bs) (p : B'.Perm B) (s : B'.Pairwise (bt key)) (r : Blocks key bs O D) : Blocks key bs (B ++ O) (B' ++ D)
theorem Blocks.len {key : Int → Int} {bs : Nat} {O D : List Int} (h : Blocks key bs O D) : D.length = O.length := by
  induction h with
  | last O D h p s => exact p.length_eq
  | cons B B' O D h p s r ih => simp [ih, p.length_eq]
theorem Blocks.split {key : Int → Int} {bs : Nat} {O D : List Int} (h : Blocks key bs O D) (hl : bs ≤ O.length) : ∃ B B' O' D', O = B ++ O' ∧ D = B' ++ D' ∧ B.length = bs ∧ B'.Perm B ∧ B'.Pairwise (bt key) ∧ Blocks key bs O' D' := by
  cases h with
  | last O D h p s => exact ⟨O, D, [], [], by simp, by simp, by omega, p, s, .last [] [] (by simp) (List.Perm.refl _) (by simp)⟩
  | cons B B' O D h p s r => exact ⟨B, B', O, D, rfl, rfl, h, p, s, r⟩
theorem Blocks.one {key : Int → Int} {bs : Nat} {O D : List Int} (h : Blocks key bs O D) (hl : O.length ≤ bs) : D.Perm O ∧ D.Pairwise (bt key) := by
  cases h with
  | last O D h p s => exact ⟨p, s⟩
  | cons B B' O D h p s r =>
    have : O = [] := List.eq_nil_of_length_eq_zero (by simp at hl; omega)
    subst this
    have h2 := r.len
    have : D = [] := List.eq_nil_of_length_eq_zero (by simpa using h2)
    subst this
    simpa using ⟨p, s⟩
theorem pass {key : Int → Int} {cmp : Int → Int → Option Int} {Q : List Int → Prop} (n bs : Nat) (hbs : 0 < bs) (hn : n ≤ 100000) (hb2 : bs ≤ 100000) : ∀ (N : Nat) (O D P : List Int) (a b : Nat), O.length ≤ N → Blocks key bs O D → O.Pairwise (Cok key cmp) → a = P.length → b = a + 2 * bs → n = P.length + O.length →
    (∀ D', Blocks key (2 * bs) O D' → Run (fun k => slices_stableCmpFunc_int.l1 k (P ++ D') n cmp ((2 * bs : Nat) : Int)) Q) →
    Run (fun k => slices_stableCmpFunc_int.l2 k (P ++ D) n cmp bs a b) Q := by
  intro N
  induction N with
  | zero =>
    intro O D P a b hN hB hO ha hb hn' K
    obtain ⟨p, s⟩ := hB.one (by omega)
    have k1 : ¬ (b : Int) ≤ (n : Int) := by omega
    have k2 : ¬ ((a + bs : Nat) : Int) < (n : Int) := by omega
    have q1 : a + bs ≤ 4000000 := by omega
    have q2 : bs + bs ≤ 4000000 := by omega
    refine Run.step (fun k => by rw [slices_stableCmpFunc_int.l2]) (Run.neg k1 ?_)
    rw [addW a bs (a + bs) rfl q1, show wrap64 ((bs : Int) * 2) = ((2 * bs : Nat) : Int) from w64n (by omega) (by omega)]
    exact Run.neg k2 (K D (.last O D (by omega) p s))
  | succ N ih =>
    intro O D P a b hN hB hO ha hb hn' K
    have hlen := hB.len
    have q1 : a + bs ≤ 4000000 := by omega
    have q5 : 2 * bs ≤ 4000000 := by omega
    have q6 : b + 2 * bs ≤ 4000000 := by omega
    have e1 : wrap64 (2 * (bs : Int)) = ((2 * bs : Nat) : Int) := w64n (by omega) (by omega)
    have e2 : wrap64 ((bs : Int) * 2) = ((2 * bs : Nat) : Int) := w64n (by omega) (by omega)
    by_cases h1 : b ≤ n
    · obtain ⟨B1, C1, O1, D1, rfl, rfl, l1, p1, s1, r1⟩ := hB.split (by clear e1 e2; omega)
      obtain ⟨B2, C2, O2, D2, rfl, rfl, l2, p2, s2, r2⟩ := r1.split (by clear e1 e2; simp at hn'; omega)
      have lc1 := p1.length_eq
      have lc2 := p2.length_eq
      have ld2 := r2.len
      simp only [List.length_append] at hN hn' hlen
      have hO' := List.pairwise_append.1 hO
      have hO2 := List.pairwise_append.1 hO'.2.1
      have hm := symMerge (key := key) (cmp := cmp) _ C1 C2 P D2 a (a + bs) b (Nat.le_refl _) (by clear e1 e2; omega) (by clear e1 e2; omega) ha (by clear e1 e2; omega) (by clear e1 e2; omega) (by clear e1 e2; omega) s1 s2
        (fun x hx y hy => hO'.2.2 x (p1.mem_iff.1 hx) y (List.mem_append_left _ (p2.mem_iff.1 hy)))
      have k1 : (b : Int) ≤ (n : Int) := by clear e1 e2; omega
      have g1 : O2.length ≤ N := by clear e1 e2; omega
      have g2 : b = P.length + (B1.length + B2.length) := by clear e1 e2; omega
      have g3 : n = P.length + (B1.length + B2.length) + O2.length := by clear e1 e2; omega
      refine Run.step (fun k => by rw [slices_stableCmpFunc_int.l2]) (Run.pos k1 ?_)
      rw [addW a bs (a + bs) rfl q1, e1, addW b (2 * bs) (b + 2 * bs) rfl q6]
      refine Run.bind hm fun r hr => ?_
      obtain ⟨Z, rfl, pz, sz⟩ := hr
      have lz : Z.length = B1.length + B2.length := by have := pz.length_eq; simp at this; clear e1 e2; omega
      have h2 := ih O2 D2 (P ++ Z) b (b + 2 * bs) g1 r2 hO2.2.1 (by rw [List.length_append, lz]; exact g2) rfl (by rw [List.length_append, lz]; exact g3) (fun D' hD' => by
        have := K (Z ++ D') (by rw [← List.append_assoc]; exact .cons (B1 ++ B2) Z O2 D' (by simp; clear e1 e2; omega) (pz.trans (p1.append p2)) sz hD')
        simpa using this)
      simpa using h2
    · have k1 : ¬ (b : Int) ≤ (n : Int) := by clear e1 e2; omega
      refine Run.step (fun k => by rw [slices_stableCmpFunc_int.l2]) (Run.neg k1 ?_)
      rw [addW a bs (a + bs) rfl q1, e2]
      refine Run.ite (fun h2 => ?_) (fun h2 => ?_)
      · obtain ⟨B1, C1, O1, D1, rfl, rfl, l1, p1, s1, r1⟩ := hB.split (by clear e1 e2; omega)
        simp only [List.length_append] at hN hn' hlen
        obtain ⟨p2, s2⟩ := r1.one (by clear e1 e2; omega)
        have lc1 := p1.length_eq
        have lc2 := p2.length_eq
        have hO' := List.pairwise_append.1 hO
        have hm := symMerge (key := key) (cmp := cmp) _ C1 D1 P [] a (a + bs) n (Nat.le_refl _) (by clear e1 e2; omega) (by clear e1 e2; omega) ha (by clear e1 e2; omega) (by clear e1 e2; omega) (by simp; clear e1 e2; omega) s1 s2
          (fun x hx y hy => hO'.2.2 x (p1.mem_iff.1 hx) y (p2.mem_iff.1 hy))
        rw [List.append_nil] at hm
        refine Run.bind hm fun r hr => ?_
        obtain ⟨Z, rfl, pz, sz⟩ := hr
        have := K Z (.last (B1 ++ O1) Z (by simp; clear e1 e2; omega) (pz.trans (p1.append p2)) sz)
        simpa using this
      · obtain ⟨p, s⟩ := hB.one (by clear e1 e2; omega)
        exact K D (.last O D (by clear e1 e2; omega) p s)
theorem passes {key : Int → Int} {cmp : Int → Int → Option Int} (O : List Int) (n : Nat) (hn : n = O.length) (hx : n ≤ 50000) (hO : O.Pairwise (Cok key cmp)) : ∀ (d bs : Nat) (D : List Int), n ≤ bs + d → 0 < bs → bs ≤ 100000 → Blocks key bs O D → Run (fun k => slices_stableCmpFunc_int.l1 k D n cmp bs) (fun r => r.Perm O ∧ r.Pairwise (bt key)) := by
  intro d
  induction d with
  | zero =>
    intro bs D hd hbs hb2 hB
    exact Run.step (fun k => by rw [slices_stableCmpFunc_int.l1]) (Run.neg (by omega) (Run.ret (hB.one (by omega))))
  | succ d ih =>
    intro bs D hd hbs hb2 hB
    by_cases h : bs < n
    · have k1 : (bs : Int) < (n : Int) := by omega
      have g1 : n ≤ 2 * bs + d := by omega
      have g2 : 2 * bs ≤ 100000 := by omega
      have h1 := pass (key := key) (cmp := cmp) (Q := fun r => r.Perm O ∧ r.Pairwise (bt key)) n bs hbs (by omega) hb2 O.length O D [] 0 (0 + 2 * bs) (Nat.le_refl _) hB hO rfl rfl (by simp [hn]) (fun D' hD' => by
        have := ih (2 * bs) D' g1 (by omega) g2 hD'
        simpa using this)
      refine Run.step (fun k => by rw [slices_stableCmpFunc_int.l1]) (Run.pos k1 ?_)
      rw [show wrap64 (2 * (bs : Int)) = ((2 * bs : Nat) : Int) from w64n (by omega) (by omega)]
      simpa using h1
    · exact Run.step (fun k => by rw [slices_stableCmpFunc_int.l1]) (Run.neg (by omega) (Run.ret (hB.one (by omega))))
theorem blocks {key : Int → Int} {cmp : Int → Int → Option Int} {Q : List Int → Prop} (n : Nat) (hn : n ≤ 50000) : ∀ (N : Nat) (O P : List Int) (a b : Nat), O.length ≤ N → O.Pairwise (Cok key cmp) → a = P.length → b = a + 20 → n = P.length + O.length →
    (∀ D', Blocks key 20 O D' → Run (fun k => slices_stableCmpFunc_int.l1 k (P ++ D') n cmp 20) Q) → Run (fun k => slices_stableCmpFunc_int.l0 k (P ++ O) n cmp 20 a b) Q := by
  intro N
  have fin : ∀ (O P : List Int) (a b : Nat), n < b → O.Pairwise (Cok key cmp) → a = P.length → b = a + 20 → n = P.length + O.length →
      (∀ D', Blocks key 20 O D' → Run (fun k => slices_stableCmpFunc_int.l1 k (P ++ D') n cmp 20) Q) → Run (fun k => slices_stableCmpFunc_int.l0 k (P ++ O) n cmp 20 a b) Q := by
    intro O P a b h hO ha hb hn' K
    have h1 := insertion (key := key) (cmp := cmp) P O [] a n ha hn' (by simp; omega) hO
    rw [List.append_nil] at h1
    refine Run.step (fun k => by rw [slices_stableCmpFunc_int.l0]) (Run.neg (by omega) (Run.bind h1 fun r hr => ?_))
    obtain ⟨Z, rfl, pz, sz⟩ := hr
    have := K Z (.last O Z (by omega) pz sz)
    simpa using this
  induction N with
  | zero => intro O P a b hN hO ha hb hn' K; exact fin O P a b (by omega) hO ha hb hn' K
  | succ N ih =>
    intro O P a b hN hO ha hb hn' K
    by_cases h : b ≤ n
    case neg => exact fin O P a b (by omega) hO ha hb hn' K
    obtain ⟨B, O', rfl, hB⟩ : ∃ B O', O = B ++ O' ∧ B.length = 20 := ⟨O.take 20, O.drop 20, by simp, by simp; omega⟩
    simp only [List.length_append] at hN hn'
    have hO' := List.pairwise_append.1 hO
    have h1 := insertion (key := key) (cmp := cmp) P B O' a b ha (by omega) (by omega) hO'.1
    refine Run.step (fun k => by rw [slices_stableCmpFunc_int.l0]) (Run.pos (by omega) (Run.bind h1 fun r hr => ?_))
    obtain ⟨Z, rfl, pz, sz⟩ := hr
    have lz := pz.length_eq
    rw [show wrap64 ((b : Int) + 20) = ((b + 20 : Nat) : Int) from w64n (by omega) (by omega)]
    have h2 := ih O' (P ++ Z) b (b + 20) (by omega) hO'.2.1 (by simp; omega) rfl (by simp; omega) (fun D' hD' => by
      have := K (Z ++ D') (.cons B Z O' D' hB pz sz hD')
      simpa using this)
    simpa using h2
theorem sortStable {key : Int → Int} {cmp : Int → Int → Option Int} (O : List Int) (hx : O.length ≤ 50000) (hO : O.Pairwise (Cok key cmp)) : Run (fun k => slices_SortStableFunc_int_int.f k O cmp) (fun r => r.Perm O ∧ r.Pairwise (bt key)) := by
  unfold slices_SortStableFunc_int_int.f slices_stableCmpFunc_int.f
  have h := blocks (key := key) (cmp := cmp) (Q := fun r => r.Perm O ∧ r.Pairwise (bt key)) O.length hx O.length O [] 0 20 (Nat.le_refl _) hO rfl rfl (by simp) (fun D' hD' => by
    have := passes O O.length rfl hx hO O.length 20 D' (by omega) (by omega) (by omega) hD'
    simpa using this)
  exact Run.bind (by simpa using h) fun r hr => Run.ret hr
end Go.Proofs.YtcjpojppbmlfaaaDoor.Pure
set_option linter.unusedVariables false
set_option linter.unusedSimpArgs false
namespace Go.Proofs.YtcjpojppbmlfaaaDoor.Pure
open Go.RowKit Go.Proofs.YtcjpojppbmlfaaaDoor.Pr Go.Proofs.YtcjpojppbmlfaaaDoorW.PrintWords Go.Proofs.YtcjpojppbmlfaaaDoorW.PrintLast Go.Proofs.YtcjpojppbmlfaaaDoorW.PrintMore
theorem spec_shrOk (t : Int) (l : List Int) (h : l.length ≤ 9223372036854775807) : Ev (fun k => spec_ShrOk.f k t l) (shrOk t l) := by
  have loop : ∀ (d i : Nat), i + d = l.length → Ev (fun k => spec_ShrOk.l0 k l i) (!((l.drop i).any fun n => !(inB 0 100000 n))) := by
    intro d
    induction d with
    | zero => exact fun i hi => Ev.step (fun k => by rw [spec_ShrOk.l0]) (evElse (by omega) (evNow (by rw [List.drop_of_length_le (by omega)]; rfl)))
    | succ d ih =>
      intro i hi
      refine Ev.step (fun k => by rw [spec_ShrOk.l0]) (evIf (by omega) (evIf (by omega) (evBindC (l1In_eq _ _ _) ?_)))
      rw [rdNat l i (by omega), dropCons l i (by omega), List.any_cons]
      cases hb : inB 0 100000 l[i] with
      | true =>
        refine evIf hb ?_
        rw [wnext (n := l.length) (by omega) (by omega)]
        simpa using ih (i + 1) (by omega)
      | false => exact evElse (by rw [show (decide (0 ≤ l[i]) && decide (l[i] ≤ 100000)) = inB 0 100000 l[i] from rfl, hb]; decide) (evNow (by simp))
  unfold spec_ShrOk.f shrOk
  refine evBindC (l1In_eq _ _ _) ?_
  cases hb : inB 0 100000 t with
  | false =>
    refine evElse (by rw [show (decide (0 ≤ t) && decide (t ≤ 100000)) = inB 0 100000 t from rfl, hb]; decide) (Ev.step (fun k => by rw [spec_ShrOk.j0]) ?_)
    exact evIf rfl (evNow rfl)
  | true =>
    refine evIf hb (Ev.step (fun k => by rw [spec_ShrOk.j0]) ?_)
    by_cases hl : (l.length : Int) ≤ 100
    · refine evElse (by simp; omega) ?_
      simpa [hl] using loop l.length 0 (by omega)
    · exact evIf (by simp; omega) (evNow (by simp [hl]))
def sumW (l : List Int) : Int := l.foldl (fun s x => wrap64 (s + x)) 0
theorem spec_sum (l : List Int) (h : l.length ≤ 9223372036854775807) : Ev (fun k => spec_l1Sum.f k l) (sumW l) := by
  have loop : ∀ (d i : Nat) (s : Int), i + d = l.length → Ev (fun k => spec_l1Sum.l0 k l s i) ((l.drop i).foldl (fun s x => wrap64 (s + x)) s) := by
    intro d
    induction d with
    | zero => exact fun i s hi => Ev.step (fun k => by rw [spec_l1Sum.l0]) (evElse (by omega) (evNow (by rw [List.drop_of_length_le (by omega)]; rfl)))
    | succ d ih =>
      intro i s hi
      refine Ev.step (fun k => by rw [spec_l1Sum.l0]) (evIf (by omega) (evIf (by omega) ?_))
      rw [rdNat l i (by omega), dropCons l i (by omega), wnext (n := l.length) (by omega) (by omega), List.foldl_cons]
      exact ih (i + 1) _ (by omega)
  exact loop l.length 0 0 (by omega)
theorem impl_sum (l : List Int) (h : l.length ≤ 9223372036854775807) : Ev (fun k => impl_sumOf.f k l) (sumW l) := by
  have loop : ∀ (d i : Nat) (s : Int), i + d = l.length → Ev (fun k => impl_sumOf.l0 k s l (l.length : Int) i) ((l.drop i).foldl (fun s x => wrap64 (s + x)) s) := by
    intro d
    induction d with
    | zero => exact fun i s hi => Ev.step (fun k => by rw [impl_sumOf.l0]) (evElse (by omega) (evNow (by rw [List.drop_of_length_le (by omega)]; rfl)))
    | succ d ih =>
      intro i s hi
      refine Ev.step (fun k => by rw [impl_sumOf.l0]) (evIf (by omega) (evIf (by omega) (evIf (by omega) ?_)))
      rw [rdNat l i (by omega), dropCons l i (by omega), wnext (n := l.length) (by omega) (by omega), List.foldl_cons]
      exact ih (i + 1) _ (by omega)
  exact loop l.length 0 0 (by omega)
def shrDue (t : Int) (l : List Int) (k : Int) : Int :=
  if shrOk t l = true ∧ 0 ≤ k ∧ k < l.length ∧ sumW l ≠ 0 then wrap64 (Int.tdiv (wrap64 (t * rd l k)) (sumW l)) else 0
theorem impl_shrDue (t : Int) (l : List Int) (x : Int) (h : l.length ≤ 9223372036854775807) : Ev (fun k => impl_ShrDue.f k t l x) (shrDue t l x) := by
  unfold impl_ShrDue.f shrDue
  refine evBindC (show impl_ShrOk.f t l = some (shrOk t l) from rfl) ?_
  by_cases ho : shrOk t l = true
  · refine evIf ho (evBindC (in_eq _ _ _) ?_)
    rw [w64 (x := (l.length : Int) - 1) (by omega) (by omega)]
    by_cases hx : 0 ≤ x ∧ x < l.length
    · refine evIf (by simp; omega) ((impl_sum l h).bind ?_)
      by_cases hs : sumW l = 0
      · exact evIf hs (evNow (by rw [if_neg (by simp [hs])]))
      · refine evElse hs (evIf hx.1 (evIf hx.2 ((impl_sum l h).bind (evElse hs (evNow ?_)))))
        rw [if_pos ⟨ho, hx.1, hx.2, hs⟩]
    · exact evElse (by simp; omega) (evNow (by rw [if_neg (by omega)]))
  · exact evElse ho (evNow (by rw [if_neg (fun q => ho q.1)]))
end Go.Proofs.YtcjpojppbmlfaaaDoor.Pure
set_option linter.unusedVariables false
set_option linter.unusedSimpArgs false
namespace Go.Proofs.YtcjpojppbmlfaaaDoor.Pure
open Go.RowKit Go.Proofs.YtcjpojppbmlfaaaDoor.Pr Go.Proofs.YtcjpojppbmlfaaaDoorW.PrintWords Go.Proofs.YtcjpojppbmlfaaaDoorW.PrintLast Go.Proofs.YtcjpojppbmlfaaaDoorW.PrintMore
theorem sumW_eq (l : List Int) (h : ∀ x ∈ l, 0 ≤ x ∧ x ≤ 10000000000) (hl : l.length ≤ 100) : sumW l = l.sum ∧ 0 ≤ l.sum := by
  have gen : ∀ (l : List Int) (s : Int), (∀ x ∈ l, 0 ≤ x ∧ x ≤ 10000000000) → 0 ≤ s → s + 10000000000 * l.length ≤ 2000000000000 → l.foldl (fun s x => wrap64 (s + x)) s = s + l.sum ∧ 0 ≤ l.sum := by
    intro l
    induction l with
    | nil => intro s _ _ _; simp
    | cons x l ih =>
      intro s hx h0 hb
      obtain ⟨h1, h2⟩ := hx x (by simp)
      simp only [List.length_cons] at hb
      obtain ⟨e, p⟩ := ih (s + x) (fun y hy => hx y (by simp [hy])) (by omega) (by omega)
      rw [List.foldl_cons, w64 (by omega) (by omega), e, List.sum_cons]
      exact ⟨by omega, by omega⟩
  obtain ⟨e, p⟩ := gen l 0 h (by omega) (by omega)
  exact ⟨by unfold sumW; rw [e]; omega, p⟩
theorem quoSum (t s : Int) (hs : 1 ≤ s) : ∀ (ws : List Int), (∀ x ∈ ws, 0 ≤ t * x) → 0 ≤ t * ws.sum - s * (ws.map fun x => Int.tdiv (t * x) s).sum ∧ t * ws.sum - s * (ws.map fun x => Int.tdiv (t * x) s).sum ≤ s * ws.length := by
  intro ws
  induction ws with
  | nil => intro _; simp
  | cons x ws ih =>
    intro h
    obtain ⟨i1, i2⟩ := ih (fun y hy => h y (by simp [hy]))
    have hx := h x (by simp)
    have e := Int.mul_tdiv_add_tmod (t * x) s
    have r1 := Int.tmod_nonneg s hx
    have r2 := Int.tmod_lt_of_pos (t * x) (show 0 < s by omega)
    simp only [List.sum_cons, List.map_cons, List.length_cons]
    rw [Int.mul_add, Int.mul_add, show s * (((ws.length + 1 : Nat) : Int)) = s * (ws.length : Int) + s by rw [Int.natCast_add, Int.mul_add]; simp]
    generalize t * x = a at *
    generalize s * Int.tdiv a s = b at *
    generalize t * ws.sum = c at *
    generalize s * (ws.map fun x => Int.tdiv (t * x) s).sum = d at *
    generalize s * (ws.length : Int) = f at *
    omega
theorem quoLeft (t s : Int) (hs : 1 ≤ s) (ws : List Int) (h : ∀ x ∈ ws, 0 ≤ t * x) (he : ws.sum = s) : 0 ≤ t - (ws.map fun x => Int.tdiv (t * x) s).sum ∧ t - (ws.map fun x => Int.tdiv (t * x) s).sum ≤ ws.length := by
  obtain ⟨h1, h2⟩ := quoSum t s hs ws h
  rw [he, Int.mul_comm t s, ← Int.mul_sub] at h1 h2
  generalize (ws.map fun x => Int.tdiv (t * x) s).sum = q at *
  refine ⟨?_, ?_⟩
  · by_cases hn : 0 ≤ t - q
    · exact hn
    · have : s * (t - q) ≤ s * (-1) := Int.mul_le_mul_of_nonneg_left (by omega) (by omega)
      omega
  · exact Int.le_of_mul_le_mul_left h2 (by omega)
theorem tdivBound (a s : Int) (h0 : 0 ≤ a) (h1 : a ≤ 10000000000) (hs : 1 ≤ s) : 0 ≤ Int.tdiv a s ∧ Int.tdiv a s ≤ 10000000000 := by
  refine ⟨Int.tdiv_nonneg h0 (by omega), ?_⟩
  have := Int.tdiv_le_self s h0
  omega
end Go.Proofs.YtcjpojppbmlfaaaDoor.Pure
set_option linter.unusedVariables false
set_option linter.unusedSimpArgs false
namespace Go.Proofs.YtcjpojppbmlfaaaDoor.Pure
open Go.RowKit Go.Proofs.YtcjpojppbmlfaaaDoor.Pr Go.Proofs.YtcjpojppbmlfaaaDoorW.PrintWords Go.Proofs.YtcjpojppbmlfaaaDoorW.PrintLast Go.Proofs.YtcjpojppbmlfaaaDoorW.PrintMore
theorem rdOf_at {G : List Bool} {i : Nat} {b : Bool} (h : G[i]? = some b) : rdOf false G (i : Int) = b := by
  unfold rdOf; simp [List.getD_eq_getElem?_getD, h]
theorem next (L : List Int) (G : List Bool) (n : Nat) (hL : L.length = n) (hG : G.length = n) (hn : n ≤ 2000000) (o : Nat) (ho : o < n) (hgo : G[o]? = some false) (best : ∀ j : Nat, j < n → j ≠ o → G[j]? = some false → bt (fun i => rd L i) o j) :
    Ev (fun k => spec_l4Next.f k L G) (o : Int) := by
  have loop : ∀ (d i : Nat) (x : Int), i + d = n → ((i ≤ o ∧ (x = -1 ∨ ∃ j : Nat, x = j ∧ j < i ∧ G[j]? = some false)) ∨ (o < i ∧ x = o)) → Ev (fun k => spec_l4Next.l0 k L G x i) (o : Int) := by
    intro d
    induction d with
    | zero =>
      intro i x hi hv
      rcases hv with ⟨h, _⟩ | ⟨_, rfl⟩
      · omega
      · exact Ev.step (fun k => by rw [spec_l4Next.l0]) (evElse (by omega) (evNow rfl))
    | succ d ih =>
      intro i x hi hv
      have hb : ∃ b, G[i]? = some b := ⟨G[i]'(by omega), by simp⟩
      obtain ⟨b, hb⟩ := hb
      refine Ev.step (fun k => by rw [spec_l4Next.l0]) (evIf (by omega) (evIf (by omega) (evIf (by omega) ?_)))
      rw [rdOf_at hb, wnext (i := i) (n := 3000000) (by omega) (by omega)]
      cases b with
      | true =>
        have hne : i ≠ o := by intro e; subst e; rw [hgo] at hb; cases hb
        refine evIf rfl (ih (i + 1) x (by omega) ?_)
        rcases hv with ⟨h, h2⟩ | ⟨h, h2⟩
        · refine .inl ⟨by omega, ?_⟩
          rcases h2 with h2 | ⟨j, h3, h4, h5⟩
          · exact .inl h2
          · exact .inr ⟨j, h3, by omega, h5⟩
        · exact .inr ⟨by omega, h2⟩
      | false =>
        refine evElse (by decide) ?_
        rcases hv with ⟨h, h2⟩ | ⟨h, rfl⟩
        · have take : Ev (fun k => spec_l4Next.l0 k L G i ((i + 1 : Nat) : Int)) (o : Int) := by
            refine ih (i + 1) i (by omega) ?_
            by_cases e : i = o
            · subst e; exact .inr ⟨by omega, rfl⟩
            · exact .inl ⟨by omega, .inr ⟨i, rfl, by omega, hb⟩⟩
          rcases h2 with rfl | ⟨j, rfl, hj, hgj⟩
          · exact evIf (by decide) take
          · refine evElse (by omega) (evIf (by omega) (evIf (by omega) ?_))
            by_cases hg : rd L (i : Int) > rd L (j : Int)
            · exact evIf hg take
            · refine evElse hg (ih (i + 1) j (by omega) ?_)
              by_cases e : i = o
              · subst e
                have hb2 := best j (by omega) (by omega) hgj
                unfold bt at hb2
                simp only at hb2
                omega
              · exact .inl ⟨by omega, .inr ⟨j, rfl, by omega, hgj⟩⟩
        · have hb2 := best i (by omega) (by omega) hb
          unfold bt at hb2
          simp only at hb2
          refine evElse (by omega) (evIf (by omega) (evIf (by omega) (evElse (by omega) (ih (i + 1) o (by omega) (.inr ⟨by omega, rfl⟩)))))
  exact loop n 0 (-1) (by omega) (.inl ⟨by omega, .inl rfl⟩)
theorem give (L : List Int) (n : Nat) (hL : L.length = n) (hn : n ≤ 1000000) (h0 : 0 < n) : ∀ (js : List Int) (out r : List Int) (G : List Bool) (q : Int), out.length = n → G.length = n → q = (js.length : Int) → js.length ≤ n → bumpO out js = some r →
    js.Pairwise (bt fun i => rd L i) → (∀ j ∈ js, ∃ i : Nat, j = i ∧ i < n ∧ G[i]? = some false) → (∀ j ∈ js, ∀ i : Nat, i < n → G[i]? = some false → (i : Int) ∉ js → bt (fun i => rd L i) j i) →
    Ev (fun k => spec_l4Share.l2 k out L G q) r := by
  intro js
  induction js with
  | nil =>
    intro out r G q ho hG hq _ hb _ _ _
    obtain rfl : out = r := by simpa [bumpO] using hb
    exact Ev.step (fun k => by rw [spec_l4Share.l2]) (evElse (by simp at hq; omega) (Ev.step (fun k => by rw [spec_l4Share.j4]) (evElse (by decide) (evNow rfl))))
  | cons j js ih =>
    intro out r G q ho hG hq hjn hb hp hin hout
    simp only [List.length_cons] at hq hjn
    obtain ⟨i, rfl, hi, hgi⟩ := hin j (by simp)
    obtain ⟨p1, p2⟩ := List.pairwise_cons.1 hp
    unfold bumpO at hb
    rw [if_pos ⟨by omega, by omega⟩] at hb
    have hnx := next L G n hL hG (by omega) i hi hgi (fun z hz hne hgz => by
      by_cases hm : (z : Int) ∈ js
      · exact p1 _ hm
      · exact hout _ (by simp) z hz hgz (by simp [hm]; omega))
    have hi2 := ih (out.set ((i : Int)).toNat (wrap64 (rd out i + 1))) r (G.set ((i : Int)).toNat true) (js.length : Int) (by simpa using ho) (by simpa using hG) rfl (by omega) hb p2 (fun z hz => by
        obtain ⟨w, rfl, hw, hgw⟩ := hin z (by simp [hz])
        refine ⟨w, rfl, hw, ?_⟩
        rw [Int.toNat_natCast, List.getElem?_set_ne]
        · exact hgw
        · intro e; subst e; exact bt_irrefl (p1 _ hz)) (fun z hz w hw hgw hnm => by
        rw [Int.toNat_natCast, List.getElem?_set] at hgw
        by_cases e : i = w
        · subst e; rw [if_pos rfl, if_pos (by omega)] at hgw; cases hgw
        · rw [if_neg e] at hgw
          exact hout z (by simp [hz]) w hw hgw (by simp [hnm]; omega))
    refine Ev.step (fun k => by rw [spec_l4Share.l2]) (evIf (by omega) (Ev.step (fun k => by rw [spec_l4Share.j4]) (evIf (by rw [decide_eq_true_iff]; omega) (hnx.bind ?_))))
    refine evIf (by omega) (evIf (by omega) (evIf (by omega) (evIf (by omega) ?_)))
    rw [show wrap64 (q - 1) = (js.length : Int) from by rw [w64 (by omega) (by omega)]; omega]
    exact hi2
end Go.Proofs.YtcjpojppbmlfaaaDoor.Pure
set_option linter.unusedVariables false
set_option linter.unusedSimpArgs false
namespace Go.Proofs.YtcjpojppbmlfaaaDoor.Pure
open Go.RowKit Go.Proofs.YtcjpojppbmlfaaaDoor.Pr Go.Proofs.YtcjpojppbmlfaaaDoorW.PrintWords Go.Proofs.YtcjpojppbmlfaaaDoorW.PrintLast Go.Proofs.YtcjpojppbmlfaaaDoorW.PrintMore
def shrLeft (t s : Int) (l : List Int) : List Int := l.map fun x => Int.tmod (wrap64 (t * x)) s
theorem bump_some : ∀ (js out : List Int), (∀ j ∈ js, 0 ≤ j ∧ j < (out.length : Int)) → ∃ r, bumpO out js = some r ∧ r.length = out.length := by
  intro js
  induction js with
  | nil => exact fun out _ => ⟨out, rfl, rfl⟩
  | cons j js ih =>
    intro out h
    obtain ⟨r, h1, h2⟩ := ih (out.set j.toNat (wrap64 (rd out j + 1))) (fun z hz => by simpa using h z (by simp [hz]))
    refine ⟨r, ?_, by simpa using h2⟩
    unfold bumpO
    rw [if_pos (h j (by simp))]
    exact h1
theorem dueLoop (t s : Int) (ws r : List Int) (hs : s ≠ 0) (hn : ws.length ≤ 1000000) (h : Ev (fun k => spec_l4Share.l2 k (shrOut t s ws) (shrLeft t s ws) (List.replicate ws.length false) (wrap64 (t - sumW (shrOut t s ws)))) r) :
    Ev (fun k => spec_l4Share.l1 k t ws s [] [] (List.replicate ws.length false) 0) r := by
  have loop : ∀ (d i : Nat), i + d = ws.length → Ev (fun k => spec_l4Share.l1 k t ws s (shrOut t s (ws.take i)) (shrLeft t s (ws.take i)) (List.replicate ws.length false) i) r := by
    intro d
    induction d with
    | zero =>
      intro i hi
      obtain rfl : i = ws.length := by omega
      refine Ev.step (fun k => by rw [spec_l4Share.l1]) (evElse (by omega) ?_)
      rw [List.take_length]
      exact (spec_sum _ (by simp [shrOut]; omega)).bind h
    | succ d ih =>
      intro i hi
      have e1 : shrOut t s (ws.take (i + 1)) = shrOut t s (ws.take i) ++ [wrap64 (Int.tdiv (wrap64 (t * ws[i])) s)] := by
        unfold shrOut; rw [List.take_succ_eq_append_getElem (by omega), List.map_append]; rfl
      have e2 : shrLeft t s (ws.take (i + 1)) = shrLeft t s (ws.take i) ++ [Int.tmod (wrap64 (t * ws[i])) s] := by
        unfold shrLeft; rw [List.take_succ_eq_append_getElem (by omega), List.map_append]; rfl
      have l1 : (shrOut t s (ws.take i)).length ≤ 1000000 := by simp [shrOut]; omega
      have l2 : (shrLeft t s (ws.take i)).length ≤ 1000000 := by simp [shrLeft]; omega
      refine Ev.step (fun k => by rw [spec_l4Share.l1]) (evIf (by omega) (evIf (by omega) (evElse hs (evIf (by omega) (evIf (by omega) ?_)))))
      rw [rdNat ws i (by omega), ← e1, ← e2, wnext (i := i) (n := 3000000) (by omega) (by omega)]
      exact ih (i + 1) (by omega)
  have := loop ws.length 0 (by omega)
  simpa [shrOut, shrLeft] using this
theorem ones (t : Int) (l r : List Int) (hn : l.length ≤ 1000000) (h : Ev (fun k => spec_l4Share.j1 k t (List.replicate l.length 1)) r) : Ev (fun k => spec_l4Share.l0 k t l 0) r := by
  have loop : ∀ (d i : Nat), i + d = l.length → Ev (fun k => spec_l4Share.l0 k t (List.replicate i 1 ++ l.drop i) i) r := by
    intro d
    induction d with
    | zero =>
      intro i hi
      obtain rfl : i = l.length := by omega
      have hl : (List.replicate l.length (1 : Int) ++ l.drop l.length).length = l.length := by simp
      exact Ev.step (fun k => by rw [spec_l4Share.l0]) (evElse (by rw [hl]; omega) (by simpa using h))
    | succ d ih =>
      intro i hi
      have hl : (List.replicate i (1 : Int) ++ l.drop i).length = l.length := by simp; omega
      have hs : (List.replicate i (1 : Int) ++ l.drop i).set i 1 = List.replicate (i + 1) 1 ++ l.drop (i + 1) := by
        rw [dropCons l i (by omega), List.set_append_right _ _ (by simp), show i - (List.replicate i (1 : Int)).length = 0 by simp, List.set_cons_zero, List.replicate_succ']
        simp
      refine Ev.step (fun k => by rw [spec_l4Share.l0]) (evIf (by rw [hl]; omega) (evIf (by omega) ?_))
      rw [Int.toNat_natCast, hs, wnext (i := i) (n := 3000000) (by omega) (by omega)]
      exact ih (i + 1) (by omega)
  have := loop l.length 0 (by omega)
  simpa using this
theorem specShare (t : Int) (l r : List Int) (hn : l.length ≤ 1000000) (hs : l ≠ [] → sumW (shrEven (sumW l) l) ≠ 0)
    (h : l ≠ [] → Ev (fun k => spec_l4Share.l2 k (shrOut t (sumW (shrEven (sumW l) l)) (shrEven (sumW l) l)) (shrLeft t (sumW (shrEven (sumW l) l)) (shrEven (sumW l) l)) (List.replicate l.length false) (wrap64 (t - sumW (shrOut t (sumW (shrEven (sumW l) l)) (shrEven (sumW l) l))))) r) (h0 : l = [] → r = []) :
    Ev (fun k => spec_l4Share.f k t l) r := by
  have hlen : (shrEven (sumW l) l).length = l.length := by unfold shrEven; split <;> simp
  have hj : Ev (fun k => spec_l4Share.j1 k t (shrEven (sumW l) l)) r := by
    refine Ev.step (fun k => by rw [spec_l4Share.j1]) ((spec_sum _ (by omega)).bind ?_)
    refine evIf (by omega) (evIf (by omega) ?_)
    rw [Int.toNat_natCast]
    by_cases e : l = []
    · subst e
      obtain rfl := h0 rfl
      have e2 : shrEven (sumW []) [] = [] := by unfold shrEven; split <;> simp
      rw [e2]
      refine Ev.step (fun k => by rw [spec_l4Share.l1]) (evElse (by simp) ((spec_sum [] (by simp)).bind (Ev.step (fun k => by rw [spec_l4Share.l2]) ?_)))
      have h9 : Ev (fun k => spec_l4Share.j4 k [] [] (List.replicate ([] : List Int).length false) (wrap64 (t - sumW [])) false) [] := Ev.step (fun k => by rw [spec_l4Share.j4]) (evElse (by decide) (evNow rfl))
      by_cases hc : wrap64 (t - sumW []) > 0
      · exact evIf hc (by simpa using h9)
      · exact evElse hc h9
    · exact dueLoop t _ _ r (hs e) (by omega) (by rw [hlen]; exact h e)
  unfold spec_l4Share.f
  refine evSome (evIf (by simp; omega) (evSome ?_))
  rw [List.nil_append]
  refine (spec_sum l (by omega)).bind ?_
  by_cases hz : sumW l = 0
  · refine evIf hz (ones t l r hn ?_)
    rwa [show shrEven (sumW l) l = List.replicate l.length 1 by unfold shrEven; rw [if_pos hz]] at hj
  · refine evElse hz ?_
    rwa [show shrEven (sumW l) l = l by unfold shrEven; rw [if_neg hz]] at hj
end Go.Proofs.YtcjpojppbmlfaaaDoor.Pure
set_option linter.unusedVariables false
set_option linter.unusedSimpArgs false
namespace Go.Proofs.YtcjpojppbmlfaaaDoor.Pure
open Go.RowKit Go.Proofs.YtcjpojppbmlfaaaDoor.Pr Go.Proofs.YtcjpojppbmlfaaaDoorW.PrintWords Go.Proofs.YtcjpojppbmlfaaaDoorW.PrintLast Go.Proofs.YtcjpojppbmlfaaaDoorW.PrintMore
theorem shrFacts {t : Int} {l : List Int} (h : shrOk t l = true) : 0 ≤ t ∧ t ≤ 100000 ∧ l.length ≤ 100 ∧ ∀ x ∈ l, 0 ≤ x ∧ x ≤ 100000 := by
  unfold shrOk inB at h
  simp at h
  obtain ⟨⟨h1, h2⟩, h3, h4⟩ := h
  exact ⟨h1, h2, by omega, fun x hx => h4 x hx⟩
theorem prodB {t x : Int} (ht : 0 ≤ t ∧ t ≤ 100000) (hx : 0 ≤ x ∧ x ≤ 100000) : 0 ≤ t * x ∧ t * x ≤ 10000000000 := by
  refine ⟨Int.mul_nonneg ht.1 hx.1, ?_⟩
  have h2 : t * x ≤ 100000 * x := Int.mul_le_mul_of_nonneg_right ht.2 hx.1
  omega
theorem evenFacts {l : List Int} (hn : l.length ≤ 100) (h : ∀ x ∈ l, 0 ≤ x ∧ x ≤ 100000) (h0 : l ≠ []) : (shrEven (sumW l) l).length = l.length ∧ (∀ x ∈ shrEven (sumW l) l, 0 ≤ x ∧ x ≤ 100000) ∧ sumW (shrEven (sumW l) l) = (shrEven (sumW l) l).sum ∧ 1 ≤ sumW (shrEven (sumW l) l) := by
  have hl : (shrEven (sumW l) l).length = l.length := by unfold shrEven; split <;> simp
  have hb : ∀ x ∈ shrEven (sumW l) l, 0 ≤ x ∧ x ≤ 100000 := by
    unfold shrEven
    split
    · intro x hx; rw [List.eq_of_mem_replicate hx]; omega
    · exact h
  obtain ⟨e, p⟩ := sumW_eq (shrEven (sumW l) l) (fun x hx => ⟨(hb x hx).1, by have := (hb x hx).2; omega⟩) (by omega)
  refine ⟨hl, hb, e, ?_⟩
  have hpos : 0 < l.length := List.length_pos_iff.2 h0
  by_cases hz : sumW l = 0
  · rw [e]
    unfold shrEven
    rw [if_pos hz]
    simp
    omega
  · rw [e]
    have e2 : shrEven (sumW l) l = l := by unfold shrEven; rw [if_neg hz]
    rw [e2] at e p ⊢
    omega
theorem share (t : Int) (l : List Int) (hl : l.length ≤ 1048576) : ∃ r, Ev (fun k => impl_ShrShare.f k t l) r ∧ Ev (fun k => spec_ShrShare.f k t l) r ∧ r.length ≤ 1048576 := by
  by_cases hok : shrOk t l = true
  case neg =>
    refine ⟨[], ?_, ?_, by simp⟩
    · unfold impl_ShrShare.f; exact evElse hok (evNow rfl)
    · unfold spec_ShrShare.f; exact (spec_shrOk t l (by omega)).bind (evElse hok (evNow rfl))
  obtain ⟨t0, t1, hn, hx⟩ := shrFacts hok
  have spec : ∀ r, Ev (fun k => spec_l4Share.f k t l) r → Ev (fun k => spec_ShrShare.f k t l) r := fun r h => by
    unfold spec_ShrShare.f; exact (spec_shrOk t l (by omega)).bind (evIf hok (h.bind (evNow rfl)))
  by_cases h0 : l = []
  · subst h0
    refine ⟨[], ?_, spec _ (specShare t [] [] (by simp) (fun h => absurd rfl h) (fun h => absurd rfl h) (fun _ => rfl)), by simp⟩
    unfold impl_ShrShare.f; exact evIf hok (evIf rfl (evNow rfl))
  obtain ⟨wl, wb, we, w1⟩ := evenFacts hn hx h0
  have himpl : ∀ r, Ev (fun k => (slices_SortStableFunc_int_int.f k (rngI l.length) (shrCmp t (sumW (shrEven (sumW l) l)) (shrEven (sumW l) l))).bind fun ord => (impl_sumOf.f k (shrOut t (sumW (shrEven (sumW l) l)) (shrEven (sumW l) l))).bind fun so =>
        if 0 ≤ t - so ∧ t - so ≤ (ord.length : Int) then bumpO (shrOut t (sumW (shrEven (sumW l) l)) (shrEven (sumW l) l)) (ord.take (t - so).toNat) else none) r → Ev (fun k => impl_ShrShare.f k t l) r := fun r h => by
    unfold impl_ShrShare.f
    have hp : 0 < l.length := List.length_pos_iff.2 h0
    exact evIf hok (evElse (by omega) ((impl_sum l (by omega)).bind ((impl_sum _ (by omega)).bind (evIf w1 h))))
  have hspec : ∀ r, Ev (fun k => spec_l4Share.l2 k (shrOut t (sumW (shrEven (sumW l) l)) (shrEven (sumW l) l)) (shrLeft t (sumW (shrEven (sumW l) l)) (shrEven (sumW l) l)) (List.replicate l.length false) (wrap64 (t - sumW (shrOut t (sumW (shrEven (sumW l) l)) (shrEven (sumW l) l))))) r → Ev (fun k => spec_ShrShare.f k t l) r := fun r h =>
    spec r (specShare t l r (by omega) (fun _ => by omega) (fun _ => h) (fun e => absurd e h0))
  generalize shrEven (sumW l) l = ws at *
  generalize hs : sumW ws = s at *
  have hpos : 0 < l.length := List.length_pos_iff.2 h0
  have eo : shrOut t s ws = ws.map fun x => Int.tdiv (t * x) s := by
    unfold shrOut
    refine List.map_congr_left fun x hx' => ?_
    have p := prodB ⟨t0, t1⟩ (wb x hx')
    have q := tdivBound (t * x) s p.1 p.2 w1
    rw [w64 (x := t * x) (by omega) (by omega), w64 (by omega) (by omega)]
  have el : shrLeft t s ws = ws.map fun x => Int.tmod (t * x) s := by
    unfold shrLeft
    refine List.map_congr_left fun x hx' => ?_
    have p := prodB ⟨t0, t1⟩ (wb x hx')
    rw [w64 (x := t * x) (by omega) (by omega)]
  obtain ⟨so1, so2⟩ := sumW_eq (shrOut t s ws) (fun x hx' => by
    rw [eo] at hx'
    obtain ⟨y, hy, rfl⟩ := List.mem_map.1 hx'
    have p := prodB ⟨t0, t1⟩ (wb y hy)
    exact tdivBound (t * y) s p.1 p.2 w1) (by simp [shrOut]; omega)
  have hq := quoLeft t s w1 ws (fun x hx' => (prodB ⟨t0, t1⟩ (wb x hx')).1) we.symm
  rw [← eo, ← so1, wl] at hq
  obtain ⟨m, hm⟩ : ∃ m : Nat, t - sumW (shrOut t s ws) = (m : Int) := ⟨(t - sumW (shrOut t s ws)).toNat, by omega⟩
  have hml : m ≤ l.length := by omega
  have lo : (shrOut t s ws).length = l.length := by simp [shrOut]; exact wl
  have ll : (shrLeft t s ws).length = l.length := by simp [shrLeft]; exact wl
  have key : ∀ i : Nat, i < l.length → rd (shrLeft t s ws) i = Int.tmod (t * rd ws i) s := fun i hi => by
    rw [rdNat _ i (by omega), rdNat ws i (by omega)]
    simp only [el, List.getElem_map]
  have mem : ∀ x, x ∈ rngI l.length ↔ ∃ i : Nat, x = i ∧ i < l.length := fun x => by
    unfold rngI
    simp only [List.mem_map, List.mem_range]
    exact ⟨fun ⟨i, h1, h2⟩ => ⟨i, h2.symm, h1⟩, fun ⟨i, h1, h2⟩ => ⟨i, h2, h1.symm⟩⟩
  have inc : (rngI l.length).Pairwise (· < ·) := by
    unfold rngI
    rw [List.pairwise_map]
    exact List.Pairwise.imp (fun h => by simpa using h) List.pairwise_lt_range
  have cok : (rngI l.length).Pairwise (Cok (fun i => rd (shrLeft t s ws) i) (shrCmp t s ws)) := by
    refine List.Pairwise.imp_of_mem (fun {x y} hx' hy' hlt => ?_) inc
    obtain ⟨i, rfl, hi⟩ := (mem x).1 hx'
    obtain ⟨j, rfl, hj⟩ := (mem y).1 hy'
    refine ⟨cmpI (Int.tmod (t * rd ws i) s) (Int.tmod (t * rd ws j) s), ?_, ?_, ?_⟩
    · unfold shrCmp; rw [if_pos ⟨by omega, by omega, by omega, by omega⟩]
    · intro hc
      unfold bt
      simp only [key i hi, key j hj]
      unfold cmpI at hc
      split at hc
      · exact .inl (by assumption)
      · split at hc <;> omega
    · intro hc
      unfold bt
      simp only [key i hi, key j hj]
      unfold cmpI at hc
      split at hc
      · omega
      · split at hc
        · exact .inl (by assumption)
        · exact .inr ⟨by omega, hlt⟩
  obtain ⟨ord, ho, hp, hsrt⟩ := sortStable (rngI l.length) (by rw [length_rngI]; omega) cok
  have hol : ord.length = l.length := by rw [hp.length_eq, length_rngI]
  have omem : ∀ x, x ∈ ord ↔ ∃ i : Nat, x = i ∧ i < l.length := fun x => by rw [hp.mem_iff]; exact mem x
  have hmn : (t - sumW (shrOut t s ws)).toNat = m := by omega
  obtain ⟨r, hr, hrl⟩ := bump_some (ord.take m) (shrOut t s ws) (fun j hj => by
    obtain ⟨i, rfl, hi⟩ := (omem j).1 (List.mem_of_mem_take hj)
    omega)
  refine ⟨r, himpl r (ho.bind ((impl_sum _ (by omega)).bind (evIf (by omega) (evNow (by rw [hmn]; exact hr))))), hspec r ?_, by omega⟩
  rw [w64 (x := t - sumW (shrOut t s ws)) (by omega) (by omega)]
  refine give (shrLeft t s ws) l.length ll (by omega) hpos (ord.take m) (shrOut t s ws) r _ _ lo (by simp) (by rw [hm, List.length_take]; omega) (by rw [List.length_take]; omega) hr (hsrt.sublist (List.take_sublist _ _)) (fun j hj => ?_) (fun j hj i hi _ hni => ?_)
  · obtain ⟨i, rfl, hi⟩ := (omem j).1 (List.mem_of_mem_take hj)
    exact ⟨i, rfl, hi, by simp [hi]⟩
  · have h1 : (i : Int) ∈ ord := (omem i).2 ⟨i, rfl, hi⟩
    rw [← List.take_append_drop m ord] at h1
    have h2 : (i : Int) ∈ ord.drop m := by
      rcases List.mem_append.1 h1 with h | h
      · exact absurd h hni
      · exact h
    have h3 := hsrt
    rw [← List.take_append_drop m ord, List.pairwise_append] at h3
    exact h3.2.2 j hj _ h2
end Go.Proofs.YtcjpojppbmlfaaaDoor.Pure
set_option linter.unusedVariables false
set_option linter.unusedSimpArgs false
namespace Go.Proofs.YtcjpojppbmlfaaaDoor.Pure
open Go.RowKit Go.Proofs.YtcjpojppbmlfaaaDoor.Pr Go.Proofs.YtcjpojppbmlfaaaDoorW.PrintWords Go.Proofs.YtcjpojppbmlfaaaDoorW.PrintLast Go.Proofs.YtcjpojppbmlfaaaDoorW.PrintMore
theorem ofInt_i64 (a : Nat) (ha : a < 18446744073709551616) : (BitVec.ofInt 64 (a : Int)).toNat = a := by
  rw [BitVec.ofInt_natCast, BitVec.toNat_ofNat]; exact Nat.mod_eq_of_lt (by omega)
theorem xor_i64 (a b : Int) (h1 : 0 ≤ a) (h2 : a < 4611686018427387904) (h3 : 0 ≤ b) (h4 : b < 4611686018427387904) : 0 ≤ Go.bits .xor .i64 a b := by
  obtain ⟨A, rfl⟩ := Int.eq_ofNat_of_zero_le h1
  obtain ⟨B, rfl⟩ := Int.eq_ofNat_of_zero_le h3
  have hx : A ^^^ B < 2 ^ 62 := Nat.xor_lt_two_pow (by omega) (by omega)
  have e : Go.bits .xor .i64 (A : Int) (B : Int) = IntKind.i64.wrap ((BitVec.ofInt 64 (A : Int) ^^^ BitVec.ofInt 64 (B : Int)).toNat : Int) := rfl
  rw [e, BitVec.toNat_xor, ofInt_i64 A (by omega), ofInt_i64 B (by omega), IntKind.wrap_i64]
  omega
theorem tmod_range (a n : Int) (h : 0 ≤ a) (hn : 1 ≤ n) : 0 ≤ Int.tmod a n ∧ Int.tmod a n < n := by
  rw [Int.tmod_eq_emod_of_nonneg h]; exact ⟨Int.emod_nonneg _ (by omega), Int.emod_lt_of_pos _ (by omega)⟩
def Bytes (b : List Int) : Prop := b.length ≤ 2000 ∧ ∀ x ∈ b, 0 ≤ x ∧ x ≤ 255
theorem Bytes.at_ {b : List Int} (h : Bytes b) (i : Int) : 0 ≤ rd b i ∧ rd b i ≤ 255 := by
  unfold rd
  rw [List.getD_eq_getElem?_getD]
  cases e : b[i.toNat]? with
  | none => simp
  | some x => simpa using h.2 x (List.mem_of_getElem? e)
def LIMP : Int := 1099511627776
theorem pick_run {b : List Int} (hb : Bytes b) {p n : Int} (hp : 0 ≤ p) (hp2 : p < LIMP) : Run (fun k => spec_l20Rd_pick.f k b p n) (fun r => 0 ≤ r.1 ∧ (1 ≤ n → r.1 < n) ∧ (n < 1 → r.1 = 0) ∧ r.2 = p + 1) := by
  unfold LIMP at hp2
  have hl := hb.1
  have w1 : wrap64 (p + 1) = p + 1 := w64 (by omega) (by omega)
  have w2 : wrap64 (p + 1 - 1) = p := by rw [w64 (by omega) (by omega)]; omega
  unfold spec_l20Rd_pick.f
  by_cases hn : n < 1
  · refine Run.pos hn (Run.step (fun k => by rw [spec_l20Rd_pick.j0]) (Run.pos rfl (Run.ret ?_)))
    rw [w1]; exact ⟨by omega, by omega, fun _ => rfl, rfl⟩
  · refine Run.neg hn (Run.step (fun k => by rw [spec_l20Rd_pick.j0]) ?_)
    by_cases h0 : b.length = 0
    · refine Run.pos (by simp [h0]) (Run.ret ?_)
      rw [w1]; exact ⟨by omega, by omega, by omega, rfl⟩
    · refine Run.neg (by simp; intro h; simp [h] at h0) ?_
      rw [w1, w2]
      by_cases hlt : p < (b.length : Int)
      · refine Run.pos hlt (Run.pos hp (Run.neg (by omega) (Run.ret ?_)))
        obtain ⟨r0, r1⟩ := hb.at_ p
        rw [w64 (by omega) (by omega)]
        obtain ⟨m0, m1⟩ := tmod_range (rd b p) n r0 (by omega)
        exact ⟨m0, fun _ => m1, by omega, rfl⟩
      · have hL : (1 : Int) ≤ b.length := by omega
        have e7 : wrap64 (wrap64 (p * 7) + 3) = p * 7 + 3 := by rw [w64 (x := p * 7) (by omega) (by omega), w64 (by omega) (by omega)]
        rw [e7]
        obtain ⟨a0, a1⟩ := tmod_range p b.length hp hL
        obtain ⟨c0, c1⟩ := tmod_range (p * 7 + 3) b.length (by omega) hL
        refine Run.neg hlt (Run.neg (by omega) (Run.pos a0 (Run.pos a1 (Run.pos c0 (Run.pos c1 (Run.neg (by omega) (Run.ret ?_)))))))
        obtain ⟨x0, x1⟩ := hb.at_ (Int.tmod p b.length)
        obtain ⟨y0, y1⟩ := hb.at_ (Int.tmod (p * 7 + 3) b.length)
        have ed : Int.tdiv p (b.length : Int) = p / (b.length : Int) := Int.tdiv_eq_ediv_of_nonneg hp
        have d0 : 0 ≤ p / (b.length : Int) := Int.ediv_nonneg hp (by omega)
        have d1 : p / (b.length : Int) ≤ p := Int.ediv_le_self _ hp
        rw [ed]
        generalize p / (b.length : Int) = q at d0 d1 ⊢
        generalize rd b (Int.tmod p b.length) = x at x0 x1 ⊢
        generalize rd b (Int.tmod (p * 7 + 3) b.length) = y at y0 y1 ⊢
        have eX : wrap64 (wrap64 (wrap64 (wrap64 (wrap64 x * 131) + wrap64 (wrap64 y * 1117)) + wrap64 (p * 29)) + wrap64 (wrap64 q * 53)) = x * 131 + y * 1117 + p * 29 + q * 53 := by
          rw [w64 (x := x) (by omega) (by omega), w64 (x := y) (by omega) (by omega), w64 (x := q) (by omega) (by omega), w64 (x := x * 131) (by omega) (by omega), w64 (x := y * 1117) (by omega) (by omega), w64 (x := p * 29) (by omega) (by omega), w64 (x := q * 53) (by omega) (by omega), w64 (x := x * 131 + y * 1117) (by omega) (by omega), w64 (x := x * 131 + y * 1117 + p * 29) (by omega) (by omega), w64 (by omega) (by omega)]
        rw [eX]
        generalize hX : x * 131 + y * 1117 + p * 29 + q * 53 = X
        have X0 : 0 ≤ X := by omega
        have X1 : X < 4611686018427387904 := by omega
        have et : Int.tdiv X 64 = X / 64 := Int.tdiv_eq_ediv_of_nonneg X0
        rw [et, w64 (x := X / 64) (by omega) (by omega)]
        obtain ⟨m0, m1⟩ := tmod_range _ n (xor_i64 X (X / 64) X0 X1 (by omega) (by omega)) (by omega)
        exact ⟨m0, fun _ => m1, by omega, rfl⟩
theorem open_eq (l : List Int) (h : ∀ x ∈ l, (Lit.int .u8 x).wf = true) : ∃ b, spec_l20Open.f l = some (b, 0) ∧ Bytes b := by
  unfold spec_l20Open.f
  have hb : ∀ x ∈ l, 0 ≤ x ∧ x ≤ 255 := fun x hx => wfb (h x hx)
  by_cases hl : (l.length : Int) > 2000
  · refine ⟨_, by rw [if_pos hl, if_pos (by omega)], by simp; omega, fun x hx => hb x (List.mem_of_mem_take hx)⟩
  · exact ⟨_, by rw [if_neg hl], by omega, hb⟩
end Go.Proofs.YtcjpojppbmlfaaaDoor.Pure
set_option linter.unusedVariables false
set_option linter.unusedSimpArgs false
namespace Go.Proofs.YtcjpojppbmlfaaaDoor.Pure
open Go.RowKit Go.Proofs.YtcjpojppbmlfaaaDoor.Pr Go.Proofs.YtcjpojppbmlfaaaDoorW.PrintWords Go.Proofs.YtcjpojppbmlfaaaDoorW.PrintLast Go.Proofs.YtcjpojppbmlfaaaDoorW.PrintMore
theorem weights_run {b : List Int} (hb : Bytes b) {p : Int} (hp : 0 ≤ p) (hp2 : p + 40 < LIMP) : Run (fun k => spec_l20Weights.f k b p 16) (fun r => r.1.length ≤ 9) := by
  unfold spec_l20Weights.f
  have loop : ∀ (d : Nat) (out : List Int) (q : Int), out.length + d ≤ 8 → 0 ≤ q → q + 2 * d + 5 < LIMP → Run (fun k => spec_l20Weights.l0 k 16 out (d : Int) b q) (fun r => r.1.length ≤ 9) := by
    intro d
    induction d with
    | zero =>
      intro out q ho hq hq2
      refine Run.step (fun k => by rw [spec_l20Weights.l0]) ?_
      refine Run.neg (by omega) ?_
      refine Run.bind (pick_run hb hq (n := 16) (by omega)) fun a ha => ?_
      obtain ⟨a1, a2, a3, a4⟩ := ha
      refine Run.ite (fun _ => ?_) (fun _ => Run.ret (by show out.length ≤ 9; omega))
      refine Run.some ?_
      refine Run.bind (pick_run hb (p := a.2) (n := 3) (by omega) (by rw [a4]; omega)) fun c hc => ?_
      obtain ⟨c1, c2, c3, c4⟩ := hc
      refine Run.pos c1 (Run.pos (by have := c2 (by omega); simpa using this) (Run.pos (by omega) (Run.ret ?_)))
      show (out ++ [_]).length ≤ 9
      simp; omega
    | succ d ih =>
      intro out q ho hq hq2
      refine Run.step (fun k => by rw [spec_l20Weights.l0]) ?_
      refine Run.pos (by omega) ?_
      refine Run.bind (pick_run hb hq (n := 20) (by omega)) fun a ha => ?_
      obtain ⟨a1, a2, a3, a4⟩ := ha
      refine Run.some ?_
      refine Run.bind (pick_run hb (p := a.2) (n := 7) (by omega) (by rw [a4]; omega)) fun c hc => ?_
      obtain ⟨c1, c2, c3, c4⟩ := hc
      refine Run.pos c1 (Run.pos (by have := c2 (by omega); simpa using this) (Run.pos (by omega) ?_))
      have e : wrap64 (((d + 1 : Nat) : Int) - 1) = (d : Int) := by rw [w64 (by omega) (by omega)]; omega
      rw [e]
      exact ih _ c.2 (by simp; omega) (by omega) (by rw [c4, a4]; omega)
  refine Run.bind (pick_run hb hp (n := 8) (by omega)) fun a ha => ?_
  obtain ⟨a1, a2, a3, a4⟩ := ha
  have a2' := a2 (by omega)
  obtain ⟨d, hd⟩ : ∃ d : Nat, a.1 = d := ⟨a.1.toNat, by omega⟩
  rw [hd]
  exact loop d [] a.2 (by simp; omega) (by omega) (by rw [a4]; omega)
theorem drawShr (l : List Int) (h : ∀ x ∈ l, (Lit.int .u8 x).wf = true) : Run (fun k => spec_DrawShrShare.f k l) (fun r => r.2.length ≤ 9) := by
  unfold spec_DrawShrShare.f
  obtain ⟨b, e, hb⟩ := open_eq l h
  have hL : (1000 : Int) < LIMP := by unfold LIMP; omega
  refine Run.constBind e ?_
  refine Run.bind (pick_run hb (p := 0) (n := 200) (by omega) (by omega)) fun a ha => ?_
  obtain ⟨a1, a2, a3, a4⟩ := ha
  refine Run.some ?_
  refine Run.bind (pick_run hb (p := a.2) (n := 8) (by omega) (by omega)) fun c hc => ?_
  obtain ⟨c1, c2, c3, c4⟩ := hc
  refine Run.pos c1 (Run.pos (by have := c2 (by omega); simpa using this) ?_)
  refine Run.bind (weights_run hb (p := c.2) (by omega) (by omega)) fun w hw => ?_
  exact Run.ret hw
end Go.Proofs.YtcjpojppbmlfaaaDoor.Pure
set_option linter.unusedVariables false
set_option linter.unusedSimpArgs false
namespace Go.Proofs.YtcjpojppbmlfaaaDoor.Pure
open Go.RowKit Go.Proofs.YtcjpojppbmlfaaaDoor.Pr Go.Proofs.YtcjpojppbmlfaaaDoorW.PrintWords Go.Proofs.YtcjpojppbmlfaaaDoorW.PrintLast Go.Proofs.YtcjpojppbmlfaaaDoorW.PrintMore
def bl (s : ByteArray) : List UInt8 := s.data.toList
theorem bl_len (s : ByteArray) : s.size = (bl s).length := Go.Lib.size_eq s
theorem bl_mk (l : List UInt8) : bl (⟨l.toArray⟩ : ByteArray) = l := rfl
theorem rdS (l : List ByteArray) (i : Nat) (h : i < l.length) : rdOf ByteArray.empty l (i : Int) = l[i] := by unfold rdOf; simp [h]
theorem toList_nil (s : ByteArray) : s.toList = [] ↔ bl s = [] := by rw [Go.Lib.toList_data]; rfl
theorem cutL_le : ∀ (l w : List UInt8), w ∈ cutL l → w.length ≤ l.length := by
  intro l
  induction l with
  | nil => intro w h; simp [cutL] at h; subst h; simp
  | cons b l ih =>
    intro w h
    by_cases hb : b = 32
    · subst hb
      rw [cutL_blank] at h
      rcases List.mem_cons.mp h with rfl | h
      · simp
      · have := ih w h; simp; omega
    · obtain ⟨v, vs, e⟩ := cutL_ne l
      rw [cutL_other hb e] at h
      rcases List.mem_cons.mp h with rfl | h
      · have := ih v (by rw [e]; simp); simp; omega
      · have := ih w (by rw [e]; simp [h]); simp; omega
theorem cutB_le (s w : ByteArray) (h : w ∈ cutB s) : w.size ≤ s.size := by
  obtain ⟨l, hl, rfl⟩ := List.mem_map.mp h
  rw [bl_len, bl_len, bl_mk]
  exact cutL_le _ _ hl
def goodB (w : ByteArray) : Bool := goodW (bl w)
theorem cutB_good (s : ByteArray) : (cutB s).all goodB = (cutL (bl s)).all goodW := by
  unfold cutB
  rw [List.all_map]; rfl
def txtOk (s : ByteArray) : Bool := txtOkL (bl s)
theorem trim_ok (w : ByteArray) (h : w.size ≤ 9223372036854775807) : strings_Trim.f w (⟨#[97, 98, 99, 100, 101, 102, 103, 104, 105, 106, 107, 108, 109, 110, 111, 112, 113, 114, 115, 116, 117, 118, 119, 120, 121, 122]⟩ : ByteArray) = some ⟨(Go.Lib.trimS (bl w) letters26).toArray⟩ := by
  unfold strings_Trim.f
  rw [if_pos ⟨rfl, h⟩]; rfl
theorem implTxtOk (s : ByteArray) (h : s.size < 4294967281) : Ev (fun k => impl_TxtOk.f k s) (txtOk s) := by
  unfold impl_TxtOk.f txtOk txtOkL
  by_cases h0 : bl s = []
  · refine evIf ((toList_nil s).mpr h0) (evNow ?_)
    rw [h0]; rfl
  · refine evElse (fun e => h0 ((toList_nil s).mp e)) ?_
    refine evBindC (show strings_Split.f s (⟨#[32]⟩ : ByteArray) = some (cutB s) by unfold strings_Split.f; rw [if_pos ⟨rfl, h⟩]) ?_
    have hn : (cutB s).length ≤ s.size + 1 := by
      have := List.count_le_length (a := (32 : UInt8)) (l := bl s)
      rw [show (cutB s).length = (bl s).count 32 + 1 by rw [cutB, List.length_map, cutL_length]; rfl, bl_len]; omega
    have loop : ∀ (d i : Nat), i + d = (cutB s).length → Ev (fun k => impl_TxtOk.l0 k s (cutB s) ((cutB s).length : Int) i) (((cutB s).drop i).all goodB && decide ((s.size : Int) ≤ 30)) := by
      intro d
      induction d with
      | zero =>
        intro i hi
        obtain rfl : i = (cutB s).length := by omega
        rw [List.drop_length]
        refine Ev.step (fun k => by rw [impl_TxtOk.l0]) ?_
        exact evElse (by omega) (evNow (by simp))
      | succ d ih =>
        intro i hi
        have hlt : i < (cutB s).length := by omega
        have hw : (cutB s)[i].size ≤ s.size := cutB_le s _ (List.getElem_mem _)
        rw [dropCons _ i hlt, List.all_cons]
        refine Ev.step (fun k => by rw [impl_TxtOk.l0]) (evIf (by omega) (evIf (by omega) (evIf (by omega) ?_)))
        rw [rdS _ i hlt]
        generalize (cutB s)[i] = w at hw ⊢
        by_cases he : bl w = []
        · refine evIf ((toList_nil w).mpr he) (evNow ?_)
          simp [goodB, goodW, he]
        · refine evElse (fun e => he ((toList_nil w).mp e)) (evBindC (trim_ok w (by omega)) ?_)
          have ht := trim_empty (bl w)
          have he' : (bl w).isEmpty = false := by simpa using he
          have hg : goodB w = (bl w).all letter := by simp [goodB, goodW, he']
          rw [hg, ← ht]
          cases hc : (Go.Lib.trimS (bl w) letters26).isEmpty with
          | true =>
            refine evIf ((toList_nil _).mpr (by rw [bl_mk]; simpa using hc)) ?_
            rw [wnext (n := (cutB s).length) (by omega) (by omega)]
            simpa using ih (i + 1) (by omega)
          | false =>
            refine evElse (fun e => ?_) (evNow (by simp))
            have := (toList_nil _).mp e
            rw [bl_mk] at this
            rw [this] at hc; simp at hc
    have := loop (cutB s).length 0 (by omega)
    rw [List.drop_zero, cutB_good] at this
    have he : (bl s).isEmpty = false := by simpa using h0
    have hd : decide ((s.size : Int) ≤ 30) = decide ((bl s).length ≤ 30) := by rw [← bl_len]; exact decide_eq_decide.mpr (by omega)
    rw [he, Bool.false_or, Bool.and_comm, ← hd]
    exact this
end Go.Proofs.YtcjpojppbmlfaaaDoor.Pure
set_option linter.unusedVariables false
set_option linter.unusedSimpArgs false
namespace Go.Proofs.YtcjpojppbmlfaaaDoor.Pure
open Go.RowKit Go.Proofs.YtcjpojppbmlfaaaDoor.Pr Go.Proofs.YtcjpojppbmlfaaaDoorW.PrintWords Go.Proofs.YtcjpojppbmlfaaaDoorW.PrintLast Go.Proofs.YtcjpojppbmlfaaaDoorW.PrintMore
theorem pwOk : Ev (fun k => laws_pwOk.f k) true := by
  unfold laws_pwOk.f
  have h := implTxtOk (⟨#[97, 98, 32, 99]⟩ : ByteArray) (by show 4 < 4294967281; omega)
  have e : txtOk (⟨#[97, 98, 32, 99]⟩ : ByteArray) = true := by decide +kernel
  rw [e] at h
  exact h.bind (evNow rfl)
end Go.Proofs.YtcjpojppbmlfaaaDoor.Pure
set_option linter.unusedVariables false
set_option linter.unusedSimpArgs false
namespace Go.Proofs.YtcjpojppbmlfaaaDoor.Pure
open Go.RowKit Go.Proofs.YtcjpojppbmlfaaaDoor.Pr Go.Proofs.YtcjpojppbmlfaaaDoorW.PrintWords Go.Proofs.YtcjpojppbmlfaaaDoorW.PrintLast Go.Proofs.YtcjpojppbmlfaaaDoorW.PrintMore
theorem pwInts (l : List Int) (h : l.length ≤ 9223372036854775807) : Ev (fun k => laws_pwInts.f k l l) true := by
  unfold laws_pwInts.f
  have loop : ∀ (d i : Nat), i + d = l.length → Ev (fun k => laws_pwInts.l0 k l l i) true := by
    intro d
    induction d with
    | zero =>
      intro i hi
      refine Ev.step (fun k => by rw [laws_pwInts.l0]) ?_
      exact evElse (by omega) (evNow rfl)
    | succ d ih =>
      intro i hi
      refine Ev.step (fun k => by rw [laws_pwInts.l0]) (evIf (by omega) (evIf (by omega) (evIf (by omega) (evIf rfl ?_))))
      rw [wnext (n := l.length) (by omega) (by omega)]
      exact ih (i + 1) (by omega)
  exact evIf rfl (loop l.length 0 (by omega))
end Go.Proofs.YtcjpojppbmlfaaaDoor.Pure
set_option linter.unusedVariables false
set_option linter.unusedSimpArgs false
namespace Go.Proofs.YtcjpojppbmlfaaaDoor.Pure
open Go.RowKit Go.Proofs.YtcjpojppbmlfaaaDoor.Pr Go.Proofs.YtcjpojppbmlfaaaDoorW.PrintWords Go.Proofs.YtcjpojppbmlfaaaDoorW.PrintLast Go.Proofs.YtcjpojppbmlfaaaDoorW.PrintMore
theorem pwSum (l : List Int) (h : l.length ≤ 9223372036854775807) : Ev (fun k => laws_pwSum.f k l) (sumW l) := by
  unfold laws_pwSum.f sumW
  have loop : ∀ (d i : Nat) (s : Int), i + d = l.length → Ev (fun k => laws_pwSum.l0 k l s i) ((l.drop i).foldl (fun s x => wrap64 (s + x)) s) := by
    intro d
    induction d with
    | zero =>
      intro i s hi
      rw [show i = l.length by omega, List.drop_length]
      refine Ev.step (fun k => by rw [laws_pwSum.l0]) ?_
      exact evElse (by omega) (evNow rfl)
    | succ d ih =>
      intro i s hi
      refine Ev.step (fun k => by rw [laws_pwSum.l0]) ?_
      refine evIf (by omega) ?_
      refine evIf (by omega) ?_
      rw [rdNat l i (by omega), dropCons l i (by omega), wnext (n := l.length) (by omega) (by omega), List.foldl_cons]
      exact ih (i + 1) _ (by omega)
  exact loop l.length 0 0 (by omega)
theorem due_at {t : Int} {l : List Int} (hok : shrOk t l = true) (hs : 1 ≤ sumW l) (i : Nat) (hi : i < l.length) : shrDue t l i = Int.tdiv (t * l[i]) (sumW l) ∧ 0 ≤ Int.tdiv (t * l[i]) (sumW l) ∧ Int.tdiv (t * l[i]) (sumW l) ≤ 10000000000 := by
  obtain ⟨t0, t1, hn, hx⟩ := shrFacts hok
  have p := prodB ⟨t0, t1⟩ (hx _ (List.getElem_mem hi))
  have q := tdivBound (t * l[i]) (sumW l) p.1 p.2 hs
  refine ⟨?_, q⟩
  unfold shrDue
  rw [if_pos ⟨hok, by omega, by omega, by omega⟩, rdNat l i hi, w64 (x := t * l[i]) (by omega) (by omega), w64 (by omega) (by omega)]
end Go.Proofs.YtcjpojppbmlfaaaDoor.Pure
set_option linter.unusedVariables false
set_option linter.unusedSimpArgs false
namespace Go.Proofs.YtcjpojppbmlfaaaDoor.Pure
open Go.RowKit Go.Proofs.YtcjpojppbmlfaaaDoor.Pr Go.Proofs.YtcjpojppbmlfaaaDoorW.PrintWords Go.Proofs.YtcjpojppbmlfaaaDoorW.PrintLast Go.Proofs.YtcjpojppbmlfaaaDoorW.PrintMore
structure Shared (t s : Int) (ws r : List Int) : Prop where
  len : r.length = ws.length
  pos : 1 ≤ s
  sum : s = ws.sum
  ex : ∃ T : List Int, (∀ i : Nat, i < ws.length → rd r i = Int.tdiv (t * rd ws i) s + (if (i : Int) ∈ T then 1 else 0)) ∧
    (∀ i k : Nat, i < ws.length → k < ws.length → bt (fun j => Int.tmod (t * rd ws j) s) i k → (k : Int) ∈ T → (i : Int) ∈ T) ∧
    (t = 0 → T = [])
  tot : r.sum = t
  zero : ∀ i : Nat, i < ws.length → rd ws i = 0 → rd r i = 0
theorem sum_set (v : Int) : ∀ (l : List Int) (m : Nat) (h : m < l.length), (l.set m v).sum = l.sum - l[m] + v
  | x :: l, 0, _ => by rw [List.set_cons_zero, List.sum_cons, List.sum_cons, List.getElem_cons_zero]; omega
  | x :: l, m + 1, h => by
    have := sum_set v l m (by simpa using h)
    rw [List.set_cons_succ, List.sum_cons, List.sum_cons, List.getElem_cons_succ, this]; omega
theorem bump_sum : ∀ (js out r : List Int), (∀ j ∈ js, ∃ i : Nat, j = i ∧ i < out.length) → (∀ x ∈ out, 0 ≤ x ∧ x + (js.length : Int) ≤ 4000000000000) → bumpO out js = some r → r.sum = out.sum + (js.length : Int)
  | [], out, r, _, _, h => by
    simp only [bumpO, Option.some.injEq] at h
    subst h; simp
  | j :: js, out, r, hj, hb, h => by
    obtain ⟨m, rfl, hm⟩ := hj j (by simp)
    unfold bumpO at h
    rw [if_pos ⟨by omega, by omega⟩, Int.toNat_natCast] at h
    have hmb := hb _ (List.getElem_mem hm)
    have hrm : rd out (m : Int) = out[m] := rdNat out m hm
    rw [List.length_cons] at hmb
    have ew : wrap64 (rd out (m : Int) + 1) = out[m] + 1 := by rw [hrm, w64 (by omega) (by omega)]
    rw [ew] at h
    have := bump_sum js (out.set m (out[m] + 1)) r (fun j hj' => by
      obtain ⟨i, e, hi⟩ := hj j (by simp [hj']); exact ⟨i, e, by simpa using hi⟩) (fun x hx => by
      rcases List.mem_or_eq_of_mem_set hx with hx | rfl
      · have := hb x hx; rw [List.length_cons] at this; omega
      · omega) h
    rw [this, sum_set _ _ _ hm, List.length_cons]; omega
theorem remSum (t s : Int) : ∀ ws : List Int, (ws.map fun x => Int.tmod (t * x) s).sum + s * (ws.map fun x => Int.tdiv (t * x) s).sum = t * ws.sum
  | [] => by simp
  | x :: ws => by
    have ih := remSum t s ws
    have e := Int.tmod_add_mul_tdiv (t * x) s
    rw [List.map_cons, List.map_cons, List.sum_cons, List.sum_cons, List.sum_cons, Int.mul_add, Int.mul_add]
    omega
theorem permSum {a b : List Int} (h : a.Perm b) : a.sum = b.sum := by
  induction h with
  | nil => rfl
  | cons x _ ih => rw [List.sum_cons, List.sum_cons, ih]
  | swap x y l => rw [List.sum_cons, List.sum_cons, List.sum_cons, List.sum_cons]; omega
  | trans _ _ h1 h2 => exact h1.trans h2
theorem sumLe (f : Int → Int) (b : Int) : ∀ l : List Int, (∀ x ∈ l, f x ≤ b) → (l.map f).sum ≤ b * (l.length : Int)
  | [], _ => by simp
  | x :: l, h => by
    have h1 := h x (by simp)
    have h2 := sumLe f b l (fun y hy => h y (by simp [hy]))
    rw [List.map_cons, List.sum_cons, List.length_cons]
    have : b * ((l.length + 1 : Nat) : Int) = b * (l.length : Int) + b := by rw [Int.natCast_add, Int.mul_add]; simp
    omega
theorem bump_at : ∀ (js out r : List Int), js.Nodup → (∀ j ∈ js, ∃ i : Nat, j = i ∧ i < out.length) → (∀ x ∈ out, 0 ≤ x ∧ x ≤ 1000000000000) → bumpO out js = some r → ∀ i : Nat, i < out.length → rd r i = rd out i + (if (i : Int) ∈ js then 1 else 0)
  | [], out, r, _, _, _, h, i, hi => by
    simp only [bumpO, Option.some.injEq] at h
    subst h; simp
  | j :: js, out, r, hnd, hj, hb, h, i, hi => by
    obtain ⟨m, rfl, hm⟩ := hj j (by simp)
    unfold bumpO at h
    rw [if_pos ⟨by omega, by omega⟩, Int.toNat_natCast] at h
    have hmb := hb _ (List.getElem_mem hm)
    have hrm : rd out (m : Int) = out[m] := rdNat out m hm
    have ew : wrap64 (rd out (m : Int) + 1) = out[m] + 1 := by rw [hrm, w64 (by omega) (by omega)]
    rw [ew] at h
    rw [List.nodup_cons] at hnd
    have gen : ∀ (js out r : List Int), (∀ j ∈ js, ∃ i : Nat, j = i ∧ i < out.length) → (∀ i : Nat, i < out.length → (i : Int) ∈ js → 0 ≤ rd out i ∧ rd out i ≤ 1000000000000) → js.Nodup → bumpO out js = some r → r.length = out.length ∧ ∀ i : Nat, i < out.length → rd r i = rd out i + (if (i : Int) ∈ js then 1 else 0) := by
      intro js
      induction js with
      | nil => intro out r _ _ _ h; simp only [bumpO, Option.some.injEq] at h; subst h; simp
      | cons q qs ih =>
        intro out r hj hb hnd h
        obtain ⟨m, rfl, hm⟩ := hj q (by simp)
        rw [List.nodup_cons] at hnd
        unfold bumpO at h
        rw [if_pos ⟨by omega, by omega⟩, Int.toNat_natCast] at h
        have hmb := hb m hm (by simp)
        have ew : wrap64 (rd out (m : Int) + 1) = rd out m + 1 := w64 (by omega) (by omega)
        rw [ew] at h
        have hrd : ∀ i : Nat, i < out.length → rd (out.set m (rd out m + 1)) (i : Int) = if i = m then rd out m + 1 else rd out i := by
          intro i hi
          rw [rdNat _ i (by simpa using hi), List.getElem_set, rdNat out i hi]
          by_cases e : m = i
          · subst e; simp
          · rw [if_neg e, if_neg (fun q => e q.symm)]
        obtain ⟨l1, l2⟩ := ih (out.set m (rd out m + 1)) r (fun j hj' => by
          obtain ⟨i, e, hi⟩ := hj j (by simp [hj']); exact ⟨i, e, by simpa using hi⟩) (fun i hi hmem => by
          rw [hrd i (by simpa using hi)]
          have hne : i ≠ m := by rintro rfl; exact hnd.1 hmem
          rw [if_neg hne]
          exact hb i (by simpa using hi) (by simp [hmem])) hnd.2 h
        refine ⟨by simpa using l1, fun i hi => ?_⟩
        rw [l2 i (by simpa using hi), hrd i hi]
        by_cases e : i = m
        · subst e
          have : ¬ ((i : Int) ∈ qs) := hnd.1
          rw [if_pos rfl, if_neg this, if_pos (by simp)]; omega
        · rw [if_neg e]
          by_cases hq : (i : Int) ∈ qs
          · rw [if_pos hq, if_pos (by simp [hq])]
          · rw [if_neg hq, if_neg (by simp [hq]; omega)]
    have h2 := gen (((m : Int)) :: js) out r hj (fun i hi _ => by have := hb _ (List.getElem_mem hi); rw [rdNat out i hi]; exact this) (by rw [List.nodup_cons]; exact hnd) (by
      unfold bumpO
      rw [if_pos ⟨by omega, by omega⟩, Int.toNat_natCast, ew]; exact h)
    exact h2.2 i hi
end Go.Proofs.YtcjpojppbmlfaaaDoor.Pure
set_option linter.unusedVariables false
set_option linter.unusedSimpArgs false
namespace Go.Proofs.YtcjpojppbmlfaaaDoor.Pure
open Go.RowKit Go.Proofs.YtcjpojppbmlfaaaDoor.Pr Go.Proofs.YtcjpojppbmlfaaaDoorW.PrintWords Go.Proofs.YtcjpojppbmlfaaaDoorW.PrintLast Go.Proofs.YtcjpojppbmlfaaaDoorW.PrintMore
theorem shared (t : Int) (l : List Int) (hl : l.length ≤ 1048576) (hok : shrOk t l = true) (h0 : l ≠ []) : ∃ r, Ev (fun k => impl_ShrShare.f k t l) r ∧ Ev (fun k => spec_ShrShare.f k t l) r ∧ Shared t (sumW (shrEven (sumW l) l)) (shrEven (sumW l) l) r := by
  obtain ⟨t0, t1, hn, hx⟩ := shrFacts hok
  have spec : ∀ r, Ev (fun k => spec_l4Share.f k t l) r → Ev (fun k => spec_ShrShare.f k t l) r := fun r h => by
    unfold spec_ShrShare.f; exact (spec_shrOk t l (by omega)).bind (evIf hok (h.bind (evNow rfl)))
  obtain ⟨wl, wb, we, w1⟩ := evenFacts hn hx h0
  have himpl : ∀ r, Ev (fun k => (slices_SortStableFunc_int_int.f k (rngI l.length) (shrCmp t (sumW (shrEven (sumW l) l)) (shrEven (sumW l) l))).bind fun ord => (impl_sumOf.f k (shrOut t (sumW (shrEven (sumW l) l)) (shrEven (sumW l) l))).bind fun so =>
        if 0 ≤ t - so ∧ t - so ≤ (ord.length : Int) then bumpO (shrOut t (sumW (shrEven (sumW l) l)) (shrEven (sumW l) l)) (ord.take (t - so).toNat) else none) r → Ev (fun k => impl_ShrShare.f k t l) r := fun r h => by
    unfold impl_ShrShare.f
    have hp : 0 < l.length := List.length_pos_iff.2 h0
    exact evIf hok (evElse (by omega) ((impl_sum l (by omega)).bind ((impl_sum _ (by omega)).bind (evIf w1 h))))
  have hspec : ∀ r, Ev (fun k => spec_l4Share.l2 k (shrOut t (sumW (shrEven (sumW l) l)) (shrEven (sumW l) l)) (shrLeft t (sumW (shrEven (sumW l) l)) (shrEven (sumW l) l)) (List.replicate l.length false) (wrap64 (t - sumW (shrOut t (sumW (shrEven (sumW l) l)) (shrEven (sumW l) l))))) r → Ev (fun k => spec_ShrShare.f k t l) r := fun r h =>
    spec r (specShare t l r (by omega) (fun _ => by omega) (fun _ => h) (fun e => absurd e h0))
  generalize shrEven (sumW l) l = ws at *
  generalize hs : sumW ws = s at *
  have hpos : 0 < l.length := List.length_pos_iff.2 h0
  have eo : shrOut t s ws = ws.map fun x => Int.tdiv (t * x) s := by
    unfold shrOut
    refine List.map_congr_left fun x hx' => ?_
    have p := prodB ⟨t0, t1⟩ (wb x hx')
    have q := tdivBound (t * x) s p.1 p.2 w1
    rw [w64 (x := t * x) (by omega) (by omega), w64 (by omega) (by omega)]
  have el : shrLeft t s ws = ws.map fun x => Int.tmod (t * x) s := by
    unfold shrLeft
    refine List.map_congr_left fun x hx' => ?_
    have p := prodB ⟨t0, t1⟩ (wb x hx')
    rw [w64 (x := t * x) (by omega) (by omega)]
  obtain ⟨so1, so2⟩ := sumW_eq (shrOut t s ws) (fun x hx' => by
    rw [eo] at hx'
    obtain ⟨y, hy, rfl⟩ := List.mem_map.1 hx'
    have p := prodB ⟨t0, t1⟩ (wb y hy)
    exact tdivBound (t * y) s p.1 p.2 w1) (by simp [shrOut]; omega)
  have hq := quoLeft t s w1 ws (fun x hx' => (prodB ⟨t0, t1⟩ (wb x hx')).1) we.symm
  rw [← eo, ← so1, wl] at hq
  obtain ⟨m, hm⟩ : ∃ m : Nat, t - sumW (shrOut t s ws) = (m : Int) := ⟨(t - sumW (shrOut t s ws)).toNat, by omega⟩
  have hml : m ≤ l.length := by omega
  have lo : (shrOut t s ws).length = l.length := by simp [shrOut]; exact wl
  have ll : (shrLeft t s ws).length = l.length := by simp [shrLeft]; exact wl
  have key : ∀ i : Nat, i < l.length → rd (shrLeft t s ws) i = Int.tmod (t * rd ws i) s := fun i hi => by
    rw [rdNat _ i (by omega), rdNat ws i (by omega)]
    simp only [el, List.getElem_map]
  have mem : ∀ x, x ∈ rngI l.length ↔ ∃ i : Nat, x = i ∧ i < l.length := fun x => by
    unfold rngI
    simp only [List.mem_map, List.mem_range]
    exact ⟨fun ⟨i, h1, h2⟩ => ⟨i, h2.symm, h1⟩, fun ⟨i, h1, h2⟩ => ⟨i, h2, h1.symm⟩⟩
  have inc : (rngI l.length).Pairwise (· < ·) := by
    unfold rngI
    rw [List.pairwise_map]
    exact List.Pairwise.imp (fun h => by simpa using h) List.pairwise_lt_range
  have cok : (rngI l.length).Pairwise (Cok (fun i => rd (shrLeft t s ws) i) (shrCmp t s ws)) := by
    refine List.Pairwise.imp_of_mem (fun {x y} hx' hy' hlt => ?_) inc
    obtain ⟨i, rfl, hi⟩ := (mem x).1 hx'
    obtain ⟨j, rfl, hj⟩ := (mem y).1 hy'
    refine ⟨cmpI (Int.tmod (t * rd ws i) s) (Int.tmod (t * rd ws j) s), ?_, ?_, ?_⟩
    · unfold shrCmp; rw [if_pos ⟨by omega, by omega, by omega, by omega⟩]
    · intro hc
      unfold bt
      simp only [key i hi, key j hj]
      unfold cmpI at hc
      split at hc
      · exact .inl (by assumption)
      · split at hc <;> omega
    · intro hc
      unfold bt
      simp only [key i hi, key j hj]
      unfold cmpI at hc
      split at hc
      · omega
      · split at hc
        · exact .inl (by assumption)
        · exact .inr ⟨by omega, hlt⟩
  obtain ⟨ord, ho, hp, hsrt⟩ := sortStable (rngI l.length) (by rw [length_rngI]; omega) cok
  have hol : ord.length = l.length := by rw [hp.length_eq, length_rngI]
  have omem : ∀ x, x ∈ ord ↔ ∃ i : Nat, x = i ∧ i < l.length := fun x => by rw [hp.mem_iff]; exact mem x
  have hmn : (t - sumW (shrOut t s ws)).toNat = m := by omega
  obtain ⟨r, hr, hrl⟩ := bump_some (ord.take m) (shrOut t s ws) (fun j hj => by
    obtain ⟨i, rfl, hi⟩ := (omem j).1 (List.mem_of_mem_take hj)
    omega)
  have hnd : (ord.take m).Nodup := by
    have hn2 : ord.Nodup := hsrt.imp (fun {a b} hab => by rintro rfl; exact bt_irrefl hab)
    exact hn2.sublist (List.take_sublist _ _)
  have hso : ∀ x ∈ shrOut t s ws, 0 ≤ x ∧ x ≤ 1000000000000 := fun x hx' => by
    rw [eo] at hx'
    obtain ⟨y, hy, rfl⟩ := List.mem_map.1 hx'
    have p := prodB ⟨t0, t1⟩ (wb y hy)
    have q := tdivBound (t * y) s p.1 p.2 w1
    exact ⟨q.1, by omega⟩
  have hat := bump_at (ord.take m) (shrOut t s ws) r hnd (fun j hj => by
    obtain ⟨i, e, hi⟩ := (omem j).1 (List.mem_of_mem_take hj)
    exact ⟨i, e, by omega⟩) hso hr
  have hex : ∃ T : List Int, (∀ i : Nat, i < ws.length → rd r i = Int.tdiv (t * rd ws i) s + (if (i : Int) ∈ T then 1 else 0)) ∧
      (∀ i k : Nat, i < ws.length → k < ws.length → bt (fun j => Int.tmod (t * rd ws j) s) i k → (k : Int) ∈ T → (i : Int) ∈ T) ∧
      (t = 0 → T = []) := ⟨ord.take m, fun i hi => by
      rw [hat i (by omega), rdNat _ i (by omega), rdNat ws i hi]
      simp only [eo, List.getElem_map], fun i k hi hk hb hkT => by
      have hb2 : bt (fun j => rd (shrLeft t s ws) j) (i : Int) (k : Int) := by
        unfold bt at hb ⊢
        simp only [key i (by omega), key k (by omega)]
        exact hb
      have h1 : (i : Int) ∈ ord := (omem i).2 ⟨i, rfl, by omega⟩
      rw [← List.take_append_drop m ord] at h1
      rcases List.mem_append.1 h1 with h | h
      · exact h
      · have h3 := hsrt
        rw [← List.take_append_drop m ord, List.pairwise_append] at h3
        exact absurd (h3.2.2 _ hkT _ h) (fun q => bt_asymm q hb2), fun ht => by
      have hz : sumW (shrOut t s ws) = 0 := by
        rw [so1, eo, ht]
        have : (ws.map fun x => Int.tdiv (0 * x) s) = List.replicate ws.length 0 := by
          apply List.ext_getElem
          · simp
          · intro j h1 h2; simp
        rw [this]; simp
      have : m = 0 := by omega
      rw [this]; rfl⟩
  have htot : r.sum = t := by
    have := bump_sum (ord.take m) (shrOut t s ws) r (fun j hj => by
      obtain ⟨i, e, hi⟩ := (omem j).1 (List.mem_of_mem_take hj)
      exact ⟨i, e, by omega⟩) (fun x hx' => by have := hso x hx'; rw [List.length_take]; omega) hr
    rw [this, ← so1, List.length_take]; omega
  have hzero : ∀ i : Nat, i < ws.length → rd ws i = 0 → rd r i = 0 := by
    intro i hi h0'
    rw [hat i (by omega), rdNat _ i (by omega)]
    have e0 : (shrOut t s ws)[i]'(by omega) = 0 := by
      have hw0 : ws[i] = 0 := by rw [← rdNat ws i hi]; exact h0'
      simp only [eo, List.getElem_map, hw0]; simp
    rw [e0]
    have hnot : ¬ (i : Int) ∈ ord.take m := by
      intro hmem
      have ri : rd (shrLeft t s ws) (i : Int) = 0 := by rw [key i (by omega), h0']; simp
      have nn : ∀ j : Nat, j < l.length → 0 ≤ rd (shrLeft t s ws) (j : Int) ∧ rd (shrLeft t s ws) (j : Int) ≤ s - 1 := by
        intro j hj
        rw [key j hj, rdNat ws j (by omega)]
        have p := prodB ⟨t0, t1⟩ (wb _ (List.getElem_mem (show j < ws.length by omega)))
        have h1 := Int.tmod_nonneg s p.1
        have h2 := Int.tmod_lt_of_pos (t * ws[j]) (show 0 < s by omega)
        omega
      have h3 := hsrt
      rw [← List.take_append_drop m ord, List.pairwise_append] at h3
      have z : ∀ x ∈ ord.drop m, rd (shrLeft t s ws) x ≤ 0 := by
        intro x hx'
        obtain ⟨j, rfl, hj⟩ := (omem x).1 (List.mem_of_mem_drop hx')
        have := h3.2.2 _ hmem _ hx'
        unfold bt at this
        dsimp only at this
        rw [ri] at this
        omega
      have hperm : (ord.map fun x => rd (shrLeft t s ws) x).sum = ((rngI l.length).map fun x => rd (shrLeft t s ws) x).sum := permSum (hp.map _)
      have hall : ((rngI l.length).map fun x => rd (shrLeft t s ws) x) = shrLeft t s ws := by
        apply List.ext_getElem
        · rw [List.length_map, length_rngI, ll]
        · intro j h1 h2
          rw [List.getElem_map]
          simp only [rngI, List.getElem_map, List.getElem_range]
          exact rdNat _ j h2
      rw [hall, ← List.take_append_drop m ord, List.map_append, List.sum_append] at hperm
      have b1 := sumLe (fun x => rd (shrLeft t s ws) x) (s - 1) (ord.take m) (fun x hx' => by
        obtain ⟨j, rfl, hj⟩ := (omem x).1 (List.mem_of_mem_take hx')
        exact (nn j hj).2)
      have b2 := sumLe (fun x => rd (shrLeft t s ws) x) 0 (ord.drop m) z
      have hrem := remSum t s ws
      rw [← el, ← eo, ← so1, ← we, Int.mul_comm t s] at hrem
      have hlen : (((ord.take m).length : Nat) : Int) = (m : Int) := by rw [List.length_take]; omega
      rw [hlen] at b1
      have e3 : s * t - s * sumW (shrOut t s ws) = s * (m : Int) := by rw [← Int.mul_sub, hm]
      have e4 : (s - 1) * (m : Int) = s * (m : Int) - m := by rw [Int.sub_mul, Int.one_mul]
      have hm0 : m = 0 := by omega
      rw [hm0] at hmem
      simp at hmem
    rw [if_neg hnot]; rfl
  have hsh : Shared t s ws r := ⟨by omega, w1, we, hex, htot, hzero⟩
  refine ⟨r, himpl r (ho.bind ((impl_sum _ (by omega)).bind (evIf (by omega) (evNow (by rw [hmn]; exact hr))))), hspec r ?_, hsh⟩
  rw [w64 (x := t - sumW (shrOut t s ws)) (by omega) (by omega)]
  refine give (shrLeft t s ws) l.length ll (by omega) hpos (ord.take m) (shrOut t s ws) r _ _ lo (by simp) (by rw [hm, List.length_take]; omega) (by rw [List.length_take]; omega) hr (hsrt.sublist (List.take_sublist _ _)) (fun j hj => ?_) (fun j hj i hi _ hni => ?_)
  · obtain ⟨i, rfl, hi⟩ := (omem j).1 (List.mem_of_mem_take hj)
    exact ⟨i, rfl, hi, by simp [hi]⟩
  · have h1 : (i : Int) ∈ ord := (omem i).2 ⟨i, rfl, hi⟩
    rw [← List.take_append_drop m ord] at h1
    have h2 : (i : Int) ∈ ord.drop m := by
      rcases List.mem_append.1 h1 with h | h
      · exact absurd h hni
      · exact h
    have h3 := hsrt
    rw [← List.take_append_drop m ord, List.pairwise_append] at h3
    exact h3.2.2 j hj _ h2
end Go.Proofs.YtcjpojppbmlfaaaDoor.Pure
set_option linter.unusedVariables false
set_option linter.unusedSimpArgs false
namespace Go.Proofs.YtcjpojppbmlfaaaDoor.Pure
open Go.RowKit Go.Proofs.YtcjpojppbmlfaaaDoor.Pr Go.Proofs.YtcjpojppbmlfaaaDoorW.PrintWords Go.Proofs.YtcjpojppbmlfaaaDoorW.PrintLast Go.Proofs.YtcjpojppbmlfaaaDoorW.PrintMore
theorem memLeSum : ∀ (l : List Int), (∀ x ∈ l, 0 ≤ x) → 0 ≤ l.sum ∧ ∀ x ∈ l, x ≤ l.sum
  | [], _ => ⟨by simp, fun x h => by cases h⟩
  | y :: l, h => by
    obtain ⟨h1, h2⟩ := memLeSum l (fun x hx => h x (List.mem_cons_of_mem _ hx))
    have h0 := h y (by simp)
    rw [List.sum_cons]
    refine ⟨by omega, fun x hx => ?_⟩
    rcases List.mem_cons.mp hx with rfl | hx
    · omega
    · have := h2 x hx; omega
theorem FnShrSum (l : List Int) (h : l.length ≤ 9223372036854775807 ∧ ∀ x ∈ l, (Lit.int .u8 x).wf = true) : ∃ k, laws_FnShrSum.f k l = some true := by
  apply Run.get
  unfold laws_FnShrSum.f
  refine Run.ite (fun _ => Run.ret rfl) fun hbig => ?_
  refine Run.bind (drawShr l h.2) fun d hd => ?_
  obtain ⟨t, w⟩ := d
  have hw : w.length ≤ 9 := hd
  have so := spec_shrOk t w (by omega)
  have io : impl_ShrOk.f t w = some (shrOk t w) := rfl
  have start : ∀ r : List Int, r.length ≤ 1000000 → Ev (fun k => impl_ShrShare.f k t w) r → Ev (fun k => spec_ShrShare.f k t w) r → Run (fun k => laws_FnShrSum.j0 k t w r false) (· = true) → Run (fun k => (impl_ShrShare.f k t w).bind fun t261 => (spec_ShrShare.f k t w).bind fun t264 => (laws_pwInts.f k t261 t264).bind fun t267 => if t267 = true then (impl_ShrOk.f t w).bind fun t268 => (spec_ShrOk.f k t w).bind fun t269 => laws_FnShrSum.j0 k t w t261 (t268 != t269) else laws_FnShrSum.j0 k t w t261 true) (· = true) := by
    intro r hr e1 e2 go
    refine Run.evBind e1 (Run.evBind e2 (Run.evBind (pwInts r (by omega)) (Run.pos rfl (Run.constBind io (Run.evBind so ?_)))))
    rw [show (shrOk t w != shrOk t w) = false by simp]
    exact go
  by_cases hok : shrOk t w = true
  case neg =>
    have e1 : Ev (fun k => impl_ShrShare.f k t w) [] := by unfold impl_ShrShare.f; exact evElse hok (evNow rfl)
    have e2 : Ev (fun k => spec_ShrShare.f k t w) [] := by unfold spec_ShrShare.f; exact (spec_shrOk t w (by omega)).bind (evElse hok (evNow rfl))
    refine start [] (by simp) e1 e2 (Run.step (fun k => by rw [laws_FnShrSum.j0]) (Run.neg (by simp) (Run.evBind so (Run.neg hok (Run.pos rfl ?_)))))
    exact Run.evBind pwOk (Run.ret rfl)
  by_cases h0 : w = []
  · subst h0
    obtain ⟨r, e1, e2, _⟩ := share t [] (by simp)
    have e1' : Ev (fun k => impl_ShrShare.f k t []) [] := by unfold impl_ShrShare.f; exact evIf hok (evIf rfl (evNow rfl))
    have er : r = [] := by
      obtain ⟨K1, q1⟩ := e1
      obtain ⟨K2, q2⟩ := e1'
      have := (q1 (max K1 K2) (by omega)).symm.trans (q2 (max K1 K2) (by omega))
      simpa using this
    subst er
    refine start [] (by simp) e1 e2 (Run.step (fun k => by rw [laws_FnShrSum.j0]) (Run.neg (by simp) (Run.evBind so (Run.pos hok (Run.pos rfl (Run.pos rfl ?_))))))
    exact Run.evBind pwOk (Run.ret rfl)
  obtain ⟨r, e1, e2, hsh⟩ := shared t w (by omega) hok h0
  obtain ⟨t0, t1, hn, hx⟩ := shrFacts hok
  obtain ⟨wl, wb, we, w1⟩ := evenFacts hn hx h0
  have hl : r.length = w.length := by rw [hsh.len, wl]
  have hr : ∀ j : Nat, j < r.length → 0 ≤ rd r j ∧ rd r j ≤ 1000000000000 := by
    intro j hj
    obtain ⟨T, a1, _, _⟩ := hsh.ex
    have hj' : j < (shrEven (sumW w) w).length := by omega
    rw [a1 j hj']
    have p := prodB ⟨t0, t1⟩ (wb _ (List.getElem_mem hj'))
    have q := tdivBound (t * (shrEven (sumW w) w)[j]) _ p.1 p.2 hsh.pos
    rw [rdNat _ j hj']
    split <;> omega
  have hsum : sumW r = t := by
    have nn : ∀ x ∈ r, 0 ≤ x := fun x hx' => by
      obtain ⟨j, hj, rfl⟩ := List.mem_iff_getElem.mp hx'
      have := hr j hj
      rw [rdNat r j hj] at this
      exact this.1
    have := (sumW_eq r (fun x hx' => ⟨nn x hx', by have := (memLeSum r nn).2 x hx'; rw [hsh.tot] at this; omega⟩) (by omega)).1
    rw [this, hsh.tot]
  have hz : w.length ≠ 0 := fun e => h0 (List.length_eq_zero_iff.mp e)
  refine start r (by omega) e1 e2 (Run.step (fun k => by rw [laws_FnShrSum.j0]) (Run.neg (by simp) (Run.evBind so (Run.pos hok ?_))))
  refine Run.neg (show ¬ (w.length : Int) = 0 by omega) ?_
  refine Run.evBind (pwSum w (by omega)) ?_
  have fin : Run (fun k => (laws_pwSum.f k r).bind fun t281 => if t281 = t then some ((r.length : Int) == (w.length : Int)) else some false) (· = true) := by
    refine Run.evBind (pwSum r (by omega)) (Run.pos hsum (Run.ret ?_))
    rw [hl]; simp
  have loop : ∀ (d i : Nat), i + d = r.length → Run (fun k => laws_FnShrSum.l0 k t w r (decide (sumW w > 0)) i) (· = true) := by
    intro d
    induction d with
    | zero =>
      intro i hi
      exact Run.step (fun k => by rw [laws_FnShrSum.l0]) (Run.neg (by omega) fin)
    | succ d ih =>
      intro i hi
      have hlt : i < w.length := by omega
      have nx := ih (i + 1) (by omega)
      have dv := impl_shrDue t w i (by omega)
      have ir : (i : Int) < (r.length : Int) := by omega
      have en := wnext (n := r.length) (i := i) (by omega) (by omega)
      refine Run.step (fun k => by rw [laws_FnShrSum.l0]) (Run.pos ir (Run.evBind dv ?_))
      rw [en]
      clear en
      refine Run.ite (fun hs => ?_) (fun _ => nx)
      have hs1 : 1 ≤ sumW w := by have := of_decide_eq_true hs; omega
      have ee : shrEven (sumW w) w = w := by unfold shrEven; rw [if_neg (by omega)]
      obtain ⟨q1, q2, q3⟩ := due_at hok hs1 i hlt
      rw [q1]
      have hsh' := hsh
      rw [ee] at hsh'
      obtain ⟨T, a1, _, _⟩ := hsh'.ex
      have ai := a1 i hlt
      have zi := hsh'.zero i hlt
      rw [rdNat w i hlt] at ai zi
      have tail : Run (fun k => if (i : Int) < (w.length : Int) then (if rd w (i : Int) = 0 then (if rd r (i : Int) = 0 then laws_FnShrSum.l0 k t w r (decide (sumW w > 0)) ((i + 1 : Nat) : Int) else some false) else laws_FnShrSum.l0 k t w r (decide (sumW w > 0)) ((i + 1 : Nat) : Int)) else none) (· = true) := by
        refine Run.pos (by omega) (Run.ite (fun hw0 => Run.pos (zi (by rw [← rdNat w i hlt]; exact hw0)) nx) (fun _ => nx))
      refine Run.pos (by omega) ?_
      have e1 : wrap64 (Int.tdiv (t * w[i]) (sumW w) + 1) = Int.tdiv (t * w[i]) (sumW w) + 1 := w64 (by omega) (by omega)
      rw [e1]
      refine Run.ite (fun _ => tail) (fun hne => Run.pos ?_ tail)
      rw [ai] at hne ⊢
      split at hne
      · rw [if_pos (by assumption)]
      · omega
  exact loop r.length 0 (by omega)
end Go.Proofs.YtcjpojppbmlfaaaDoor.Pure
