/- The plain laws that the claim of 'FnExactGrdBlocks' leans on. -/
import Derived.Test.YtemcdfkmpikegaaFnExactGrdBlocksPr0
import Derived.Test.YtemcdfkmpikegaaFnExactGrdBlocksPr39
import Derived.Test.YtemcdfkmpikegaaFnExactGrdBlocksPr41
import Derived.Test.YtemcdfkmpikegaaFnExactGrdBlocksPr13
import Derived.Test.YtemcdfkmpikegaaFnExactGrdBlocksPr14
import Derived.Test.YtemcdfkmpikegaaFnExactGrdBlocksPr15
import Derived.Test.YtemcdfkmpikegaaFnExactGrdBlocksPr17
import Derived.Test.YtemcdfkmpikegaaFnExactGrdBlocksPr34
import Derived.Test.YtemcdfkmpikegaaFnExactGrdBlocksPr35
import Derived.Test.YtemcdfkmpikegaaFnExactGrdBlocksPr38
import Derived.Test.YtemcdfkmpikegaaFnExactGrdBlocksPr52
import Derived.Test.YtemcdfkmpikegaaFnExactGrdBlocksPr18
import Derived.Test.YtemcdfkmpikegaaFnExactGrdBlocksPr19
import Derived.Test.YtemcdfkmpikegaaFnExactGrdBlocksPr40
import Derived.Test.YtemcdfkmpikegaaFnExactGrdBlocksPr42
import Derived.Test.YtemcdfkmpikegaaFnExactGrdBlocksPr53
import Derived.Test.YtemcdfkmpikegaaFnExactGrdBlocksPr24
import Derived.Test.YtemcdfkmpikegaaFnExactGrdBlocksPr26
import Derived.Test.YtemcdfkmpikegaaFnExactGrdBlocksPr27
import Derived.Test.YtemcdfkmpikegaaFnExactGrdBlocksPr22
import Derived.Test.YtemcdfkmpikegaaFnExactGrdBlocksPr23
import Derived.Test.YtemcdfkmpikegaaFnExactGrdBlocksPr25
import Derived.Test.YtemcdfkmpikegaaFnExactGrdBlocksPr44
import Derived.Test.YtemcdfkmpikegaaFnExactGrdBlocksPr45
import Derived.Test.YtemcdfkmpikegaaFnExactGrdBlocksPr7
import Derived.Test.YtemcdfkmpikegaaFnExactGrdBlocksQTy
set_option linter.unusedVariables false
set_option linter.unusedSimpArgs false
namespace Go.Proofs.Ytemcdfkmpikegaa.Pure
open Go.RowKit Go.Proofs.Ytemcdfkmpikegaa.Pr Go.Proofs.YtemcdfkmpikegaaW.PrintWords Go.Proofs.YtemcdfkmpikegaaW.PrintLast Go.Proofs.YtemcdfkmpikegaaW.PrintMore
theorem evIf {α : Type} {c : Prop} [Decidable c] {g f : Nat → Option α} {r : α} (hc : c) (h : Ev g r) : Ev (fun k => if c then g k else f k) r :=
  Ev.congr (fun _ => if_pos hc) h
theorem evElse {α : Type} {c : Prop} [Decidable c] {g f : Nat → Option α} {r : α} (hc : ¬ c) (h : Ev f r) : Ev (fun k => if c then g k else f k) r :=
  Ev.congr (fun _ => if_neg hc) h
theorem evSome {α β : Type} {a : α} {f : Nat → α → Option β} {r : β} (h : Ev (fun k => f k a) r) : Ev (fun k => (some a).bind (f k)) r := h
theorem evNow {α : Type} {g : Option α} {r : α} (h : g = some r) : Ev (fun _ => g) r := ⟨0, fun _ _ => h⟩
theorem evBindC {α β : Type} {g : Option α} {f : Nat → α → Option β} {a : α} {r : β} (h : g = some a) (k : Ev (fun n => f n a) r) : Ev (fun n => g.bind (f n)) r := by
  subst h; exact k
theorem in_eq (a b c : Int) : impl_in.f a b c = some (decide (b ≤ a) && decide (a ≤ c)) := by
  unfold impl_in.f; by_cases h : a ≥ b <;> simp [h] <;> omega
theorem l1In_eq (a b c : Int) : spec_l1In.f a b c = some (decide (b ≤ a) && decide (a ≤ c)) := by
  unfold spec_l1In.f; by_cases h : a ≥ b <;> simp [h] <;> omega
theorem w64 {x : Int} (h : -9223372036854775808 ≤ x) (h2 : x ≤ 9223372036854775807) : wrap64 x = x := by unfold wrap64; omega
def Run {α : Type} (g : Nat → Option α) (Q : α → Prop) : Prop := ∃ r, Ev g r ∧ Q r
theorem Run.ret {α : Type} {r : α} {Q : α → Prop} (h : Q r) : Run (fun _ => some r) Q := ⟨r, Ev.now r, h⟩
theorem Run.bind {α β : Type} {g : Nat → Option α} {f : Nat → α → Option β} {Q : α → Prop} {R : β → Prop} (h : Run g Q) (k : ∀ a, Q a → Run (fun n => f n a) R) : Run (fun n => (g n).bind (f n)) R := by
  obtain ⟨a, ha, qa⟩ := h
  obtain ⟨b, hb, rb⟩ := k a qa
  exact ⟨b, ha.bind hb, rb⟩
theorem Run.evBind {α β : Type} {g : Nat → Option α} {f : Nat → α → Option β} {a : α} {R : β → Prop} (h : Ev g a) (k : Run (fun n => f n a) R) : Run (fun n => (g n).bind (f n)) R := by
  obtain ⟨b, hb, rb⟩ := k
  exact ⟨b, h.bind hb, rb⟩
theorem Run.some {α β : Type} {a : α} {f : Nat → α → Option β} {R : β → Prop} (k : Run (fun n => f n a) R) : Run (fun n => (Option.some a).bind (f n)) R := k
theorem Run.constBind {α β : Type} {g : Option α} {f : Nat → α → Option β} {a : α} {R : β → Prop} (h : g = Option.some a) (k : Run (fun n => f n a) R) : Run (fun n => g.bind (f n)) R := by subst h; exact k
theorem Run.ite {α : Type} {c : Prop} [Decidable c] {g f : Nat → Option α} {Q : α → Prop} (h : c → Run g Q) (k : ¬ c → Run f Q) : Run (fun n => if c then g n else f n) Q := by
  by_cases hc : c
  · obtain ⟨r, e, q⟩ := h hc; exact ⟨r, evIf hc e, q⟩
  · obtain ⟨r, e, q⟩ := k hc; exact ⟨r, evElse hc e, q⟩
theorem Run.pos {α : Type} {c : Prop} [Decidable c] {g f : Nat → Option α} {Q : α → Prop} (hc : c) (h : Run g Q) : Run (fun n => if c then g n else f n) Q := Run.ite (fun _ => h) (fun k => absurd hc k)
theorem Run.neg {α : Type} {c : Prop} [Decidable c] {g f : Nat → Option α} {Q : α → Prop} (hc : ¬ c) (h : Run f Q) : Run (fun n => if c then g n else f n) Q := Run.ite (fun k => absurd k hc) (fun _ => h)
theorem Run.step {α : Type} {g f : Nat → Option α} {Q : α → Prop} (h : ∀ k, g (k + 1) = f k) (k : Run f Q) : Run g Q := by
  obtain ⟨r, e, q⟩ := k; exact ⟨r, Ev.step h e, q⟩
theorem Run.imp {α : Type} {g : Nat → Option α} {Q R : α → Prop} (h : Run g Q) (k : ∀ r, Q r → R r) : Run g R := by
  obtain ⟨r, e, q⟩ := h; exact ⟨r, e, k r q⟩
theorem Run.get {α : Type} {g : Nat → Option α} {r : α} (h : Run g (· = r)) : ∃ k, g k = Option.some r := by
  obtain ⟨r', e, rfl⟩ := h; exact e.rounds
theorem Ev.run {α : Type} {g : Nat → Option α} {r : α} (h : Ev g r) : Run g (· = r) := ⟨r, h, rfl⟩
end Go.Proofs.Ytemcdfkmpikegaa.Pure
set_option linter.unusedVariables false
set_option linter.unusedSimpArgs false
namespace Go.Proofs.Ytemcdfkmpikegaa.Pure
open Go.RowKit Go.Proofs.Ytemcdfkmpikegaa.Pr Go.Proofs.YtemcdfkmpikegaaW.PrintWords Go.Proofs.YtemcdfkmpikegaaW.PrintLast Go.Proofs.YtemcdfkmpikegaaW.PrintMore
theorem wnext {n i : Nat} (h : i < n) (hn : n ≤ 9223372036854775807) : wrap64 ((i : Int) + 1) = ((i + 1 : Nat) : Int) := by
  rw [w64 (by omega) (by omega)]; omega
theorem setStep {α : Type} (l : List α) (z : α) (i : Nat) (h : i < l.length) : (l.take i ++ List.replicate (l.length - i) z).set i l[i] = l.take (i + 1) ++ List.replicate (l.length - (i + 1)) z := by
  apply List.ext_getElem
  · simp; omega
  · intro j h1 h2
    by_cases e : j = i
    · subst e; simp [List.getElem_append]; omega
    · simp only [List.getElem_set, List.getElem_append]
      rw [if_neg (by omega)]
      by_cases hj : j < i
      · simp [hj]; rw [dif_pos (by omega), dif_pos (by omega)]
      · simp [hj]; rw [dif_neg (by omega), dif_neg (by omega)]
theorem rdNat (l : List Int) (i : Nat) (h : i < l.length) : rd l i = l[i] := by unfold rd; simp [h]
theorem dropCons {α : Type} (l : List α) (i : Nat) (h : i < l.length) : l.drop i = l[i] :: l.drop (i + 1) := List.drop_eq_getElem_cons h
end Go.Proofs.Ytemcdfkmpikegaa.Pure
set_option linter.unusedVariables false
set_option linter.unusedSimpArgs false
namespace Go.Proofs.Ytemcdfkmpikegaa.Pure
open Go.RowKit Go.Proofs.Ytemcdfkmpikegaa.Pr Go.Proofs.YtemcdfkmpikegaaW.PrintWords Go.Proofs.YtemcdfkmpikegaaW.PrintLast Go.Proofs.YtemcdfkmpikegaaW.PrintMore
theorem cpLoop {α β : Type} (l : List α) (cv : α → β) (z : β) (hl : l.length ≤ 9223372036854775807) (F : Nat → List β → Int → Option (List β)) (g : Nat → Int → Option β)
    (hF : ∀ k xs i, F (k + 1) xs i = if i < (l.length : Int) then (if 0 ≤ i then ((g k i).bind fun v => if i < (xs.length : Int) then F k (xs.set i.toNat v) (wrap64 (i + 1)) else none) else none) else some xs)
    (hg : ∀ (i : Nat) (h : i < l.length), Ev (fun k => g k (i : Int)) (cv l[i])) : Ev (fun k => F k (List.replicate l.length z) 0) (l.map cv) := by
  have loop : ∀ (d i : Nat), i + d = l.length → Ev (fun k => F k ((l.map cv).take i ++ List.replicate (l.length - i) z) i) (l.map cv) := by
    intro d
    induction d with
    | zero =>
      intro i hi
      obtain rfl : i = l.length := by omega
      refine Ev.step (fun k => by rw [hF]) (evElse (by omega) (evNow (by rw [List.take_of_length_le (by simp)]; simp)))
    | succ d ih =>
      intro i hi
      have hlt : i < l.length := by omega
      refine Ev.step (fun k => by rw [hF]) (evIf (by omega) (evIf (by omega) ?_))
      refine Ev.bind (hg i hlt) ?_
      refine evIf (by simp; omega) ?_
      have hm : (l.map cv).length = l.length := by simp
      have e := setStep (l.map cv) z i (by rw [hm]; exact hlt)
      simp only [List.length_map, List.getElem_map] at e
      rw [Int.toNat_natCast, e, wnext (n := l.length) (by omega) hl]
      exact ih (i + 1) (by omega)
  have := loop l.length 0 (by omega)
  simpa using this
theorem allLoop (n : Nat) (hn : n ≤ 9223372036854775807) (F : Nat → Int → Option Bool) (g : Nat → Int → Option Bool)
    (hF : ∀ k (i : Nat), i < n → F (k + 1) (i : Int) = ((g k (i : Int)).bind fun t => if t = true then F k (wrap64 ((i : Int) + 1)) else some false))
    (hE : ∀ k, F (k + 1) (n : Int) = some true) (p : Nat → Bool)
    (hg : ∀ (i : Nat), i < n → Ev (fun k => g k (i : Int)) (p i)) : ∀ (d i : Nat), i + d = n → Ev (fun k => F k (i : Int)) ((List.range' i d).all p) := by
  intro d
  induction d with
  | zero =>
    intro i hi
    obtain rfl : i = n := by omega
    exact Ev.step (fun k => hE k) (evNow rfl)
  | succ d ih =>
    intro i hi
    refine Ev.step (fun k => hF k i (by omega)) (Ev.bind (hg i (by omega)) ?_)
    rw [List.range'_succ, List.all_cons]
    cases hp : p i with
    | false => exact evElse (by simp) (evNow (by simp))
    | true =>
      refine evIf rfl ?_
      rw [wnext (n := n) (by omega) hn]
      simpa using ih (i + 1) (by omega)
theorem allLoop0 (n : Nat) (hn : n ≤ 9223372036854775807) (F : Nat → Int → Option Bool) (g : Nat → Int → Option Bool)
    (hF : ∀ k (i : Nat), i < n → F (k + 1) (i : Int) = ((g k (i : Int)).bind fun t => if t = true then F k (wrap64 ((i : Int) + 1)) else some false))
    (hE : ∀ k, F (k + 1) (n : Int) = some true) (hg : ∀ (i : Nat), i < n → Ev (fun k => g k (i : Int)) true) : Ev (fun k => F k 0) true := by
  have := allLoop n hn F g hF hE (fun _ => true) hg n 0 (by omega)
  have e : (List.range' 0 n).all (fun _ => true) = true := by rw [List.all_eq_true]; exact fun _ _ => rfl
  rw [e] at this
  exact this
theorem range'_all_take {p : Nat → Bool} (n i : Nat) : (List.range' i n).all p = true ↔ ∀ j, i ≤ j → j < i + n → p j = true := by
  simp [List.all_eq_true, List.mem_range'_1]
end Go.Proofs.Ytemcdfkmpikegaa.Pure
set_option linter.unusedVariables false
set_option linter.unusedSimpArgs false
namespace Go.Proofs.Ytemcdfkmpikegaa.Pure
open Go.RowKit Go.Proofs.Ytemcdfkmpikegaa.Pr Go.Proofs.YtemcdfkmpikegaaW.PrintWords Go.Proofs.YtemcdfkmpikegaaW.PrintLast Go.Proofs.YtemcdfkmpikegaaW.PrintMore
def cvG (x : S86) : S65 := ⟨x.f0, x.f1, x.f2, x.f3, x.f4⟩
theorem rdG (l : List S65) (i : Nat) (h : i < l.length) : rd_T65 l (i : Int) = l[i] := by unfold rd_T65; simp [h]
theorem rdGl (l : List S86) (i : Nat) (h : i < l.length) : rd_T86 l (i : Int) = l[i] := by unfold rd_T86; simp [h]
theorem toGrdCells (l : List S86) (h : l.length ≤ 1048576) : Ev (fun k => laws_toGrdCellS.f k l) (l.map cvG) := by
  unfold laws_toGrdCellS.f
  refine evIf (by omega) (evIf (by omega) ?_)
  rw [Int.toNat_natCast]
  refine cpLoop l cvG z65 (by omega) (fun k xs i => laws_toGrdCellS.l0 k l xs i) (fun _ i => some (cvG (rd_T86 l i))) (fun k xs i => by show laws_toGrdCellS.l0 (k + 1) l xs i = _; rw [laws_toGrdCellS.l0]; rfl) (fun i hi => evNow (by rw [rdGl l i hi]))
theorem toGrid (a b : Int) (l : List S86) (h : l.length ≤ 1048576) : Ev (fun k => laws_toGrdGrid.f k a b l) (a, b, l.map cvG) :=
  (toGrdCells l h).bind (evNow rfl)
theorem eqGrdCells (l : List S65) (h : l.length ≤ 9223372036854775807) : Ev (fun k => laws_eqGrdCellS.f k l l) true := by
  unfold laws_eqGrdCellS.f
  refine evIf rfl ?_
  refine allLoop0 l.length h (fun k i => laws_eqGrdCellS.l0 k l l i) (fun _ i => laws_eqGrdCell.f (rd_T65 l i).f0 (rd_T65 l i).f1 (rd_T65 l i).f2 (rd_T65 l i).f3 (rd_T65 l i).f4 (rd_T65 l i).f0 (rd_T65 l i).f1 (rd_T65 l i).f2 (rd_T65 l i).f3 (rd_T65 l i).f4) ?_ ?_ ?_
  · intro k i hi
    show laws_eqGrdCellS.l0 (k + 1) l l i = _
    rw [laws_eqGrdCellS.l0, if_pos (by omega), if_pos (by omega), if_pos (by omega)]
  · intro k
    show laws_eqGrdCellS.l0 (k + 1) l l l.length = _
    rw [laws_eqGrdCellS.l0, if_neg (by omega)]
  · intro i hi
    exact evNow (by unfold laws_eqGrdCell.f; simp)
theorem eqGrid (a b : Int) (l : List S65) (h : l.length ≤ 9223372036854775807) : Ev (fun k => laws_eqGrdGrid.f k a b l a b l) true := by
  unfold laws_eqGrdGrid.f
  exact evIf rfl (evIf rfl ((eqGrdCells l h).bind (evIf rfl (evNow rfl))))
theorem szGrid (a b : Int) (l : List S86) (hl : l.length ≤ 9223372036854775807) : ∃ r, laws_szGrdGrid.f a b l 1048576 = some r ∧ (¬ r < 0 → l.length ≤ 1048576) := by
  have e : wrap64 (1048576 - (l.length : Int)) = 1048576 - (l.length : Int) := w64 (by omega) (by omega)
  unfold laws_szGrdGrid.f laws_szGrdCellS.f
  rw [e]
  by_cases h : 1048576 - (l.length : Int) < 0
  · exact ⟨-1, by simp [h], by simp⟩
  · exact ⟨1048576 - (l.length : Int), by simp [h], by omega⟩
end Go.Proofs.Ytemcdfkmpikegaa.Pure
set_option linter.unusedVariables false
set_option linter.unusedSimpArgs false
namespace Go.Proofs.Ytemcdfkmpikegaa.Pure
open Go.RowKit Go.Proofs.Ytemcdfkmpikegaa.Pr Go.Proofs.YtemcdfkmpikegaaW.PrintWords Go.Proofs.YtemcdfkmpikegaaW.PrintLast Go.Proofs.YtemcdfkmpikegaaW.PrintMore
def inB (lo hi n : Int) : Bool := decide (lo ≤ n) && decide (n ≤ hi)
theorem inI (a b c : Int) : impl_in.f a b c = some (inB b c a) := in_eq a b c
theorem inS (a b c : Int) : spec_l1In.f a b c = some (inB b c a) := l1In_eq a b c
theorem inB_iff {lo hi n : Int} : inB lo hi n = true ↔ lo ≤ n ∧ n ≤ hi := by simp [inB]
theorem meetsS (c d : S65) : spec_l3Meets.f c.f0 c.f1 c.f2 c.f3 c.f4 d.f0 d.f1 d.f2 d.f3 d.f4 = some (meetsB c d) := by
  unfold spec_l3Meets.f meetsB
  by_cases h1 : c.f0 < wrap64 (d.f0 + d.f2) <;> by_cases h2 : d.f0 < wrap64 (c.f0 + c.f2) <;> by_cases h3 : c.f1 < wrap64 (d.f1 + d.f3) <;> simp [h1, h2, h3]
theorem meets_comm (c d : S65) : meetsB c d = meetsB d c := by
  unfold meetsB
  cases decide (c.f0 < wrap64 (d.f0 + d.f2)) <;> cases decide (d.f0 < wrap64 (c.f0 + c.f2)) <;> cases decide (c.f1 < wrap64 (d.f1 + d.f3)) <;> cases decide (d.f1 < wrap64 (c.f1 + c.f3)) <;> rfl
theorem allRangeG (l : List S65) (q : S65 → Bool) : (List.range' 0 l.length).all (fun i => q (rd_T65 l (i : Int))) = l.all q := by
  rw [Bool.eq_iff_iff, range'_all_take, List.all_eq_true]
  constructor
  · intro h x hx
    obtain ⟨i, hi, rfl⟩ := List.getElem_of_mem hx
    have := h i (Nat.zero_le _) (by omega)
    rwa [rdG l i hi] at this
  · intro h j _ hj
    rw [rdG l j (by omega)]
    exact h _ (List.getElem_mem _)
theorem l3Free (l : List S65) (c : S65) (h : l.length ≤ 9223372036854775807) : Ev (fun k => spec_l3Free.f k l c.f0 c.f1 c.f2 c.f3 c.f4) (!(l.any (meetsB c))) := by
  unfold spec_l3Free.f
  have := allLoop l.length h (fun k i => spec_l3Free.l0 k l i c.f0 c.f1 c.f2 c.f3 c.f4) (fun _ i => some (!(meetsB (rd_T65 l i) c))) (by
    intro k i hi
    show spec_l3Free.l0 (k + 1) l i c.f0 c.f1 c.f2 c.f3 c.f4 = _
    rw [spec_l3Free.l0, if_pos (by omega), if_pos (by omega), meetsS, Option.bind_some, Option.bind_some]
    cases meetsB (rd_T65 l i) c <;> rfl) (by
    intro k
    show spec_l3Free.l0 (k + 1) l l.length c.f0 c.f1 c.f2 c.f3 c.f4 = _
    rw [spec_l3Free.l0, if_neg (by omega)]) (fun i => !(meetsB (rd_T65 l i) c)) (fun i _ => evNow rfl) l.length 0 (by omega)
  rw [allRangeG l (fun d => !(meetsB d c))] at this
  have e : (l.all fun d => !(meetsB d c)) = !(l.any (meetsB c)) := by
    rw [List.not_any_eq_all_not]
    congr 1; funext d; rw [meets_comm]
  rw [e] at this
  exact this
def cellIn (R C : Int) (bf : List S65) (c : S65) : Bool := inB 0 (wrap64 (R - 1)) c.f0 && (inB 0 (wrap64 (C - 1)) c.f1 && (inB 1 (wrap64 (R - c.f0)) c.f2 && (inB 1 (wrap64 (C - c.f1)) c.f3 && (inB 0 4 c.f4 && !(bf.any (meetsB c))))))
def cellsIn (R C : Int) (l : List S65) (i : Nat) : Bool := cellIn R C (l.take i) (rd_T65 l (i : Int))
def grdOkB (R C : Int) (l : List S65) : Bool := inB 1 8 R && (inB 1 94 C && (decide (l.length ≤ 40) && (List.range' 0 l.length).all (cellsIn R C l)))
theorem specGrdOk (R C : Int) (l : List S65) (h : l.length ≤ 9223372036854775807) : Ev (fun k => spec_GrdOk.f k R C l) (grdOkB R C l) := by
  have jt : Ev (fun k => spec_GrdOk.j0 k true R C l) false := Ev.step (fun k => by rw [spec_GrdOk.j0]) (evIf rfl (evNow rfl))
  have loop := allLoop l.length h (fun k i => spec_GrdOk.l0 k i R C l) (fun k i => if inB 0 (wrap64 (R - 1)) (rd_T65 l i).f0 = true then (if inB 0 (wrap64 (C - 1)) (rd_T65 l i).f1 = true then (if inB 1 (wrap64 (R - (rd_T65 l i).f0)) (rd_T65 l i).f2 = true then (if inB 1 (wrap64 (C - (rd_T65 l i).f1)) (rd_T65 l i).f3 = true then (if inB 0 4 (rd_T65 l i).f4 = true then spec_l3Free.f k (l.take i.toNat) (rd_T65 l i).f0 (rd_T65 l i).f1 (rd_T65 l i).f2 (rd_T65 l i).f3 (rd_T65 l i).f4 else some false) else some false) else some false) else some false) else some false) (by
    intro k i hi
    have hle : (i : Int) ≤ (l.length : Int) := by omega
    show spec_GrdOk.l0 (k + 1) i R C l = _
    rw [spec_GrdOk.l0, if_pos (by omega), if_pos (by omega)]
    simp only [inS, Option.bind_some, if_pos hle]
    generalize inB 0 (wrap64 (R - 1)) (rd_T65 l i).f0 = b1
    generalize inB 0 (wrap64 (C - 1)) (rd_T65 l i).f1 = b2
    generalize inB 1 (wrap64 (R - (rd_T65 l i).f0)) (rd_T65 l i).f2 = b3
    generalize inB 1 (wrap64 (C - (rd_T65 l i).f1)) (rd_T65 l i).f3 = b4
    generalize inB 0 4 (rd_T65 l i).f4 = b5
    cases b1 <;> cases b2 <;> cases b3 <;> cases b4 <;> cases b5 <;> rfl) (by
    intro k
    show spec_GrdOk.l0 (k + 1) l.length R C l = _
    rw [spec_GrdOk.l0, if_neg (by omega)]) (cellsIn R C l) (by
    intro i hi
    have hf := l3Free (l.take i) (rd_T65 l i) (by simp; omega)
    unfold cellsIn cellIn
    cases inB 0 (wrap64 (R - 1)) (rd_T65 l i).f0 with
    | false => exact evElse (by simp) (evNow rfl)
    | true =>
    refine evIf rfl ?_
    cases inB 0 (wrap64 (C - 1)) (rd_T65 l i).f1 with
    | false => exact evElse (by simp) (evNow rfl)
    | true =>
    refine evIf rfl ?_
    cases inB 1 (wrap64 (R - (rd_T65 l i).f0)) (rd_T65 l i).f2 with
    | false => exact evElse (by simp) (evNow rfl)
    | true =>
    refine evIf rfl ?_
    cases inB 1 (wrap64 (C - (rd_T65 l i).f1)) (rd_T65 l i).f3 with
    | false => exact evElse (by simp) (evNow rfl)
    | true =>
    refine evIf rfl ?_
    cases inB 0 4 (rd_T65 l i).f4 with
    | false => exact evElse (by simp) (evNow rfl)
    | true =>
    refine evIf rfl ?_
    rw [Int.toNat_natCast]
    exact hf) l.length 0 (by omega)
  unfold spec_GrdOk.f grdOkB
  refine evBindC (inS R 1 8) ?_
  cases inB 1 8 R with
  | false => exact evElse (by simp) jt
  | true =>
  refine evIf rfl (evBindC (inS C 1 94) ?_)
  cases inB 1 94 C with
  | false => exact evElse (by simp) jt
  | true =>
  refine evIf rfl ?_
  by_cases h40 : l.length ≤ 40
  · have e1 : decide ((l.length : Int) > 40) = false := decide_eq_false (by omega)
    rw [e1, decide_eq_true h40]
    refine Ev.step (fun k => by rw [spec_GrdOk.j0]) ?_
    exact evElse (by simp) loop
  · have e1 : decide ((l.length : Int) > 40) = true := decide_eq_true (by omega)
    rw [e1, decide_eq_false h40]
    exact jt
theorem implGrdOk (R C : Int) (l : List S65) (h : l.length ≤ 9223372036854775807) : Ev (fun k => impl_GrdOk.f k R C l) (grdOkB R C l) := by
  have jt : Ev (fun k => impl_GrdOk.j0 k true R C l) false := Ev.step (fun k => by rw [impl_GrdOk.j0]) (evIf rfl (evNow rfl))
  have j2t : ∀ i x c0 c1 c2 c3 c4, Ev (fun k => impl_GrdOk.j2 k i l (l.length : Int) x true R C l c0 c1 c2 c3 c4) false := fun i x c0 c1 c2 c3 c4 => Ev.step (fun k => by rw [impl_GrdOk.j2]) (evIf rfl (evNow rfl))
  have loop : ∀ (d i : Nat), i + d = l.length → Ev (fun k => impl_GrdOk.l0 k l (l.length : Int) i R C l) ((List.range' i d).all (cellsIn R C l)) := by
    intro d
    induction d with
    | zero =>
      intro i hi
      obtain rfl : i = l.length := by omega
      refine Ev.step (fun k => by rw [impl_GrdOk.l0]) ?_
      exact evElse (by omega) (evNow rfl)
    | succ d ih =>
      intro i hi
      have ih' := ih (i + 1) (by omega)
      rw [List.range'_succ, List.all_cons]
      refine Ev.step (fun k => by rw [impl_GrdOk.l0]) (evIf (by omega) (evIf (by omega) (evIf (by omega) ?_)))
      unfold cellsIn at *
      have ew := wnext (n := l.length) (i := i) (by omega) h
      generalize hc : rd_T65 l (i : Int) = c at *
      refine evBindC (inI c.f0 0 (wrap64 (R - 1))) ?_
      unfold cellIn
      cases h1 : inB 0 (wrap64 (R - 1)) c.f0 with
      | false => exact evElse (by simp) (j2t _ _ _ _ _ _ _)
      | true =>
      refine evIf rfl (evBindC (inI c.f2 1 (wrap64 (R - c.f0))) ?_)
      cases h2 : inB 1 (wrap64 (R - c.f0)) c.f2 with
      | false => cases inB 0 (wrap64 (C - 1)) c.f1 <;> exact evElse (by simp) (j2t _ _ _ _ _ _ _)
      | true =>
      refine evIf rfl (evBindC (inI c.f1 0 (wrap64 (C - 1))) ?_)
      cases h3 : inB 0 (wrap64 (C - 1)) c.f1 with
      | false => exact evElse (by simp) (j2t _ _ _ _ _ _ _)
      | true =>
      refine evIf rfl (evBindC (inI c.f3 1 (wrap64 (C - c.f1))) ?_)
      cases h4 : inB 1 (wrap64 (C - c.f1)) c.f3 with
      | false => exact j2t _ _ _ _ _ _ _
      | true =>
      refine Ev.step (fun k => by rw [impl_GrdOk.j2]) (evElse (by simp) (evBindC (inI c.f4 0 4) ?_))
      cases h5 : inB 0 4 c.f4 with
      | false => exact evElse (by simp) (evNow rfl)
      | true =>
      refine evIf rfl (evIf (by omega) (evIf (by omega) ?_))
      rw [Int.toNat_natCast]
      refine evBindC (show impl_GrdCell_42.f (l.take i) c.f0 c.f1 c.f2 c.f3 c.f4 = some ((l.take i).any (meetsB c)) from rfl) ?_
      cases h6 : (l.take i).any (meetsB c) with
      | true => exact evIf rfl (evNow rfl)
      | false =>
        refine evElse (by simp) ?_
        rw [ew]
        exact ih'
  unfold impl_GrdOk.f grdOkB
  refine evBindC (inI R 1 8) ?_
  cases inB 1 8 R with
  | false => exact evElse (by simp) jt
  | true =>
  refine evIf rfl (evBindC (inI C 1 94) ?_)
  cases inB 1 94 C with
  | false => exact evElse (by simp) jt
  | true =>
  refine evIf rfl ?_
  by_cases h40 : l.length ≤ 40
  · have e1 : decide ((l.length : Int) > 40) = false := decide_eq_false (by omega)
    rw [e1, decide_eq_true h40]
    refine Ev.step (fun k => by rw [impl_GrdOk.j0]) ?_
    exact evElse (by simp) (loop l.length 0 (by omega))
  · have e1 : decide ((l.length : Int) > 40) = true := decide_eq_true (by omega)
    rw [e1, decide_eq_false h40]
    exact jt
end Go.Proofs.Ytemcdfkmpikegaa.Pure
set_option linter.unusedVariables false
set_option linter.unusedSimpArgs false
namespace Go.Proofs.Ytemcdfkmpikegaa.Pure
open Go.RowKit Go.Proofs.Ytemcdfkmpikegaa.Pr Go.Proofs.YtemcdfkmpikegaaW.PrintWords Go.Proofs.YtemcdfkmpikegaaW.PrintLast Go.Proofs.YtemcdfkmpikegaaW.PrintMore
theorem eqInts (l : List Int) (h : l.length ≤ 9223372036854775807) : Ev (fun k => laws_eqIntS.f k l l) true := by
  unfold laws_eqIntS.f
  have loop : ∀ (d i : Nat), i + d = l.length → Ev (fun k => laws_eqIntS.l0 k l l i) true := by
    intro d
    induction d with
    | zero => exact fun i hi => Ev.step (fun k => by rw [laws_eqIntS.l0]) (evElse (by omega) (evNow rfl))
    | succ d ih =>
      intro i hi
      refine Ev.step (fun k => by rw [laws_eqIntS.l0]) (evIf (by omega) (evIf (by omega) (evIf (by omega) (evIf rfl ?_))))
      rw [wnext (n := l.length) (by omega) (by omega)]
      exact ih (i + 1) (by omega)
  exact evIf rfl (loop l.length 0 (by omega))
end Go.Proofs.Ytemcdfkmpikegaa.Pure
set_option linter.unusedVariables false
set_option linter.unusedSimpArgs false
namespace Go.Proofs.Ytemcdfkmpikegaa.Pure
open Go.RowKit Go.Proofs.Ytemcdfkmpikegaa.Pr Go.Proofs.YtemcdfkmpikegaaW.PrintWords Go.Proofs.YtemcdfkmpikegaaW.PrintLast Go.Proofs.YtemcdfkmpikegaaW.PrintMore
def marks (n : Nat) : List Int := (List.range n).map fun i => Int.ofNat (i + 1)
theorem mark (l : List Int) (h : l.length ≤ 2000000) : Ev (fun k => laws_markIntS.f k l 1) (((l.length + 1 : Nat) : Int), marks l.length) := by
  have loop : ∀ (d i : Nat), i + d = l.length → Ev (fun k => laws_markIntS.l0 k (marks i ++ l.drop i) ((i + 1 : Nat) : Int) i) (((l.length + 1 : Nat) : Int), marks l.length) := by
    intro d
    induction d with
    | zero =>
      intro i hi
      obtain rfl : i = l.length := by omega
      have hl : (marks l.length ++ l.drop l.length).length = l.length := by simp [marks]
      exact Ev.step (fun k => by rw [laws_markIntS.l0]) (evElse (by rw [hl]; omega) (evNow (by simp)))
    | succ d ih =>
      intro i hi
      have hl : (marks i ++ l.drop i).length = l.length := by simp [marks]; omega
      have hs : (marks i ++ l.drop i).set i (((i + 1 : Nat) : Int)) = marks (i + 1) ++ l.drop (i + 1) := by
        rw [dropCons l i (by omega), List.set_append_right _ _ (by simp [marks]), show i - (marks i).length = 0 by simp [marks], List.set_cons_zero]
        simp [marks, List.range_succ]
      have h1 : i + 1 ≤ 2000000 := by omega
      refine Ev.step (fun k => by rw [laws_markIntS.l0]) (evIf (by rw [hl]; omega) (evIf (by omega) ?_))
      rw [Int.toNat_natCast, hs, wnext (i := i) (n := 3000000) (by omega) (by omega), wnext (i := i + 1) (n := 3000000) (by omega) (by omega)]
      exact ih (i + 1) (by omega)
  have := loop l.length 0 (by omega)
  simpa [marks, laws_markIntS.f] using this
theorem held (n : Nat) (h : n ≤ 2000000) : Ev (fun k => laws_heldIntS.f k (marks n) 1) ((n + 1 : Nat) : Int) := by
  have hl : (marks n).length = n := by simp [marks]
  have loop : ∀ (d i : Nat), i + d = n → Ev (fun k => laws_heldIntS.l0 k (marks n) ((i + 1 : Nat) : Int) i) ((n + 1 : Nat) : Int) := by
    intro d
    induction d with
    | zero =>
      intro i hi
      obtain rfl : i = n := by omega
      exact Ev.step (fun k => by rw [laws_heldIntS.l0]) (evElse (by rw [hl]; omega) (evNow rfl))
    | succ d ih =>
      intro i hi
      have hr : rd (marks n) (i : Int) = ((i + 1 : Nat) : Int) := by
        rw [rdNat _ i (by rw [hl]; omega)]; simp [marks]
      refine Ev.step (fun k => by rw [laws_heldIntS.l0]) (evIf (by rw [hl]; omega) (evIf (by omega) (evIf hr ?_)))
      rw [wnext (i := i) (n := 3000000) (by omega) (by omega), wnext (i := i + 1) (n := 3000000) (by omega) (by omega)]
      exact ih (i + 1) (by omega)
  have := loop n 0 (by omega)
  simpa [laws_heldIntS.f] using this
end Go.Proofs.Ytemcdfkmpikegaa.Pure
set_option linter.unusedVariables false
set_option linter.unusedSimpArgs false
namespace Go.Proofs.Ytemcdfkmpikegaa.Pure
open Go.RowKit Go.Proofs.Ytemcdfkmpikegaa.Pr Go.Proofs.YtemcdfkmpikegaaW.PrintWords Go.Proofs.YtemcdfkmpikegaaW.PrintLast Go.Proofs.YtemcdfkmpikegaaW.PrintMore
theorem specBlocks (n : Nat) (C : Int) (l : List S65) (h : l.length ≤ 9223372036854775807) (hn : grdOkB n C l = true → n ≤ 8) : Ev (fun k => spec_GrdBlocks.f k n C l) (if grdOkB n C l = true then blocksL l n else []) := by
  have inner : ∀ (d i : Nat) (out : List Int) (r : Int) (b : Bool) (x : List Int), i + d = l.length → out.length ≤ 8 →
      Ev (fun k => spec_GrdBlocks.l0 k (if (b && !((l.drop i).any (overB r))) = true then out ++ [r] else out) (wrap64 (r + 1)) n C l) x → Ev (fun k => spec_GrdBlocks.l1 k out r b i n C l) x := by
    intro d
    induction d with
    | zero =>
      intro i out r b x hi ho hx
      obtain rfl : i = l.length := by omega
      rw [List.drop_length] at hx
      refine Ev.step (fun k => by rw [spec_GrdBlocks.l1]) ?_
      refine evElse (by omega) ?_
      cases b with
      | true => exact evIf rfl (evIf (by omega) (by simpa using hx))
      | false => exact evElse (by simp) (by simpa using hx)
    | succ d ih =>
      intro i out r b x hi ho hx
      have hlt : i < l.length := by omega
      rw [dropCons l i hlt, List.any_cons] at hx
      have en := wnext (n := l.length) (i := i) (by omega) (by omega)
      refine Ev.step (fun k => by rw [spec_GrdBlocks.l1]) ?_
      refine evIf (by omega) ?_
      cases b with
      | false =>
        refine evElse (by simp) ?_
        rw [en]
        exact ih (i + 1) out r false x (by omega) ho (by simpa using hx)
      | true =>
        refine evIf rfl (evIf (by omega) ?_)
        rw [rdG l i hlt, en]
        by_cases c1 : l[i].f0 < r
        · refine evIf c1 ?_
          refine ih (i + 1) out r _ x (by omega) ho ?_
          have e : overB r l[i] = decide (wrap64 (l[i].f0 + l[i].f2) > r) := by simp [overB, c1]
          rw [e] at hx
          cases hd : decide (wrap64 (l[i].f0 + l[i].f2) > r) <;> rw [hd] at hx <;> simpa using hx
        · refine evElse c1 ?_
          refine ih (i + 1) out r _ x (by omega) ho ?_
          have e : overB r l[i] = false := by simp [overB, c1]
          rw [e] at hx
          simpa using hx
  unfold spec_GrdBlocks.f
  refine evSome ((specGrdOk n C l h).bind ?_)
  cases hg : grdOkB n C l with
  | false => exact evElse (by simp) (evNow rfl)
  | true =>
    have h8 := hn hg
    refine evIf rfl ?_
    have outer : ∀ (d j : Nat), j + d = n → Ev (fun k => spec_GrdBlocks.l0 k (blocksL l j) j n C l) (blocksL l n) := by
      intro d
      induction d with
      | zero =>
        intro j hj
        obtain rfl : j = n := by omega
        refine Ev.step (fun k => by rw [spec_GrdBlocks.l0]) ?_
        exact evElse (by omega) (evNow rfl)
      | succ d ih =>
        intro j hj
        have hl := blocksL_le l j
        refine Ev.step (fun k => by rw [spec_GrdBlocks.l0]) ?_
        refine evIf (by omega) ?_
        refine inner l.length 0 _ _ _ _ (by omega) (by omega) ?_
        rw [List.drop_zero, Bool.true_and, wnext (n := n) (by omega) (by omega)]
        have := ih (j + 1) (by omega)
        rw [blocksL] at this
        cases hq : l.any (overB (j : Int)) with
        | true => rw [hq, if_pos rfl] at this; simpa using this
        | false => rw [hq, if_neg (by simp)] at this; simpa using this
    exact outer n 0 (by omega)
theorem grdOk_rows {R C : Int} {l : List S65} (h : grdOkB R C l = true) : 1 ≤ R ∧ R ≤ 8 := by
  unfold grdOkB at h
  rw [Bool.and_eq_true] at h
  exact inB_iff.mp h.1
theorem implBlocks (R C : Int) (l : List S65) (h : l.length ≤ 9223372036854775807) : Ev (fun k => impl_GrdBlocks.f k R C l) (if grdOkB R C l = true then blocksL l R.toNat else []) := by
  unfold impl_GrdBlocks.f
  refine (implGrdOk R C l h).bind ?_
  cases hg : grdOkB R C l with
  | false => exact evElse (by simp) (evNow rfl)
  | true => have := grdOk_rows hg; exact evIf rfl (evIf (by omega) (evNow rfl))
theorem specBlocks' (R C : Int) (l : List S65) (h : l.length ≤ 9223372036854775807) : Ev (fun k => spec_GrdBlocks.f k R C l) (if grdOkB R C l = true then blocksL l R.toNat else []) := by
  by_cases h0 : 0 ≤ R
  · obtain ⟨n, rfl⟩ : ∃ n : Nat, R = n := ⟨R.toNat, by omega⟩
    rw [Int.toNat_natCast]
    exact specBlocks n C l h (fun hg => by have := grdOk_rows hg; omega)
  · have hg : grdOkB R C l = false := by
      cases hg : grdOkB R C l with
      | false => rfl
      | true => have := grdOk_rows hg; omega
    rw [hg]
    unfold spec_GrdBlocks.f
    have := specGrdOk R C l h
    rw [hg] at this
    exact evSome (this.bind (evElse (by simp) (evNow rfl)))
theorem blocks_len (R C : Int) (l : List S65) : (if grdOkB R C l = true then blocksL l R.toNat else []).length ≤ 8 := by
  split
  · rename_i hg
    have := blocksL_le l R.toNat
    have := grdOk_rows hg
    omega
  · simp
def st5 (xs : List S65) (i m : Int) : List S65 :=
  let y1 := xs.set i.toNat (⟨m, (rd_T65 xs i).f1, (rd_T65 xs i).f2, (rd_T65 xs i).f3, (rd_T65 xs i).f4⟩ : S65)
  let y2 := y1.set i.toNat (⟨(rd_T65 y1 i).f0, wrap64 (m + 1), (rd_T65 y1 i).f2, (rd_T65 y1 i).f3, (rd_T65 y1 i).f4⟩ : S65)
  let y3 := y2.set i.toNat (⟨(rd_T65 y2 i).f0, (rd_T65 y2 i).f1, wrap64 (wrap64 (m + 1) + 1), (rd_T65 y2 i).f3, (rd_T65 y2 i).f4⟩ : S65)
  let y4 := y3.set i.toNat (⟨(rd_T65 y3 i).f0, (rd_T65 y3 i).f1, (rd_T65 y3 i).f2, wrap64 (wrap64 (wrap64 (m + 1) + 1) + 1), (rd_T65 y3 i).f4⟩ : S65)
  y4.set i.toNat (⟨(rd_T65 y4 i).f0, (rd_T65 y4 i).f1, (rd_T65 y4 i).f2, (rd_T65 y4 i).f3, wrap64 (wrap64 (wrap64 (wrap64 (m + 1) + 1) + 1) + 1)⟩ : S65)
theorem markGrid (a b : Int) (l : List S65) (h : l.length ≤ 1048576) : ∃ r, Ev (fun k => laws_markGrdGrid.f k a b l 1) r ∧ ¬ r.1 < 0 := by
  have loop : ∀ (d i : Nat) (m : Nat) (xs : List S65), i + d = l.length → xs.length = l.length → m + 5 * d ≤ 9000000 → ∃ xs', Ev (fun k => laws_markGrdCellS.l0 k xs m i) (((m + 5 * d : Nat) : Int), xs') := by
    intro d
    induction d with
    | zero =>
      intro i m xs hi hx hm
      refine ⟨xs, ?_⟩
      refine Ev.step (fun k => by rw [laws_markGrdCellS.l0]) ?_
      exact evElse (by omega) (evNow rfl)
    | succ d ih =>
      intro i m xs hi hx hm
      have w1 : wrap64 ((m : Int) + 1) = ((m + 1 : Nat) : Int) := by rw [w64 (by omega) (by omega)]; omega
      have w2 : wrap64 (((m + 1 : Nat) : Int) + 1) = ((m + 2 : Nat) : Int) := by rw [w64 (by omega) (by omega)]; omega
      have w3 : wrap64 (((m + 2 : Nat) : Int) + 1) = ((m + 3 : Nat) : Int) := by rw [w64 (by omega) (by omega)]; omega
      have w4 : wrap64 (((m + 3 : Nat) : Int) + 1) = ((m + 4 : Nat) : Int) := by rw [w64 (by omega) (by omega)]; omega
      have w5 : wrap64 (((m + 4 : Nat) : Int) + 1) = ((m + 5 : Nat) : Int) := by rw [w64 (by omega) (by omega)]; omega
      have main : ∀ ys : List S65, ys.length = l.length → ∃ xs', Ev (fun k => laws_markGrdCellS.l0 k ys ((m + 5 : Nat) : Int) ((i + 1 : Nat) : Int)) (((m + 5 * (d + 1) : Nat) : Int), xs') := by
        intro ys hy
        obtain ⟨xs', h'⟩ := ih (i + 1) (m + 5) ys (by omega) hy (by omega)
        refine ⟨xs', ?_⟩
        rw [show m + 5 * (d + 1) = m + 5 + 5 * d by omega]; exact h'
      have hy : (st5 xs i m).length = l.length := by unfold st5; simp only [List.length_set]; exact hx
      have hs : ∀ r, Ev (fun k => laws_markGrdCellS.l0 k (st5 xs i m) ((m + 5 : Nat) : Int) ((i + 1 : Nat) : Int)) r → Ev (fun k => laws_markGrdCellS.l0 k xs m i) r := by
        intro r h'
        refine Ev.step (fun k => ?_) h'
        rw [laws_markGrdCellS.l0, if_pos (show (i : Int) < (xs.length : Int) by omega), if_pos (show 0 ≤ (i : Int) by omega)]
        rw [← w5, ← w4, ← w3, ← w2, ← w1, ← wnext (n := l.length) (i := i) (by omega) (by omega)]
        rfl
      obtain ⟨xs', h'⟩ := main (st5 xs i m) hy
      exact ⟨xs', hs _ h'⟩
  obtain ⟨xs', h'⟩ := loop l.length 0 1 l (by omega) rfl (by omega)
  refine ⟨(((1 + 5 * l.length : Nat) : Int), xs'), ?_, by show ¬ ((1 + 5 * l.length : Nat) : Int) < 0; omega⟩
  unfold laws_markGrdGrid.f laws_markGrdCellS.f
  exact h'.bind (evNow rfl)
end Go.Proofs.Ytemcdfkmpikegaa.Pure
set_option linter.unusedVariables false
set_option linter.unusedSimpArgs false
namespace Go.Proofs.Ytemcdfkmpikegaa.Pure
open Go.RowKit Go.Proofs.Ytemcdfkmpikegaa.Pr Go.Proofs.YtemcdfkmpikegaaW.PrintWords Go.Proofs.YtemcdfkmpikegaaW.PrintLast Go.Proofs.YtemcdfkmpikegaaW.PrintMore
theorem FnExactGrdBlocks (g : S37) (hg : wf37 g) : ∃ k, laws_FnExactGrdBlocks.f k g.f0 g.f1 g.f2 = some true := by
  apply Run.get
  have hl : g.f2.length ≤ 9223372036854775807 := hg.2.2.1
  obtain ⟨r, hr, hb⟩ := szGrid g.f0 g.f1 g.f2 hl
  unfold laws_FnExactGrdBlocks.f
  refine Run.constBind hr (Run.ite (fun _ => Run.ret rfl) fun hn => ?_)
  have ti := toGrid g.f0 g.f1 g.f2 (hb hn)
  have hm : (g.f2.map cvG).length ≤ 9223372036854775807 := by simpa using hl
  have hi := implBlocks g.f0 g.f1 (g.f2.map cvG) hm
  have hs := specBlocks' g.f0 g.f1 (g.f2.map cvG) hm
  have h8 := blocks_len g.f0 g.f1 (g.f2.map cvG)
  generalize (if grdOkB g.f0 g.f1 (g.f2.map cvG) = true then blocksL (g.f2.map cvG) g.f0.toNat else []) = r at hi hs h8
  have er := eqInts r (by omega)
  have h0 : Run (fun k => laws_FnExactGrdBlocks.j0 k r r false g.f0 g.f1 g.f2) (· = true) := by
    refine Run.step (fun k => by rw [laws_FnExactGrdBlocks.j0]) (Run.neg (by decide) ?_)
    refine Run.evBind (mark r (by omega)) (Run.evBind (held r.length (by omega)) ?_)
    refine Run.neg (by omega) (Run.pos rfl (Run.evBind ti (Run.evBind hi (Run.evBind er (Run.pos rfl (Run.evBind (held r.length (by omega)) ?_))))))
    exact Run.neg (by omega) (Run.pos rfl (Run.ret rfl))
  obtain ⟨q, hq, hq0⟩ := markGrid g.f0 g.f1 (g.f2.map cvG) (by simpa using hb hn)
  refine Run.evBind ti (Run.evBind hs (Run.evBind ti (Run.evBind hi (Run.evBind er (Run.pos rfl (Run.evBind ti (Run.evBind (eqGrid g.f0 g.f1 _ hm) (Run.pos rfl (Run.evBind hq ?_)))))))))
  exact Run.neg hq0 (Run.evBind er h0)
end Go.Proofs.Ytemcdfkmpikegaa.Pure
