/- The plain laws that the claim of 'FnExactGrdEmpty' leans on. -/
import Derived.Test.YtemcdfkmpikegaaFnExactGrdEmptyPr0
import Derived.Test.YtemcdfkmpikegaaFnExactGrdEmptyPr39
import Derived.Test.YtemcdfkmpikegaaFnExactGrdEmptyPr41
import Derived.Test.YtemcdfkmpikegaaFnExactGrdEmptyPr13
import Derived.Test.YtemcdfkmpikegaaFnExactGrdEmptyPr14
import Derived.Test.YtemcdfkmpikegaaFnExactGrdEmptyPr15
import Derived.Test.YtemcdfkmpikegaaFnExactGrdEmptyPr17
import Derived.Test.YtemcdfkmpikegaaFnExactGrdEmptyPr34
import Derived.Test.YtemcdfkmpikegaaFnExactGrdEmptyPr35
import Derived.Test.YtemcdfkmpikegaaFnExactGrdEmptyPr38
import Derived.Test.YtemcdfkmpikegaaFnExactGrdEmptyPr52
import Derived.Test.YtemcdfkmpikegaaFnExactGrdEmptyPr18
import Derived.Test.YtemcdfkmpikegaaFnExactGrdEmptyPr19
import Derived.Test.YtemcdfkmpikegaaFnExactGrdEmptyPr40
import Derived.Test.YtemcdfkmpikegaaFnExactGrdEmptyPr42
import Derived.Test.YtemcdfkmpikegaaFnExactGrdEmptyPr53
import Derived.Test.YtemcdfkmpikegaaFnExactGrdEmptyPr20
import Derived.Test.YtemcdfkmpikegaaFnExactGrdEmptyPr21
import Derived.Test.YtemcdfkmpikegaaFnExactGrdEmptyPr6
import Derived.Test.YtemcdfkmpikegaaFnExactGrdEmptyQTy
set_option linter.unusedVariables false
set_option linter.unusedSimpArgs false
namespace Go.Proofs.Ytemcdfkmpikegaa.Pure
open Go.RowKit Go.Proofs.Ytemcdfkmpikegaa.Pr Go.Proofs.YtemcdfkmpikegaaW.PrintWords Go.Proofs.YtemcdfkmpikegaaW.PrintLast Go.Proofs.YtemcdfkmpikegaaW.PrintMore
theorem evIf {α : Type} {c : Prop} [Decidable c] {g f : Nat → Option α} {r : α} (hc : c) (h : Ev g r) : Ev (fun k => if c then g k else f k) r :=
  Ev.congr (fun _ => if_pos hc) h
theorem evElse {α : Type} {c : Prop} [Decidable c] {g f : Nat → Option α} {r : α} (hc : ¬ c) (h : Ev f r) : Ev (fun k => if c then g k else f k) r :=
  Ev.congr (fun _ => if_neg hc) h
theorem evNow {α : Type} {g : Option α} {r : α} (h : g = some r) : Ev (fun _ => g) r := ⟨0, fun _ _ => h⟩
theorem evBindC {α β : Type} {g : Option α} {f : Nat → α → Option β} {a : α} {r : β} (h : g = some a) (k : Ev (fun n => f n a) r) : Ev (fun n => g.bind (f n)) r := by
  subst h; exact k
theorem in_eq (a b c : Int) : impl_in.f a b c = some (decide (b ≤ a) && decide (a ≤ c)) := by
  unfold impl_in.f; by_cases h : a ≥ b <;> simp [h] <;> omega
theorem l1In_eq (a b c : Int) : spec_l1In.f a b c = some (decide (b ≤ a) && decide (a ≤ c)) := by
  unfold spec_l1In.f; by_cases h : a ≥ b <;> simp [h] <;> omega
theorem w64 {x : Int} (h : -9223372036854775808 ≤ x) (h2 : x ≤ 9223372036854775807) : wrap64 x = x := by unfold wrap64; omega
def Run {α : Type} (g : Nat → Option α) (Q : α → Prop) : Prop := ∃ r, Ev g r ∧ Q r
theorem Run.ret {α : Type} {r : α} {Q : α → Prop} (h : Q r) : Run (fun _ => some r) Q := ⟨r, Ev.now r, h⟩
theorem Run.bind {α β : Type} {g : Nat → Option α} {f : Nat → α → Option β} {Q : α → Prop} {R : β → Prop} (h : Run g Q) (k : ∀ a, Q a → Run (fun n => f n a) R) : Run (fun n => (g n).bind (f n)) R := by
  obtain ⟨a, ha, qa⟩ := h
  obtain ⟨b, hb, rb⟩ := k a qa
  exact ⟨b, ha.bind hb, rb⟩
theorem Run.evBind {α β : Type} {g : Nat → Option α} {f : Nat → α → Option β} {a : α} {R : β → Prop} (h : Ev g a) (k : Run (fun n => f n a) R) : Run (fun n => (g n).bind (f n)) R := by
  obtain ⟨b, hb, rb⟩ := k
  exact ⟨b, h.bind hb, rb⟩
theorem Run.some {α β : Type} {a : α} {f : Nat → α → Option β} {R : β → Prop} (k : Run (fun n => f n a) R) : Run (fun n => (Option.some a).bind (f n)) R := k
theorem Run.constBind {α β : Type} {g : Option α} {f : Nat → α → Option β} {a : α} {R : β → Prop} (h : g = Option.some a) (k : Run (fun n => f n a) R) : Run (fun n => g.bind (f n)) R := by subst h; exact k
theorem Run.ite {α : Type} {c : Prop} [Decidable c] {g f : Nat → Option α} {Q : α → Prop} (h : c → Run g Q) (k : ¬ c → Run f Q) : Run (fun n => if c then g n else f n) Q := by
  by_cases hc : c
  · obtain ⟨r, e, q⟩ := h hc; exact ⟨r, evIf hc e, q⟩
  · obtain ⟨r, e, q⟩ := k hc; exact ⟨r, evElse hc e, q⟩
theorem Run.pos {α : Type} {c : Prop} [Decidable c] {g f : Nat → Option α} {Q : α → Prop} (hc : c) (h : Run g Q) : Run (fun n => if c then g n else f n) Q := Run.ite (fun _ => h) (fun k => absurd hc k)
theorem Run.step {α : Type} {g f : Nat → Option α} {Q : α → Prop} (h : ∀ k, g (k + 1) = f k) (k : Run f Q) : Run g Q := by
  obtain ⟨r, e, q⟩ := k; exact ⟨r, Ev.step h e, q⟩
theorem Run.imp {α : Type} {g : Nat → Option α} {Q R : α → Prop} (h : Run g Q) (k : ∀ r, Q r → R r) : Run g R := by
  obtain ⟨r, e, q⟩ := h; exact ⟨r, e, k r q⟩
theorem Run.get {α : Type} {g : Nat → Option α} {r : α} (h : Run g (· = r)) : ∃ k, g k = Option.some r := by
  obtain ⟨r', e, rfl⟩ := h; exact e.rounds
theorem Ev.run {α : Type} {g : Nat → Option α} {r : α} (h : Ev g r) : Run g (· = r) := ⟨r, h, rfl⟩
end Go.Proofs.Ytemcdfkmpikegaa.Pure
set_option linter.unusedVariables false
set_option linter.unusedSimpArgs false
namespace Go.Proofs.Ytemcdfkmpikegaa.Pure
open Go.RowKit Go.Proofs.Ytemcdfkmpikegaa.Pr Go.Proofs.YtemcdfkmpikegaaW.PrintWords Go.Proofs.YtemcdfkmpikegaaW.PrintLast Go.Proofs.YtemcdfkmpikegaaW.PrintMore
theorem wnext {n i : Nat} (h : i < n) (hn : n ≤ 9223372036854775807) : wrap64 ((i : Int) + 1) = ((i + 1 : Nat) : Int) := by
  rw [w64 (by omega) (by omega)]; omega
theorem setStep {α : Type} (l : List α) (z : α) (i : Nat) (h : i < l.length) : (l.take i ++ List.replicate (l.length - i) z).set i l[i] = l.take (i + 1) ++ List.replicate (l.length - (i + 1)) z := by
  apply List.ext_getElem
  · simp; omega
  · intro j h1 h2
    by_cases e : j = i
    · subst e; simp [List.getElem_append]; omega
    · simp only [List.getElem_set, List.getElem_append]
      rw [if_neg (by omega)]
      by_cases hj : j < i
      · simp [hj]; rw [dif_pos (by omega), dif_pos (by omega)]
      · simp [hj]; rw [dif_neg (by omega), dif_neg (by omega)]
theorem dropCons {α : Type} (l : List α) (i : Nat) (h : i < l.length) : l.drop i = l[i] :: l.drop (i + 1) := List.drop_eq_getElem_cons h
end Go.Proofs.Ytemcdfkmpikegaa.Pure
set_option linter.unusedVariables false
set_option linter.unusedSimpArgs false
namespace Go.Proofs.Ytemcdfkmpikegaa.Pure
open Go.RowKit Go.Proofs.Ytemcdfkmpikegaa.Pr Go.Proofs.YtemcdfkmpikegaaW.PrintWords Go.Proofs.YtemcdfkmpikegaaW.PrintLast Go.Proofs.YtemcdfkmpikegaaW.PrintMore
theorem cpLoop {α β : Type} (l : List α) (cv : α → β) (z : β) (hl : l.length ≤ 9223372036854775807) (F : Nat → List β → Int → Option (List β)) (g : Nat → Int → Option β)
    (hF : ∀ k xs i, F (k + 1) xs i = if i < (l.length : Int) then (if 0 ≤ i then ((g k i).bind fun v => if i < (xs.length : Int) then F k (xs.set i.toNat v) (wrap64 (i + 1)) else none) else none) else some xs)
    (hg : ∀ (i : Nat) (h : i < l.length), Ev (fun k => g k (i : Int)) (cv l[i])) : Ev (fun k => F k (List.replicate l.length z) 0) (l.map cv) := by
  have loop : ∀ (d i : Nat), i + d = l.length → Ev (fun k => F k ((l.map cv).take i ++ List.replicate (l.length - i) z) i) (l.map cv) := by
    intro d
    induction d with
    | zero =>
      intro i hi
      obtain rfl : i = l.length := by omega
      refine Ev.step (fun k => by rw [hF]) (evElse (by omega) (evNow (by rw [List.take_of_length_le (by simp)]; simp)))
    | succ d ih =>
      intro i hi
      have hlt : i < l.length := by omega
      refine Ev.step (fun k => by rw [hF]) (evIf (by omega) (evIf (by omega) ?_))
      refine Ev.bind (hg i hlt) ?_
      refine evIf (by simp; omega) ?_
      have hm : (l.map cv).length = l.length := by simp
      have e := setStep (l.map cv) z i (by rw [hm]; exact hlt)
      simp only [List.length_map, List.getElem_map] at e
      rw [Int.toNat_natCast, e, wnext (n := l.length) (by omega) hl]
      exact ih (i + 1) (by omega)
  have := loop l.length 0 (by omega)
  simpa using this
theorem allLoop (n : Nat) (hn : n ≤ 9223372036854775807) (F : Nat → Int → Option Bool) (g : Nat → Int → Option Bool)
    (hF : ∀ k (i : Nat), i < n → F (k + 1) (i : Int) = ((g k (i : Int)).bind fun t => if t = true then F k (wrap64 ((i : Int) + 1)) else some false))
    (hE : ∀ k, F (k + 1) (n : Int) = some true) (p : Nat → Bool)
    (hg : ∀ (i : Nat), i < n → Ev (fun k => g k (i : Int)) (p i)) : ∀ (d i : Nat), i + d = n → Ev (fun k => F k (i : Int)) ((List.range' i d).all p) := by
  intro d
  induction d with
  | zero =>
    intro i hi
    obtain rfl : i = n := by omega
    exact Ev.step (fun k => hE k) (evNow rfl)
  | succ d ih =>
    intro i hi
    refine Ev.step (fun k => hF k i (by omega)) (Ev.bind (hg i (by omega)) ?_)
    rw [List.range'_succ, List.all_cons]
    cases hp : p i with
    | false => exact evElse (by simp) (evNow (by simp))
    | true =>
      refine evIf rfl ?_
      rw [wnext (n := n) (by omega) hn]
      simpa using ih (i + 1) (by omega)
theorem allLoop0 (n : Nat) (hn : n ≤ 9223372036854775807) (F : Nat → Int → Option Bool) (g : Nat → Int → Option Bool)
    (hF : ∀ k (i : Nat), i < n → F (k + 1) (i : Int) = ((g k (i : Int)).bind fun t => if t = true then F k (wrap64 ((i : Int) + 1)) else some false))
    (hE : ∀ k, F (k + 1) (n : Int) = some true) (hg : ∀ (i : Nat), i < n → Ev (fun k => g k (i : Int)) true) : Ev (fun k => F k 0) true := by
  have := allLoop n hn F g hF hE (fun _ => true) hg n 0 (by omega)
  have e : (List.range' 0 n).all (fun _ => true) = true := by rw [List.all_eq_true]; exact fun _ _ => rfl
  rw [e] at this
  exact this
theorem range'_all_take {p : Nat → Bool} (n i : Nat) : (List.range' i n).all p = true ↔ ∀ j, i ≤ j → j < i + n → p j = true := by
  simp [List.all_eq_true, List.mem_range'_1]
end Go.Proofs.Ytemcdfkmpikegaa.Pure
set_option linter.unusedVariables false
set_option linter.unusedSimpArgs false
namespace Go.Proofs.Ytemcdfkmpikegaa.Pure
open Go.RowKit Go.Proofs.Ytemcdfkmpikegaa.Pr Go.Proofs.YtemcdfkmpikegaaW.PrintWords Go.Proofs.YtemcdfkmpikegaaW.PrintLast Go.Proofs.YtemcdfkmpikegaaW.PrintMore
def cvG (x : S86) : S65 := ⟨x.f0, x.f1, x.f2, x.f3, x.f4⟩
theorem rdG (l : List S65) (i : Nat) (h : i < l.length) : rd_T65 l (i : Int) = l[i] := by unfold rd_T65; simp [h]
theorem rdGl (l : List S86) (i : Nat) (h : i < l.length) : rd_T86 l (i : Int) = l[i] := by unfold rd_T86; simp [h]
theorem toGrdCells (l : List S86) (h : l.length ≤ 1048576) : Ev (fun k => laws_toGrdCellS.f k l) (l.map cvG) := by
  unfold laws_toGrdCellS.f
  refine evIf (by omega) (evIf (by omega) ?_)
  rw [Int.toNat_natCast]
  refine cpLoop l cvG z65 (by omega) (fun k xs i => laws_toGrdCellS.l0 k l xs i) (fun _ i => some (cvG (rd_T86 l i))) (fun k xs i => by show laws_toGrdCellS.l0 (k + 1) l xs i = _; rw [laws_toGrdCellS.l0]; rfl) (fun i hi => evNow (by rw [rdGl l i hi]))
theorem toGrid (a b : Int) (l : List S86) (h : l.length ≤ 1048576) : Ev (fun k => laws_toGrdGrid.f k a b l) (a, b, l.map cvG) :=
  (toGrdCells l h).bind (evNow rfl)
theorem eqGrdCells (l : List S65) (h : l.length ≤ 9223372036854775807) : Ev (fun k => laws_eqGrdCellS.f k l l) true := by
  unfold laws_eqGrdCellS.f
  refine evIf rfl ?_
  refine allLoop0 l.length h (fun k i => laws_eqGrdCellS.l0 k l l i) (fun _ i => laws_eqGrdCell.f (rd_T65 l i).f0 (rd_T65 l i).f1 (rd_T65 l i).f2 (rd_T65 l i).f3 (rd_T65 l i).f4 (rd_T65 l i).f0 (rd_T65 l i).f1 (rd_T65 l i).f2 (rd_T65 l i).f3 (rd_T65 l i).f4) ?_ ?_ ?_
  · intro k i hi
    show laws_eqGrdCellS.l0 (k + 1) l l i = _
    rw [laws_eqGrdCellS.l0, if_pos (by omega), if_pos (by omega), if_pos (by omega)]
  · intro k
    show laws_eqGrdCellS.l0 (k + 1) l l l.length = _
    rw [laws_eqGrdCellS.l0, if_neg (by omega)]
  · intro i hi
    exact evNow (by unfold laws_eqGrdCell.f; simp)
theorem eqGrid (a b : Int) (l : List S65) (h : l.length ≤ 9223372036854775807) : Ev (fun k => laws_eqGrdGrid.f k a b l a b l) true := by
  unfold laws_eqGrdGrid.f
  exact evIf rfl (evIf rfl ((eqGrdCells l h).bind (evIf rfl (evNow rfl))))
theorem szGrid (a b : Int) (l : List S86) (hl : l.length ≤ 9223372036854775807) : ∃ r, laws_szGrdGrid.f a b l 1048576 = some r ∧ (¬ r < 0 → l.length ≤ 1048576) := by
  have e : wrap64 (1048576 - (l.length : Int)) = 1048576 - (l.length : Int) := w64 (by omega) (by omega)
  unfold laws_szGrdGrid.f laws_szGrdCellS.f
  rw [e]
  by_cases h : 1048576 - (l.length : Int) < 0
  · exact ⟨-1, by simp [h], by simp⟩
  · exact ⟨1048576 - (l.length : Int), by simp [h], by omega⟩
end Go.Proofs.Ytemcdfkmpikegaa.Pure
set_option linter.unusedVariables false
set_option linter.unusedSimpArgs false
namespace Go.Proofs.Ytemcdfkmpikegaa.Pure
open Go.RowKit Go.Proofs.Ytemcdfkmpikegaa.Pr Go.Proofs.YtemcdfkmpikegaaW.PrintWords Go.Proofs.YtemcdfkmpikegaaW.PrintLast Go.Proofs.YtemcdfkmpikegaaW.PrintMore
def inB (lo hi n : Int) : Bool := decide (lo ≤ n) && decide (n ≤ hi)
theorem inI (a b c : Int) : impl_in.f a b c = some (inB b c a) := in_eq a b c
theorem inS (a b c : Int) : spec_l1In.f a b c = some (inB b c a) := l1In_eq a b c
theorem meetsS (c d : S65) : spec_l3Meets.f c.f0 c.f1 c.f2 c.f3 c.f4 d.f0 d.f1 d.f2 d.f3 d.f4 = some (meetsB c d) := by
  unfold spec_l3Meets.f meetsB
  by_cases h1 : c.f0 < wrap64 (d.f0 + d.f2) <;> by_cases h2 : d.f0 < wrap64 (c.f0 + c.f2) <;> by_cases h3 : c.f1 < wrap64 (d.f1 + d.f3) <;> simp [h1, h2, h3]
theorem meets_comm (c d : S65) : meetsB c d = meetsB d c := by
  unfold meetsB
  cases decide (c.f0 < wrap64 (d.f0 + d.f2)) <;> cases decide (d.f0 < wrap64 (c.f0 + c.f2)) <;> cases decide (c.f1 < wrap64 (d.f1 + d.f3)) <;> cases decide (d.f1 < wrap64 (c.f1 + c.f3)) <;> rfl
theorem allRangeG (l : List S65) (q : S65 → Bool) : (List.range' 0 l.length).all (fun i => q (rd_T65 l (i : Int))) = l.all q := by
  rw [Bool.eq_iff_iff, range'_all_take, List.all_eq_true]
  constructor
  · intro h x hx
    obtain ⟨i, hi, rfl⟩ := List.getElem_of_mem hx
    have := h i (Nat.zero_le _) (by omega)
    rwa [rdG l i hi] at this
  · intro h j _ hj
    rw [rdG l j (by omega)]
    exact h _ (List.getElem_mem _)
theorem l3Free (l : List S65) (c : S65) (h : l.length ≤ 9223372036854775807) : Ev (fun k => spec_l3Free.f k l c.f0 c.f1 c.f2 c.f3 c.f4) (!(l.any (meetsB c))) := by
  unfold spec_l3Free.f
  have := allLoop l.length h (fun k i => spec_l3Free.l0 k l i c.f0 c.f1 c.f2 c.f3 c.f4) (fun _ i => some (!(meetsB (rd_T65 l i) c))) (by
    intro k i hi
    show spec_l3Free.l0 (k + 1) l i c.f0 c.f1 c.f2 c.f3 c.f4 = _
    rw [spec_l3Free.l0, if_pos (by omega), if_pos (by omega), meetsS, Option.bind_some, Option.bind_some]
    cases meetsB (rd_T65 l i) c <;> rfl) (by
    intro k
    show spec_l3Free.l0 (k + 1) l l.length c.f0 c.f1 c.f2 c.f3 c.f4 = _
    rw [spec_l3Free.l0, if_neg (by omega)]) (fun i => !(meetsB (rd_T65 l i) c)) (fun i _ => evNow rfl) l.length 0 (by omega)
  rw [allRangeG l (fun d => !(meetsB d c))] at this
  have e : (l.all fun d => !(meetsB d c)) = !(l.any (meetsB c)) := by
    rw [List.not_any_eq_all_not]
    congr 1; funext d; rw [meets_comm]
  rw [e] at this
  exact this
def cellIn (R C : Int) (bf : List S65) (c : S65) : Bool := inB 0 (wrap64 (R - 1)) c.f0 && (inB 0 (wrap64 (C - 1)) c.f1 && (inB 1 (wrap64 (R - c.f0)) c.f2 && (inB 1 (wrap64 (C - c.f1)) c.f3 && (inB 0 4 c.f4 && !(bf.any (meetsB c))))))
def cellsIn (R C : Int) (l : List S65) (i : Nat) : Bool := cellIn R C (l.take i) (rd_T65 l (i : Int))
def grdOkB (R C : Int) (l : List S65) : Bool := inB 1 8 R && (inB 1 94 C && (decide (l.length ≤ 40) && (List.range' 0 l.length).all (cellsIn R C l)))
theorem specGrdOk (R C : Int) (l : List S65) (h : l.length ≤ 9223372036854775807) : Ev (fun k => spec_GrdOk.f k R C l) (grdOkB R C l) := by
  have jt : Ev (fun k => spec_GrdOk.j0 k true R C l) false := Ev.step (fun k => by rw [spec_GrdOk.j0]) (evIf rfl (evNow rfl))
  have loop := allLoop l.length h (fun k i => spec_GrdOk.l0 k i R C l) (fun k i => if inB 0 (wrap64 (R - 1)) (rd_T65 l i).f0 = true then (if inB 0 (wrap64 (C - 1)) (rd_T65 l i).f1 = true then (if inB 1 (wrap64 (R - (rd_T65 l i).f0)) (rd_T65 l i).f2 = true then (if inB 1 (wrap64 (C - (rd_T65 l i).f1)) (rd_T65 l i).f3 = true then (if inB 0 4 (rd_T65 l i).f4 = true then spec_l3Free.f k (l.take i.toNat) (rd_T65 l i).f0 (rd_T65 l i).f1 (rd_T65 l i).f2 (rd_T65 l i).f3 (rd_T65 l i).f4 else some false) else some false) else some false) else some false) else some false) (by
    intro k i hi
    have hle : (i : Int) ≤ (l.length : Int) := by omega
    show spec_GrdOk.l0 (k + 1) i R C l = _
    rw [spec_GrdOk.l0, if_pos (by omega), if_pos (by omega)]
    simp only [inS, Option.bind_some, if_pos hle]
    generalize inB 0 (wrap64 (R - 1)) (rd_T65 l i).f0 = b1
    generalize inB 0 (wrap64 (C - 1)) (rd_T65 l i).f1 = b2
    generalize inB 1 (wrap64 (R - (rd_T65 l i).f0)) (rd_T65 l i).f2 = b3
    generalize inB 1 (wrap64 (C - (rd_T65 l i).f1)) (rd_T65 l i).f3 = b4
    generalize inB 0 4 (rd_T65 l i).f4 = b5
    cases b1 <;> cases b2 <;> cases b3 <;> cases b4 <;> cases b5 <;> rfl) (by
    intro k
    show spec_GrdOk.l0 (k + 1) l.length R C l = _
    rw [spec_GrdOk.l0, if_neg (by omega)]) (cellsIn R C l) (by
    intro i hi
    have hf := l3Free (l.take i) (rd_T65 l i) (by simp; omega)
    unfold cellsIn cellIn
    cases inB 0 (wrap64 (R - 1)) (rd_T65 l i).f0 with
    | false => exact evElse (by simp) (evNow rfl)
    | true =>
    refine evIf rfl ?_
    cases inB 0 (wrap64 (C - 1)) (rd_T65 l i).f1 with
    | false => exact evElse (by simp) (evNow rfl)
    | true =>
    refine evIf rfl ?_
    cases inB 1 (wrap64 (R - (rd_T65 l i).f0)) (rd_T65 l i).f2 with
    | false => exact evElse (by simp) (evNow rfl)
    | true =>
    refine evIf rfl ?_
    cases inB 1 (wrap64 (C - (rd_T65 l i).f1)) (rd_T65 l i).f3 with
    | false => exact evElse (by simp) (evNow rfl)
    | true =>
    refine evIf rfl ?_
    cases inB 0 4 (rd_T65 l i).f4 with
    | false => exact evElse (by simp) (evNow rfl)
    | true =>
    refine evIf rfl ?_
    rw [Int.toNat_natCast]
    exact hf) l.length 0 (by omega)
  unfold spec_GrdOk.f grdOkB
  refine evBindC (inS R 1 8) ?_
  cases inB 1 8 R with
  | false => exact evElse (by simp) jt
  | true =>
  refine evIf rfl (evBindC (inS C 1 94) ?_)
  cases inB 1 94 C with
  | false => exact evElse (by simp) jt
  | true =>
  refine evIf rfl ?_
  by_cases h40 : l.length ≤ 40
  · have e1 : decide ((l.length : Int) > 40) = false := decide_eq_false (by omega)
    rw [e1, decide_eq_true h40]
    refine Ev.step (fun k => by rw [spec_GrdOk.j0]) ?_
    exact evElse (by simp) loop
  · have e1 : decide ((l.length : Int) > 40) = true := decide_eq_true (by omega)
    rw [e1, decide_eq_false h40]
    exact jt
theorem implGrdOk (R C : Int) (l : List S65) (h : l.length ≤ 9223372036854775807) : Ev (fun k => impl_GrdOk.f k R C l) (grdOkB R C l) := by
  have jt : Ev (fun k => impl_GrdOk.j0 k true R C l) false := Ev.step (fun k => by rw [impl_GrdOk.j0]) (evIf rfl (evNow rfl))
  have j2t : ∀ i x c0 c1 c2 c3 c4, Ev (fun k => impl_GrdOk.j2 k i l (l.length : Int) x true R C l c0 c1 c2 c3 c4) false := fun i x c0 c1 c2 c3 c4 => Ev.step (fun k => by rw [impl_GrdOk.j2]) (evIf rfl (evNow rfl))
  have loop : ∀ (d i : Nat), i + d = l.length → Ev (fun k => impl_GrdOk.l0 k l (l.length : Int) i R C l) ((List.range' i d).all (cellsIn R C l)) := by
    intro d
    induction d with
    | zero =>
      intro i hi
      obtain rfl : i = l.length := by omega
      refine Ev.step (fun k => by rw [impl_GrdOk.l0]) ?_
      exact evElse (by omega) (evNow rfl)
    | succ d ih =>
      intro i hi
      have ih' := ih (i + 1) (by omega)
      rw [List.range'_succ, List.all_cons]
      refine Ev.step (fun k => by rw [impl_GrdOk.l0]) (evIf (by omega) (evIf (by omega) (evIf (by omega) ?_)))
      unfold cellsIn at *
      have ew := wnext (n := l.length) (i := i) (by omega) h
      generalize hc : rd_T65 l (i : Int) = c at *
      refine evBindC (inI c.f0 0 (wrap64 (R - 1))) ?_
      unfold cellIn
      cases h1 : inB 0 (wrap64 (R - 1)) c.f0 with
      | false => exact evElse (by simp) (j2t _ _ _ _ _ _ _)
      | true =>
      refine evIf rfl (evBindC (inI c.f2 1 (wrap64 (R - c.f0))) ?_)
      cases h2 : inB 1 (wrap64 (R - c.f0)) c.f2 with
      | false => cases inB 0 (wrap64 (C - 1)) c.f1 <;> exact evElse (by simp) (j2t _ _ _ _ _ _ _)
      | true =>
      refine evIf rfl (evBindC (inI c.f1 0 (wrap64 (C - 1))) ?_)
      cases h3 : inB 0 (wrap64 (C - 1)) c.f1 with
      | false => exact evElse (by simp) (j2t _ _ _ _ _ _ _)
      | true =>
      refine evIf rfl (evBindC (inI c.f3 1 (wrap64 (C - c.f1))) ?_)
      cases h4 : inB 1 (wrap64 (C - c.f1)) c.f3 with
      | false => exact j2t _ _ _ _ _ _ _
      | true =>
      refine Ev.step (fun k => by rw [impl_GrdOk.j2]) (evElse (by simp) (evBindC (inI c.f4 0 4) ?_))
      cases h5 : inB 0 4 c.f4 with
      | false => exact evElse (by simp) (evNow rfl)
      | true =>
      refine evIf rfl (evIf (by omega) (evIf (by omega) ?_))
      rw [Int.toNat_natCast]
      refine evBindC (show impl_GrdCell_42.f (l.take i) c.f0 c.f1 c.f2 c.f3 c.f4 = some ((l.take i).any (meetsB c)) from rfl) ?_
      cases h6 : (l.take i).any (meetsB c) with
      | true => exact evIf rfl (evNow rfl)
      | false =>
        refine evElse (by simp) ?_
        rw [ew]
        exact ih'
  unfold impl_GrdOk.f grdOkB
  refine evBindC (inI R 1 8) ?_
  cases inB 1 8 R with
  | false => exact evElse (by simp) jt
  | true =>
  refine evIf rfl (evBindC (inI C 1 94) ?_)
  cases inB 1 94 C with
  | false => exact evElse (by simp) jt
  | true =>
  refine evIf rfl ?_
  by_cases h40 : l.length ≤ 40
  · have e1 : decide ((l.length : Int) > 40) = false := decide_eq_false (by omega)
    rw [e1, decide_eq_true h40]
    refine Ev.step (fun k => by rw [impl_GrdOk.j0]) ?_
    exact evElse (by simp) (loop l.length 0 (by omega))
  · have e1 : decide ((l.length : Int) > 40) = true := decide_eq_true (by omega)
    rw [e1, decide_eq_false h40]
    exact jt
end Go.Proofs.Ytemcdfkmpikegaa.Pure
set_option linter.unusedVariables false
set_option linter.unusedSimpArgs false
namespace Go.Proofs.Ytemcdfkmpikegaa.Pure
open Go.RowKit Go.Proofs.Ytemcdfkmpikegaa.Pr Go.Proofs.YtemcdfkmpikegaaW.PrintWords Go.Proofs.YtemcdfkmpikegaaW.PrintLast Go.Proofs.YtemcdfkmpikegaaW.PrintMore
def leftG : List S65 → Int → Int
  | [], n => n
  | c :: l, n => leftG l (wrap64 (n - wrap64 (c.f2 * c.f3)))
theorem specEmpty (R C : Int) (l : List S65) (h : l.length ≤ 9223372036854775807) : Ev (fun k => spec_GrdEmpty.f k R C l) (if grdOkB R C l = true then leftG l (wrap64 (R * C)) else 0) := by
  have loop : ∀ (d i : Nat) (n : Int), i + d = l.length → Ev (fun k => spec_GrdEmpty.l0 k n i R C l) (leftG (l.drop i) n) := by
    intro d
    induction d with
    | zero =>
      intro i n hi
      obtain rfl : i = l.length := by omega
      rw [List.drop_length]
      refine Ev.step (fun k => by rw [spec_GrdEmpty.l0]) ?_
      exact evElse (by omega) (evNow rfl)
    | succ d ih =>
      intro i n hi
      rw [dropCons l i (by omega), leftG]
      refine Ev.step (fun k => by rw [spec_GrdEmpty.l0]) (evIf (by omega) (evIf (by omega) ?_))
      rw [rdG l i (by omega), wnext (n := l.length) (by omega) h]
      exact ih (i + 1) _ (by omega)
  unfold spec_GrdEmpty.f
  refine Ev.bind (specGrdOk R C l h) ?_
  cases grdOkB R C l with
  | false => exact evElse (by simp) (evNow rfl)
  | true => exact evIf rfl (loop l.length 0 _ (by omega))
theorem implEmpty (R C : Int) (l : List S65) (h : l.length ≤ 9223372036854775807) : Ev (fun k => impl_GrdEmpty.f k R C l) (if grdOkB R C l = true then leftG l (wrap64 (R * C)) else 0) := by
  have loop : ∀ (d i : Nat) (n : Int), i + d = l.length → Ev (fun k => impl_GrdEmpty.l0 k n l (l.length : Int) i) (leftG (l.drop i) n) := by
    intro d
    induction d with
    | zero =>
      intro i n hi
      obtain rfl : i = l.length := by omega
      rw [List.drop_length]
      refine Ev.step (fun k => by rw [impl_GrdEmpty.l0]) ?_
      exact evElse (by omega) (evNow rfl)
    | succ d ih =>
      intro i n hi
      rw [dropCons l i (by omega), leftG]
      refine Ev.step (fun k => by rw [impl_GrdEmpty.l0]) (evIf (by omega) (evIf (by omega) (evIf (by omega) ?_)))
      rw [rdG l i (by omega), wnext (n := l.length) (by omega) h]
      exact ih (i + 1) _ (by omega)
  unfold impl_GrdEmpty.f
  refine Ev.bind (implGrdOk R C l h) ?_
  cases grdOkB R C l with
  | false => exact evElse (by simp) (evNow rfl)
  | true => exact evIf rfl (loop l.length 0 _ (by omega))
end Go.Proofs.Ytemcdfkmpikegaa.Pure
set_option linter.unusedVariables false
set_option linter.unusedSimpArgs false
namespace Go.Proofs.Ytemcdfkmpikegaa.Pure
open Go.RowKit Go.Proofs.Ytemcdfkmpikegaa.Pr Go.Proofs.YtemcdfkmpikegaaW.PrintWords Go.Proofs.YtemcdfkmpikegaaW.PrintLast Go.Proofs.YtemcdfkmpikegaaW.PrintMore
theorem FnExactGrdEmpty (g : S37) (hg : wf37 g) : ∃ k, laws_FnExactGrdEmpty.f k g.f0 g.f1 g.f2 = some true := by
  apply Run.get
  have hl : g.f2.length ≤ 9223372036854775807 := hg.2.2.1
  obtain ⟨r, hr, hb⟩ := szGrid g.f0 g.f1 g.f2 hl
  unfold laws_FnExactGrdEmpty.f
  refine Run.constBind hr (Run.ite (fun _ => Run.ret rfl) fun hn => ?_)
  have ti := toGrid g.f0 g.f1 g.f2 (hb hn)
  have hm : (g.f2.map cvG).length ≤ 9223372036854775807 := by simpa using hl
  refine Run.evBind ti (Run.evBind (specEmpty g.f0 g.f1 _ hm) (Run.evBind ti (Run.evBind (implEmpty g.f0 g.f1 _ hm) (Run.pos rfl (Run.evBind ti (Run.evBind (eqGrid g.f0 g.f1 _ hm) (Run.pos rfl (Run.ret rfl))))))))
end Go.Proofs.Ytemcdfkmpikegaa.Pure
