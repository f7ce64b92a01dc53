/- The plain laws that the claim of 'FnExactTblPart' leans on. -/
import Derived.Test.YtemcdfkmpikegaaDoorFnExactTblPartP0
import Derived.Test.YtemcdfkmpikegaaDoorFnExactTblPartP4
import Derived.Test.YtemcdfkmpikegaaDoorFnExactTblPartP5
import Derived.Test.YtemcdfkmpikegaaDoorFnExactTblPartP1
import Derived.Test.YtemcdfkmpikegaaDoorFnExactTblPartP2
import Derived.Test.YtemcdfkmpikegaaDoorFnExactTblPartP3
import Derived.Test.YtemcdfkmpikegaaDoorFnExactTblPartPr60
import Derived.Test.YtemcdfkmpikegaaDoorFnExactTblPartP7
import Derived.Test.YtemcdfkmpikegaaDoorFnExactTblPartQCut
import Derived.Lib.LazyBuf
import Derived.Test.YtemcdfkmpikegaaDoorFnExactTblPartP8
import Derived.Test.YtemcdfkmpikegaaDoorFnExactTblPartPr16
import Derived.Test.YtemcdfkmpikegaaDoorFnExactTblPartPr4
import Derived.Test.YtemcdfkmpikegaaDoorFnExactTblPartQTy
set_option linter.unusedVariables false
set_option linter.unusedSimpArgs false
namespace Go.Proofs.YtemcdfkmpikegaaDoor.Pure
open Go.RowKit Go.Proofs.YtemcdfkmpikegaaDoor.Pr Go.Proofs.YtemcdfkmpikegaaDoorW.PrintWords Go.Proofs.YtemcdfkmpikegaaDoorW.PrintLast Go.Proofs.YtemcdfkmpikegaaDoorW.PrintMore
theorem evIf {α : Type} {c : Prop} [Decidable c] {g f : Nat → Option α} {r : α} (hc : c) (h : Ev g r) : Ev (fun k => if c then g k else f k) r :=
  Ev.congr (fun _ => if_pos hc) h
theorem evElse {α : Type} {c : Prop} [Decidable c] {g f : Nat → Option α} {r : α} (hc : ¬ c) (h : Ev f r) : Ev (fun k => if c then g k else f k) r :=
  Ev.congr (fun _ => if_neg hc) h
theorem evSome {α β : Type} {a : α} {f : Nat → α → Option β} {r : β} (h : Ev (fun k => f k a) r) : Ev (fun k => (some a).bind (f k)) r := h
theorem evNow {α : Type} {g : Option α} {r : α} (h : g = some r) : Ev (fun _ => g) r := ⟨0, fun _ _ => h⟩
theorem evBindC {α β : Type} {g : Option α} {f : Nat → α → Option β} {a : α} {r : β} (h : g = some a) (k : Ev (fun n => f n a) r) : Ev (fun n => g.bind (f n)) r := by
  subst h; exact k
theorem in_eq (a b c : Int) : impl_in.f a b c = some (decide (b ≤ a) && decide (a ≤ c)) := by
  unfold impl_in.f; by_cases h : a ≥ b <;> simp [h] <;> omega
theorem l1In_eq (a b c : Int) : spec_l1In.f a b c = some (decide (b ≤ a) && decide (a ≤ c)) := by
  unfold spec_l1In.f; by_cases h : a ≥ b <;> simp [h] <;> omega
theorem w64 {x : Int} (h : -9223372036854775808 ≤ x) (h2 : x ≤ 9223372036854775807) : wrap64 x = x := by unfold wrap64; omega
def Run {α : Type} (g : Nat → Option α) (Q : α → Prop) : Prop := ∃ r, Ev g r ∧ Q r
theorem Run.ret {α : Type} {r : α} {Q : α → Prop} (h : Q r) : Run (fun _ => some r) Q := ⟨r, Ev.now r, h⟩
theorem Run.bind {α β : Type} {g : Nat → Option α} {f : Nat → α → Option β} {Q : α → Prop} {R : β → Prop} (h : Run g Q) (k : ∀ a, Q a → Run (fun n => f n a) R) : Run (fun n => (g n).bind (f n)) R := by
  obtain ⟨a, ha, qa⟩ := h
  obtain ⟨b, hb, rb⟩ := k a qa
  exact ⟨b, ha.bind hb, rb⟩
theorem Run.evBind {α β : Type} {g : Nat → Option α} {f : Nat → α → Option β} {a : α} {R : β → Prop} (h : Ev g a) (k : Run (fun n => f n a) R) : Run (fun n => (g n).bind (f n)) R := by
  obtain ⟨b, hb, rb⟩ := k
  exact ⟨b, h.bind hb, rb⟩
theorem Run.some {α β : Type} {a : α} {f : Nat → α → Option β} {R : β → Prop} (k : Run (fun n => f n a) R) : Run (fun n => (Option.some a).bind (f n)) R := k
theorem Run.ite {α : Type} {c : Prop} [Decidable c] {g f : Nat → Option α} {Q : α → Prop} (h : c → Run g Q) (k : ¬ c → Run f Q) : Run (fun n => if c then g n else f n) Q := by
  by_cases hc : c
  · obtain ⟨r, e, q⟩ := h hc; exact ⟨r, evIf hc e, q⟩
  · obtain ⟨r, e, q⟩ := k hc; exact ⟨r, evElse hc e, q⟩
theorem Run.pos {α : Type} {c : Prop} [Decidable c] {g f : Nat → Option α} {Q : α → Prop} (hc : c) (h : Run g Q) : Run (fun n => if c then g n else f n) Q := Run.ite (fun _ => h) (fun k => absurd hc k)
theorem Run.neg {α : Type} {c : Prop} [Decidable c] {g f : Nat → Option α} {Q : α → Prop} (hc : ¬ c) (h : Run f Q) : Run (fun n => if c then g n else f n) Q := Run.ite (fun k => absurd k hc) (fun _ => h)
theorem Run.step {α : Type} {g f : Nat → Option α} {Q : α → Prop} (h : ∀ k, g (k + 1) = f k) (k : Run f Q) : Run g Q := by
  obtain ⟨r, e, q⟩ := k; exact ⟨r, Ev.step h e, q⟩
theorem Run.imp {α : Type} {g : Nat → Option α} {Q R : α → Prop} (h : Run g Q) (k : ∀ r, Q r → R r) : Run g R := by
  obtain ⟨r, e, q⟩ := h; exact ⟨r, e, k r q⟩
theorem Run.get {α : Type} {g : Nat → Option α} {r : α} (h : Run g (· = r)) : ∃ k, g k = Option.some r := by
  obtain ⟨r', e, rfl⟩ := h; exact e.rounds
theorem Ev.run {α : Type} {g : Nat → Option α} {r : α} (h : Ev g r) : Run g (· = r) := ⟨r, h, rfl⟩
end Go.Proofs.YtemcdfkmpikegaaDoor.Pure
set_option linter.unusedVariables false
set_option linter.unusedSimpArgs false
namespace Go.Proofs.YtemcdfkmpikegaaDoor.Pure
open Go.RowKit Go.Proofs.YtemcdfkmpikegaaDoor.Pr Go.Proofs.YtemcdfkmpikegaaDoorW.PrintWords Go.Proofs.YtemcdfkmpikegaaDoorW.PrintLast Go.Proofs.YtemcdfkmpikegaaDoorW.PrintMore
theorem wnext {n i : Nat} (h : i < n) (hn : n ≤ 9223372036854775807) : wrap64 ((i : Int) + 1) = ((i + 1 : Nat) : Int) := by
  rw [w64 (by omega) (by omega)]; omega
theorem setStep {α : Type} (l : List α) (z : α) (i : Nat) (h : i < l.length) : (l.take i ++ List.replicate (l.length - i) z).set i l[i] = l.take (i + 1) ++ List.replicate (l.length - (i + 1)) z := by
  apply List.ext_getElem
  · simp; omega
  · intro j h1 h2
    by_cases e : j = i
    · subst e; simp [List.getElem_append]; omega
    · simp only [List.getElem_set, List.getElem_append]
      rw [if_neg (by omega)]
      by_cases hj : j < i
      · simp [hj]; rw [dif_pos (by omega), dif_pos (by omega)]
      · simp [hj]; rw [dif_neg (by omega), dif_neg (by omega)]
theorem dropCons {α : Type} (l : List α) (i : Nat) (h : i < l.length) : l.drop i = l[i] :: l.drop (i + 1) := List.drop_eq_getElem_cons h
end Go.Proofs.YtemcdfkmpikegaaDoor.Pure
set_option linter.unusedVariables false
set_option linter.unusedSimpArgs false
namespace Go.Proofs.YtemcdfkmpikegaaDoor.Pure
open Go.RowKit Go.Proofs.YtemcdfkmpikegaaDoor.Pr Go.Proofs.YtemcdfkmpikegaaDoorW.PrintWords Go.Proofs.YtemcdfkmpikegaaDoorW.PrintLast Go.Proofs.YtemcdfkmpikegaaDoorW.PrintMore
theorem cpLoop {α β : Type} (l : List α) (cv : α → β) (z : β) (hl : l.length ≤ 9223372036854775807) (F : Nat → List β → Int → Option (List β)) (g : Nat → Int → Option β)
    (hF : ∀ k xs i, F (k + 1) xs i = if i < (l.length : Int) then (if 0 ≤ i then ((g k i).bind fun v => if i < (xs.length : Int) then F k (xs.set i.toNat v) (wrap64 (i + 1)) else none) else none) else some xs)
    (hg : ∀ (i : Nat) (h : i < l.length), Ev (fun k => g k (i : Int)) (cv l[i])) : Ev (fun k => F k (List.replicate l.length z) 0) (l.map cv) := by
  have loop : ∀ (d i : Nat), i + d = l.length → Ev (fun k => F k ((l.map cv).take i ++ List.replicate (l.length - i) z) i) (l.map cv) := by
    intro d
    induction d with
    | zero =>
      intro i hi
      obtain rfl : i = l.length := by omega
      refine Ev.step (fun k => by rw [hF]) (evElse (by omega) (evNow (by rw [List.take_of_length_le (by simp)]; simp)))
    | succ d ih =>
      intro i hi
      have hlt : i < l.length := by omega
      refine Ev.step (fun k => by rw [hF]) (evIf (by omega) (evIf (by omega) ?_))
      refine Ev.bind (hg i hlt) ?_
      refine evIf (by simp; omega) ?_
      have hm : (l.map cv).length = l.length := by simp
      have e := setStep (l.map cv) z i (by rw [hm]; exact hlt)
      simp only [List.length_map, List.getElem_map] at e
      rw [Int.toNat_natCast, e, wnext (n := l.length) (by omega) hl]
      exact ih (i + 1) (by omega)
  have := loop l.length 0 (by omega)
  simpa using this
theorem allLoop (n : Nat) (hn : n ≤ 9223372036854775807) (F : Nat → Int → Option Bool) (g : Nat → Int → Option Bool)
    (hF : ∀ k (i : Nat), i < n → F (k + 1) (i : Int) = ((g k (i : Int)).bind fun t => if t = true then F k (wrap64 ((i : Int) + 1)) else some false))
    (hE : ∀ k, F (k + 1) (n : Int) = some true) (p : Nat → Bool)
    (hg : ∀ (i : Nat), i < n → Ev (fun k => g k (i : Int)) (p i)) : ∀ (d i : Nat), i + d = n → Ev (fun k => F k (i : Int)) ((List.range' i d).all p) := by
  intro d
  induction d with
  | zero =>
    intro i hi
    obtain rfl : i = n := by omega
    exact Ev.step (fun k => hE k) (evNow rfl)
  | succ d ih =>
    intro i hi
    refine Ev.step (fun k => hF k i (by omega)) (Ev.bind (hg i (by omega)) ?_)
    rw [List.range'_succ, List.all_cons]
    cases hp : p i with
    | false => exact evElse (by simp) (evNow (by simp))
    | true =>
      refine evIf rfl ?_
      rw [wnext (n := n) (by omega) hn]
      simpa using ih (i + 1) (by omega)
theorem allLoop0 (n : Nat) (hn : n ≤ 9223372036854775807) (F : Nat → Int → Option Bool) (g : Nat → Int → Option Bool)
    (hF : ∀ k (i : Nat), i < n → F (k + 1) (i : Int) = ((g k (i : Int)).bind fun t => if t = true then F k (wrap64 ((i : Int) + 1)) else some false))
    (hE : ∀ k, F (k + 1) (n : Int) = some true) (hg : ∀ (i : Nat), i < n → Ev (fun k => g k (i : Int)) true) : Ev (fun k => F k 0) true := by
  have := allLoop n hn F g hF hE (fun _ => true) hg n 0 (by omega)
  have e : (List.range' 0 n).all (fun _ => true) = true := by rw [List.all_eq_true]; exact fun _ _ => rfl
  rw [e] at this
  exact this
end Go.Proofs.YtemcdfkmpikegaaDoor.Pure
set_option linter.unusedVariables false
set_option linter.unusedSimpArgs false
namespace Go.Proofs.YtemcdfkmpikegaaDoor.Pure
open Go.RowKit Go.Proofs.YtemcdfkmpikegaaDoor.Pr Go.Proofs.YtemcdfkmpikegaaDoorW.PrintWords Go.Proofs.YtemcdfkmpikegaaDoorW.PrintLast Go.Proofs.YtemcdfkmpikegaaDoorW.PrintMore
def cvB (b : S82) : S48 := ⟨b.f0, b.f1⟩
def cvC (c : S84) : S50 := ⟨c.f0, c.f1, c.f2, cvB c.f3, cvB c.f4, cvB c.f5, cvB c.f6⟩
def cvR (r : S64) : S45 := ⟨r.f0.map cvC, r.f1⟩
def cvO (c : S68) : S42 := ⟨c.f0, c.f1⟩
theorem rdC (l : List S50) (i : Nat) (h : i < l.length) : rd_T50 l (i : Int) = l[i] := by unfold rd_T50; simp [h]
theorem rdCl (l : List S84) (i : Nat) (h : i < l.length) : rd_T84 l (i : Int) = l[i] := by unfold rd_T84; simp [h]
theorem rdR (l : List S45) (i : Nat) (h : i < l.length) : rd_T45 l (i : Int) = l[i] := by unfold rd_T45; simp [h]
theorem rdRl (l : List S64) (i : Nat) (h : i < l.length) : rd_T64 l (i : Int) = l[i] := by unfold rd_T64; simp [h]
theorem rdO (l : List S42) (i : Nat) (h : i < l.length) : rd_T42 l (i : Int) = l[i] := by unfold rd_T42; simp [h]
theorem rdOl (l : List S68) (i : Nat) (h : i < l.length) : rd_T68 l (i : Int) = l[i] := by unfold rd_T68; simp [h]
theorem toCols (l : List S68) (h : l.length ≤ 1048576) : Ev (fun k => laws_toTblColS.f k l) (l.map cvO) := by
  unfold laws_toTblColS.f
  refine evIf (by omega) (evIf (by omega) ?_)
  rw [Int.toNat_natCast]
  refine cpLoop l cvO z42 (by omega) (fun k xs i => laws_toTblColS.l0 k l xs i) (fun _ i => some (cvO (rd_T68 l i))) (fun k xs i => by show laws_toTblColS.l0 (k + 1) l xs i = _; rw [laws_toTblColS.l0]; rfl) (fun i hi => evNow (by rw [rdOl l i hi]))
theorem toCells (l : List S84) (h : l.length ≤ 1048576) : Ev (fun k => laws_toTblCellS.f k l) (l.map cvC) := by
  unfold laws_toTblCellS.f
  refine evIf (by omega) (evIf (by omega) ?_)
  rw [Int.toNat_natCast]
  refine cpLoop l cvC z50 (by omega) (fun k xs i => laws_toTblCellS.l0 k l xs i) (fun _ i => some (cvC (rd_T84 l i))) (fun k xs i => by show laws_toTblCellS.l0 (k + 1) l xs i = _; rw [laws_toTblCellS.l0]; rfl) (fun i hi => evNow (by rw [rdCl l i hi]))
theorem toRows (l : List S64) (h : l.length ≤ 1048576) (hr : ∀ r ∈ l, r.f0.length ≤ 1048576) : Ev (fun k => laws_toTblRowS.f k l) (l.map cvR) := by
  unfold laws_toTblRowS.f
  refine evIf (by omega) (evIf (by omega) ?_)
  rw [Int.toNat_natCast]
  refine cpLoop l cvR z45 (by omega) (fun k xs i => laws_toTblRowS.l0 k l xs i) (fun k i => (laws_toTblRow.f k (rd_T64 l i).f0 (rd_T64 l i).f1).bind fun bt => some (⟨bt.1, bt.2⟩ : S45)) (fun k xs i => by show laws_toTblRowS.l0 (k + 1) l xs i = _; rw [laws_toTblRowS.l0]; simp only [Option.bind_assoc, Option.bind_some]) (fun i hi => ?_)
  rw [rdRl l i hi]
  exact ((toCells l[i].f0 (hr _ (List.getElem_mem _))).bind (evNow rfl) : Ev (fun k => laws_toTblRow.f k l[i].f0 l[i].f1) (l[i].f0.map cvC, l[i].f1)).bind (evNow rfl)
theorem toTable (c : List S68) (hd ft : Int) (r : List S64) (g : Int) (hc : c.length ≤ 1048576) (hl : r.length ≤ 1048576) (hr : ∀ x ∈ r, x.f0.length ≤ 1048576) : Ev (fun k => laws_toTblTable.f k c hd ft r g) (c.map cvO, hd, ft, r.map cvR, g) :=
  (toCols c hc).bind ((toRows r hl hr).bind (evNow rfl))
theorem eqCols (l : List S42) (h : l.length ≤ 9223372036854775807) : Ev (fun k => laws_eqTblColS.f k l l) true := by
  unfold laws_eqTblColS.f
  refine evIf rfl (allLoop0 l.length h (fun k i => laws_eqTblColS.l0 k l l i) (fun _ i => laws_eqTblCol.f (rd_T42 l i).f0 (rd_T42 l i).f1 (rd_T42 l i).f0 (rd_T42 l i).f1) ?_ ?_ ?_)
  · intro k i hi
    show laws_eqTblColS.l0 (k + 1) l l i = _
    rw [laws_eqTblColS.l0, if_pos (by omega), if_pos (by omega), if_pos (by omega)]
  · intro k
    show laws_eqTblColS.l0 (k + 1) l l l.length = _
    rw [laws_eqTblColS.l0, if_neg (by omega)]
  · intro i hi
    exact evNow (by unfold laws_eqTblCol.f; simp)
theorem eqBrd (a b : Int) : laws_eqBrdLine.f a b a b = some true := by unfold laws_eqBrdLine.f; simp
theorem eqCells (l : List S50) (h : l.length ≤ 9223372036854775807) : Ev (fun k => laws_eqTblCellS.f k l l) true := by
  unfold laws_eqTblCellS.f
  refine evIf rfl (allLoop0 l.length h (fun k i => laws_eqTblCellS.l0 k l l i) (fun _ _ => some true) ?_ ?_ (fun _ _ => evNow rfl))
  · intro k i hi
    show laws_eqTblCellS.l0 (k + 1) l l i = _
    rw [laws_eqTblCellS.l0, if_pos (by omega), if_pos (by omega), if_pos (by omega)]
    unfold laws_eqTblCell.f
    simp [eqBrd]
  · intro k
    show laws_eqTblCellS.l0 (k + 1) l l l.length = _
    rw [laws_eqTblCellS.l0, if_neg (by omega)]
theorem eqRows (l : List S45) (h : l.length ≤ 9223372036854775807) (hr : ∀ r ∈ l, r.f0.length ≤ 9223372036854775807) : Ev (fun k => laws_eqTblRowS.f k l l) true := by
  unfold laws_eqTblRowS.f
  refine evIf rfl (allLoop0 l.length h (fun k i => laws_eqTblRowS.l0 k l l i) (fun k i => laws_eqTblRow.f k (rd_T45 l i).f0 (rd_T45 l i).f1 (rd_T45 l i).f0 (rd_T45 l i).f1) ?_ ?_ ?_)
  · intro k i hi
    show laws_eqTblRowS.l0 (k + 1) l l i = _
    rw [laws_eqTblRowS.l0, if_pos (by omega), if_pos (by omega), if_pos (by omega)]
  · intro k
    show laws_eqTblRowS.l0 (k + 1) l l l.length = _
    rw [laws_eqTblRowS.l0, if_neg (by omega)]
  · intro i hi
    rw [rdR l i hi]
    exact (eqCells _ (hr _ (List.getElem_mem _))).bind (evIf rfl (evElse (by simp) (evNow rfl)))
theorem eqTable (c : List S42) (hd ft : Int) (r : List S45) (g : Int) (hc : c.length ≤ 9223372036854775807) (hl : r.length ≤ 9223372036854775807) (hr : ∀ x ∈ r, x.f0.length ≤ 9223372036854775807) : Ev (fun k => laws_eqTblTable.f k c hd ft r g c hd ft r g) true :=
  (eqCols c hc).bind (evIf rfl (evIf rfl (evIf rfl ((eqRows r hl hr).bind (evIf rfl (evIf rfl (evNow rfl)))))))
theorem szCell (c : S84) (n : Int) (h0 : 0 ≤ n) (h1 : n ≤ 1048576) (hs : c.f0.size ≤ 9223372036854775807) : ∃ r, laws_szTblCell.f c.f0 c.f1 c.f2 c.f3.f0 c.f3.f1 c.f4.f0 c.f4.f1 c.f5.f0 c.f5.f1 c.f6.f0 c.f6.f1 n = some r ∧ r ≤ n ∧ (0 ≤ r → c.f0.size ≤ 1048576) := by
  have e : wrap64 (n - (c.f0.size : Int)) = n - (c.f0.size : Int) := w64 (by omega) (by omega)
  unfold laws_szTblCell.f
  rw [e]
  by_cases h : n - (c.f0.size : Int) < 0
  · exact ⟨-1, by simp [h], by omega, by omega⟩
  · exact ⟨n - (c.f0.size : Int), by simp [h], by omega, by omega⟩
theorem szCells (l : List S84) (n : Int) (h0 : 0 ≤ n) (h1 : n ≤ 1048576) (hl : l.length ≤ 9223372036854775807) (hs : ∀ c ∈ l, c.f0.size ≤ 9223372036854775807) : ∃ r, Ev (fun k => laws_szTblCellS.f k l n) r ∧ r ≤ n ∧ (0 ≤ r → l.length ≤ 1048576 ∧ ∀ c ∈ l, c.f0.size ≤ 1048576) := by
  have e : wrap64 (n - (l.length : Int)) = n - (l.length : Int) := w64 (by omega) (by omega)
  unfold laws_szTblCellS.f
  rw [e]
  by_cases h : n - (l.length : Int) < 0
  · exact ⟨-1, evIf h (evNow rfl), by omega, by omega⟩
  · have loop : ∀ (d i : Nat) (m : Int), i + d = l.length → 0 ≤ m → m ≤ n → ∃ r, Ev (fun k => laws_szTblCellS.l0 k l m i) r ∧ r ≤ m ∧ (0 ≤ r → ∀ c ∈ l.drop i, c.f0.size ≤ 1048576) := by
      intro d
      induction d with
      | zero =>
        intro i m hi hm hn
        refine ⟨m, ?_, Int.le_refl _, fun _ c hc => by rw [show i = l.length by omega, List.drop_length] at hc; cases hc⟩
        refine Ev.step (fun k => by rw [laws_szTblCellS.l0]) ?_
        exact evElse (by omega) (evNow rfl)
      | succ d ih =>
        intro i m hi hm hn
        have hlt : i < l.length := by omega
        obtain ⟨q, hq, hq1, hq2⟩ := szCell l[i] m hm (by omega) (hs _ (List.getElem_mem _))
        by_cases hqn : q < 0
        · refine ⟨-1, ?_, by omega, by omega⟩
          refine Ev.step (fun k => by rw [laws_szTblCellS.l0]) ?_
          refine evIf (by omega) ?_
          refine evIf (by omega) ?_
          rw [rdCl l i hlt]
          exact evBindC hq (evIf hqn (evNow rfl))
        · obtain ⟨r, hr, hr1, hr2⟩ := ih (i + 1) q (by omega) (by omega) (by omega)
          refine ⟨r, ?_, by omega, fun h c hc => ?_⟩
          · refine Ev.step (fun k => by rw [laws_szTblCellS.l0]) ?_
            refine evIf (by omega) ?_
            refine evIf (by omega) ?_
            rw [rdCl l i hlt]
            refine evBindC hq (evElse hqn ?_)
            rw [wnext (n := l.length) (by omega) hl]
            exact hr
          · rw [dropCons l i hlt] at hc
            rcases List.mem_cons.mp hc with rfl | hc
            · exact hq2 (by omega)
            · exact hr2 h c hc
    obtain ⟨r, hr, hr1, hr2⟩ := loop l.length 0 (n - l.length) (by omega) (by omega) (by omega)
    exact ⟨r, evElse h hr, by omega, fun h => ⟨by omega, by simpa using hr2 h⟩⟩
theorem szRow (x : S64) (n : Int) (h0 : 0 ≤ n) (h1 : n ≤ 1048576) (hl : x.f0.length ≤ 9223372036854775807) (hs : ∀ c ∈ x.f0, c.f0.size ≤ 9223372036854775807) : ∃ r, Ev (fun k => laws_szTblRow.f k x.f0 x.f1 n) r ∧ r ≤ n ∧ (0 ≤ r → x.f0.length ≤ 1048576 ∧ ∀ c ∈ x.f0, c.f0.size ≤ 1048576) := by
  obtain ⟨r, hr, hr1, hr2⟩ := szCells x.f0 n h0 h1 hl hs
  by_cases h : r < 0
  · exact ⟨-1, hr.bind (evIf h (evNow rfl)), by omega, by omega⟩
  · exact ⟨r, hr.bind (evElse h (evNow rfl)), hr1, hr2⟩
theorem szRows (l : List S64) (n : Int) (h0 : 0 ≤ n) (h1 : n ≤ 1048576) (hl : l.length ≤ 9223372036854775807) (hs : ∀ x ∈ l, x.f0.length ≤ 9223372036854775807 ∧ ∀ c ∈ x.f0, c.f0.size ≤ 9223372036854775807) : ∃ r, Ev (fun k => laws_szTblRowS.f k l n) r ∧ r ≤ n ∧ (0 ≤ r → l.length ≤ 1048576 ∧ ∀ x ∈ l, x.f0.length ≤ 1048576 ∧ ∀ c ∈ x.f0, c.f0.size ≤ 1048576) := by
  have e : wrap64 (n - (l.length : Int)) = n - (l.length : Int) := w64 (by omega) (by omega)
  unfold laws_szTblRowS.f
  rw [e]
  by_cases h : n - (l.length : Int) < 0
  · exact ⟨-1, evIf h (evNow rfl), by omega, by omega⟩
  · have loop : ∀ (d i : Nat) (m : Int), i + d = l.length → 0 ≤ m → m ≤ n → ∃ r, Ev (fun k => laws_szTblRowS.l0 k l m i) r ∧ r ≤ m ∧ (0 ≤ r → ∀ x ∈ l.drop i, x.f0.length ≤ 1048576 ∧ ∀ c ∈ x.f0, c.f0.size ≤ 1048576) := by
      intro d
      induction d with
      | zero =>
        intro i m hi hm hn
        refine ⟨m, ?_, Int.le_refl _, fun _ c hc => by rw [show i = l.length by omega, List.drop_length] at hc; cases hc⟩
        refine Ev.step (fun k => by rw [laws_szTblRowS.l0]) ?_
        exact evElse (by omega) (evNow rfl)
      | succ d ih =>
        intro i m hi hm hn
        have hlt : i < l.length := by omega
        have hx := hs _ (List.getElem_mem hlt)
        obtain ⟨q, hq, hq1, hq2⟩ := szRow l[i] m hm (by omega) hx.1 hx.2
        by_cases hqn : q < 0
        · refine ⟨-1, ?_, by omega, by omega⟩
          refine Ev.step (fun k => by rw [laws_szTblRowS.l0]) ?_
          refine evIf (by omega) ?_
          refine evIf (by omega) ?_
          rw [rdRl l i hlt]
          exact hq.bind (evIf hqn (evNow rfl))
        · obtain ⟨r, hr, hr1, hr2⟩ := ih (i + 1) q (by omega) (by omega) (by omega)
          refine ⟨r, ?_, by omega, fun h c hc => ?_⟩
          · refine Ev.step (fun k => by rw [laws_szTblRowS.l0]) ?_
            refine evIf (by omega) ?_
            refine evIf (by omega) ?_
            rw [rdRl l i hlt]
            refine hq.bind (evElse hqn ?_)
            rw [wnext (n := l.length) (by omega) hl]
            exact hr
          · rw [dropCons l i hlt] at hc
            rcases List.mem_cons.mp hc with rfl | hc
            · exact hq2 (by omega)
            · exact hr2 h c hc
    obtain ⟨r, hr, hr1, hr2⟩ := loop l.length 0 (n - l.length) (by omega) (by omega) (by omega)
    exact ⟨r, evElse h hr, by omega, fun h => ⟨by omega, by simpa using hr2 h⟩⟩
theorem szTable (c : List S68) (hd ft : Int) (l : List S64) (g : Int) (hc : c.length ≤ 9223372036854775807) (hl : l.length ≤ 9223372036854775807) (hs : ∀ x ∈ l, x.f0.length ≤ 9223372036854775807 ∧ ∀ c ∈ x.f0, c.f0.size ≤ 9223372036854775807) :
    ∃ r, Ev (fun k => laws_szTblTable.f k c hd ft l g 1048576) r ∧ (¬ r < 0 → c.length ≤ 1048576 ∧ l.length ≤ 1048576 ∧ ∀ x ∈ l, x.f0.length ≤ 1048576 ∧ ∀ c ∈ x.f0, c.f0.size ≤ 1048576) := by
  have e : wrap64 (1048576 - (c.length : Int)) = 1048576 - (c.length : Int) := w64 (by omega) (by omega)
  unfold laws_szTblTable.f laws_szTblColS.f
  rw [e]
  by_cases h : 1048576 - (c.length : Int) < 0
  · refine ⟨-1, ?_, by omega⟩
    rw [if_pos h]
    exact evSome (evIf (by omega) (evNow rfl))
  · obtain ⟨r, hr, hr1, hr2⟩ := szRows l (1048576 - c.length) (by omega) (by omega) hl hs
    rw [if_neg h]
    by_cases hn : r < 0
    · exact ⟨-1, evSome (evElse h (hr.bind (evIf hn (evNow rfl)))), by omega⟩
    · exact ⟨r, evSome (evElse h (hr.bind (evElse hn (evNow rfl)))), fun h => ⟨by omega, hr2 (by omega)⟩⟩
end Go.Proofs.YtemcdfkmpikegaaDoor.Pure
set_option linter.unusedVariables false
set_option linter.unusedSimpArgs false
namespace Go.Proofs.YtemcdfkmpikegaaDoor.Pure
open Go.RowKit Go.Proofs.YtemcdfkmpikegaaDoor.Pr Go.Proofs.YtemcdfkmpikegaaDoorW.PrintWords Go.Proofs.YtemcdfkmpikegaaDoorW.PrintLast Go.Proofs.YtemcdfkmpikegaaDoorW.PrintMore
def bl (s : ByteArray) : List UInt8 := s.data.toList
theorem bl_len (s : ByteArray) : s.size = (bl s).length := Go.Lib.size_eq s
theorem bl_mk (l : List UInt8) : bl (⟨l.toArray⟩ : ByteArray) = l := rfl
theorem bt_bl (s : ByteArray) (i : Nat) (h : i < (bl s).length) : bt s (i : Int) = ((bl s)[i].toNat : Int) := by
  unfold bt
  have hs : i < s.size := by rw [bl_len]; exact h
  rw [Int.toNat_natCast, dif_pos hs]
  rfl
theorem rdS (l : List ByteArray) (i : Nat) (h : i < l.length) : rdOf ByteArray.empty l (i : Int) = l[i] := by unfold rdOf; simp [h]
theorem toList_nil (s : ByteArray) : s.toList = [] ↔ bl s = [] := by rw [Go.Lib.toList_data]; rfl
theorem byte32 {b : UInt8} : ((b.toNat : Int) = 32) ↔ b = 32 := by
  constructor
  · intro h
    have : b.toNat = 32 := by omega
    exact UInt8.toNat_inj.mp (by rw [this]; rfl)
  · rintro rfl; rfl
theorem cutL_le : ∀ (l w : List UInt8), w ∈ cutL l → w.length ≤ l.length := by
  intro l
  induction l with
  | nil => intro w h; simp [cutL] at h; subst h; simp
  | cons b l ih =>
    intro w h
    by_cases hb : b = 32
    · subst hb
      rw [cutL_blank] at h
      rcases List.mem_cons.mp h with rfl | h
      · simp
      · have := ih w h; simp; omega
    · obtain ⟨v, vs, e⟩ := cutL_ne l
      rw [cutL_other hb e] at h
      rcases List.mem_cons.mp h with rfl | h
      · have := ih v (by rw [e]; simp); simp; omega
      · have := ih w (by rw [e]; simp [h]); simp; omega
theorem cutB_le (s w : ByteArray) (h : w ∈ cutB s) : w.size ≤ s.size := by
  obtain ⟨l, hl, rfl⟩ := List.mem_map.mp h
  rw [bl_len, bl_len, bl_mk]
  exact cutL_le _ _ hl
def goodB (w : ByteArray) : Bool := goodW (bl w)
theorem cutB_good (s : ByteArray) : (cutB s).all goodB = (cutL (bl s)).all goodW := by
  unfold cutB
  rw [List.all_map]; rfl
def txtOk (s : ByteArray) : Bool := txtOkL (bl s)
theorem trim_ok (w : ByteArray) (h : w.size ≤ 9223372036854775807) : strings_Trim.f w (⟨#[97, 98, 99, 100, 101, 102, 103, 104, 105, 106, 107, 108, 109, 110, 111, 112, 113, 114, 115, 116, 117, 118, 119, 120, 121, 122]⟩ : ByteArray) = some ⟨(Go.Lib.trimS (bl w) letters26).toArray⟩ := by
  unfold strings_Trim.f
  rw [if_pos ⟨rfl, h⟩]; rfl
theorem implTxtOk (s : ByteArray) (h : s.size < 4294967281) : Ev (fun k => impl_TxtOk.f k s) (txtOk s) := by
  unfold impl_TxtOk.f txtOk txtOkL
  by_cases h0 : bl s = []
  · refine evIf ((toList_nil s).mpr h0) (evNow ?_)
    rw [h0]; rfl
  · refine evElse (fun e => h0 ((toList_nil s).mp e)) ?_
    refine evBindC (show strings_Split.f s (⟨#[32]⟩ : ByteArray) = some (cutB s) by unfold strings_Split.f; rw [if_pos ⟨rfl, h⟩]) ?_
    have hn : (cutB s).length ≤ s.size + 1 := by
      have := List.count_le_length (a := (32 : UInt8)) (l := bl s)
      rw [show (cutB s).length = (bl s).count 32 + 1 by rw [cutB, List.length_map, cutL_length]; rfl, bl_len]; omega
    have loop : ∀ (d i : Nat), i + d = (cutB s).length → Ev (fun k => impl_TxtOk.l0 k s (cutB s) ((cutB s).length : Int) i) (((cutB s).drop i).all goodB && decide ((s.size : Int) ≤ 30)) := by
      intro d
      induction d with
      | zero =>
        intro i hi
        obtain rfl : i = (cutB s).length := by omega
        rw [List.drop_length]
        refine Ev.step (fun k => by rw [impl_TxtOk.l0]) ?_
        exact evElse (by omega) (evNow (by simp))
      | succ d ih =>
        intro i hi
        have hlt : i < (cutB s).length := by omega
        have hw : (cutB s)[i].size ≤ s.size := cutB_le s _ (List.getElem_mem _)
        rw [dropCons _ i hlt, List.all_cons]
        refine Ev.step (fun k => by rw [impl_TxtOk.l0]) (evIf (by omega) (evIf (by omega) (evIf (by omega) ?_)))
        rw [rdS _ i hlt]
        generalize (cutB s)[i] = w at hw ⊢
        by_cases he : bl w = []
        · refine evIf ((toList_nil w).mpr he) (evNow ?_)
          simp [goodB, goodW, he]
        · refine evElse (fun e => he ((toList_nil w).mp e)) (evBindC (trim_ok w (by omega)) ?_)
          have ht := trim_empty (bl w)
          have he' : (bl w).isEmpty = false := by simpa using he
          have hg : goodB w = (bl w).all letter := by simp [goodB, goodW, he']
          rw [hg, ← ht]
          cases hc : (Go.Lib.trimS (bl w) letters26).isEmpty with
          | true =>
            refine evIf ((toList_nil _).mpr (by rw [bl_mk]; simpa using hc)) ?_
            rw [wnext (n := (cutB s).length) (by omega) (by omega)]
            simpa using ih (i + 1) (by omega)
          | false =>
            refine evElse (fun e => ?_) (evNow (by simp))
            have := (toList_nil _).mp e
            rw [bl_mk] at this
            rw [this] at hc; simp at hc
    have := loop (cutB s).length 0 (by omega)
    rw [List.drop_zero, cutB_good] at this
    have he : (bl s).isEmpty = false := by simpa using h0
    have hd : decide ((s.size : Int) ≤ 30) = decide ((bl s).length ≤ 30) := by rw [← bl_len]; exact decide_eq_decide.mpr (by omega)
    rw [he, Bool.false_or, Bool.and_comm, ← hd]
    exact this
theorem specTxtOk (s : ByteArray) (h : s.size ≤ 9223372036854775807) : Ev (fun k => spec_TxtOk.f k s) (txtOk s) := by
  unfold spec_TxtOk.f txtOk txtOkL
  have hsz := bl_len s
  by_cases h30 : (s.size : Int) > 30
  · refine evIf h30 (evNow ?_)
    have h1 : (bl s).isEmpty = false := by
      cases hb : bl s with
      | nil => rw [hsz, hb] at h30; simp at h30
      | cons _ _ => rfl
    have h2 : decide ((bl s).length ≤ 30) = false := decide_eq_false (by omega)
    rw [h1, h2]; rfl
  · refine evElse h30 ?_
    have hd : decide ((bl s).length ≤ 30) = true := decide_eq_true (by omega)
    have loop : ∀ (d i : Nat) (p : Bool), i + d = (bl s).length → (i = 0 → p = true) → (∀ j, i = j + 1 → ∀ b, (bl s)[j]? = some b → (p = true ↔ b = 32)) → (d = 0 → p = false) → Ev (fun k => spec_TxtOk.l0 k s i) (okFrom p ((bl s).drop i)) := by
      intro d
      induction d with
      | zero =>
        intro i p hi _ _ hp
        rw [hp rfl, show i = (bl s).length by omega, List.drop_length]
        refine Ev.step (fun k => by rw [spec_TxtOk.l0]) ?_
        exact evElse (by omega) (evNow rfl)
      | succ d ih =>
        intro i p hi h0 hprev _
        have hlt : i < (bl s).length := by omega
        have hx : (bl s)[i]? = some (bl s)[i] := by simp [hlt]
        rw [dropCons _ i hlt, okFrom]
        refine Ev.step (fun k => by rw [spec_TxtOk.l0]) (evIf (by omega) (evIf (by omega) ?_))
        have hb := bt_bl s i hlt
        rw [hb]
        have bad : Ev (fun k => spec_TxtOk.j1 k s i true) false := by
          refine Ev.step (fun k => by rw [spec_TxtOk.j1]) ?_
          exact evIf rfl (evNow rfl)
        generalize hbe : (bl s)[i] = b at hx hb ⊢
        have en := wnext (n := (bl s).length) (i := i) (by omega) (by omega)
        have hx' : ∀ q : Bool, (q = true ↔ b = 32) → ∀ j, i + 1 = j + 1 → ∀ b', (bl s)[j]? = some b' → (q = true ↔ b' = 32) := by
          intro q hq j hj b' hb'
          obtain rfl : j = i := by omega
          rw [hx] at hb'; cases hb'; exact hq
        by_cases h32 : b = 32
        · subst h32
          rw [if_pos rfl]
          have good : i + 1 < (bl s).length → Ev (fun k => spec_TxtOk.j1 k s i false) (okFrom true ((bl s).drop (i + 1))) := by
            intro hlt2
            refine Ev.step (fun k => by rw [spec_TxtOk.j1]) ?_
            refine evElse (by simp) (evIf (by omega) (evIf (by omega) ?_))
            rw [hb]
            refine evIf (by rfl) ?_
            rw [en]
            exact ih (i + 1) true (by omega) (by omega) (hx' true (by simp)) (by omega)
          refine evIf (by rfl) ?_
          by_cases hi0 : i = 0
          · refine evIf (by omega) ?_
            rw [h0 hi0]
            exact bad
          · refine evElse (by omega) ?_
            have el : wrap64 ((s.size : Int) - 1) = (s.size : Int) - 1 := w64 (by omega) (by omega)
            rw [el]
            by_cases hl : i + 1 = (bl s).length
            · refine evIf (by omega) ?_
              have e2 : (bl s).drop (i + 1) = [] := by rw [hl]; exact List.drop_length
              rw [e2]
              have : (!p && okFrom true []) = false := by simp [okFrom]
              rw [this]
              exact bad
            · refine evElse (by omega) ?_
              obtain ⟨j, rfl⟩ : ∃ j, i = j + 1 := ⟨i - 1, by omega⟩
              have ej : wrap64 (((j + 1 : Nat) : Int) - 1) = (j : Int) := by rw [w64 (by omega) (by omega)]; omega
              rw [ej]
              refine evIf (by omega) (evIf (by omega) ?_)
              have hp := hprev j rfl (bl s)[j] (by simp [show j < (bl s).length by omega])
              rw [bt_bl s j (by omega)]
              cases hpp : p with
              | true =>
                have e3 : (bl s)[j] = 32 := hp.mp hpp
                rw [e3]
                exact bad
              | false =>
                have e3 : ¬ (bl s)[j] = 32 := fun e => by rw [hp.mpr e] at hpp; cases hpp
                have e4 : (((bl s)[j].toNat : Int) == 32) = false := beq_eq_false_iff_ne.mpr (fun e => e3 (byte32.mp e))
                rw [e4]
                simpa using good (by omega)
        · rw [if_neg h32]
          refine evElse (fun e => h32 (byte32.mp e)) ?_
          refine Ev.step (fun k => by rw [spec_TxtOk.j1]) ?_
          refine evElse (by simp) (evIf (by omega) (evIf (by omega) ?_))
          rw [hb]
          refine evElse (fun e => h32 (byte32.mp e)) ?_
          have hr := b.toNat_lt
          rw [w64 (x := (b.toNat : Int)) (by omega) (by omega)]
          refine evBindC (l1In_eq _ _ _) ?_
          have hle : (decide (97 ≤ (b.toNat : Int)) && decide ((b.toNat : Int) ≤ 122)) = letter b := by unfold letter; congr 1 <;> simp <;> omega
          rw [hle]
          cases hll : letter b with
          | false => exact evElse (by simp) (evNow (by simp))
          | true =>
            refine evIf rfl ?_
            rw [en]
            simpa using ih (i + 1) false (by omega) (by omega) (hx' false (by simp [h32])) (fun _ => rfl)
    by_cases h0 : bl s = []
    · rw [h0]
      refine Ev.step (fun k => by rw [spec_TxtOk.l0]) ?_
      have : s.size = 0 := by rw [hsz, h0]; rfl
      exact evElse (by omega) (evNow rfl)
    · have h1 : (bl s).isEmpty = false := by simpa using h0
      have hp : 0 < (bl s).length := List.length_pos_iff.mpr h0
      have := loop (bl s).length 0 true (by omega) (fun _ => rfl) (fun j hj => by omega) (by omega)
      rw [List.drop_zero, okFrom_words] at this
      rw [h1, hd, Bool.false_or, Bool.true_and]
      exact this
end Go.Proofs.YtemcdfkmpikegaaDoor.Pure
set_option linter.unusedVariables false
set_option linter.unusedSimpArgs false
namespace Go.Proofs.YtemcdfkmpikegaaDoor.Pure
open Go.RowKit Go.Proofs.YtemcdfkmpikegaaDoor.Pr Go.Proofs.YtemcdfkmpikegaaDoorW.PrintWords Go.Proofs.YtemcdfkmpikegaaDoorW.PrintLast Go.Proofs.YtemcdfkmpikegaaDoorW.PrintMore
def brdOk (s n : Int) : Bool := decide ((s = 0 ∨ s = 4) ∧ n = 0 ∨ (1 ≤ s ∧ s ≤ 3 ∧ 1 ≤ n ∧ n ≤ 3))
theorem bool_ext {a b : Bool} (h : a = true ↔ b = true) : a = b := by cases a <;> cases b <;> simp_all
theorem spec_brdOk (s n : Int) : Ev (fun k => spec_BrdOk.f k s n) (brdOk s n) := by
  unfold spec_BrdOk.f brdOk
  by_cases h : s = 0
  · refine evIf h (Ev.step (fun k => by rw [spec_BrdOk.j0]) (evNow ?_)); simp [h]
    apply bool_ext; simp
  · refine evElse h (Ev.step (fun k => by rw [spec_BrdOk.j0]) (evNow ?_))
    by_cases h4 : s = 4
    · simp [h4]; apply bool_ext; simp
    · simp only [l1In_eq, Option.bind_some]
      by_cases h1 : 1 ≤ s <;> by_cases h2 : s ≤ 3 <;> simp [h, h4, h1, h2]
theorem impl_brdOk (s n : Int) : impl_BrdOk.f s n = some (brdOk s n) := by
  unfold impl_BrdOk.f impl_BrdLine_drawn.f brdOk
  simp only [in_eq, Option.bind_some]
  by_cases h0 : s = 0
  · subst h0; simp; apply bool_ext; simp
  · by_cases h4 : s = 4
    · subst h4; simp; apply bool_ext; simp
    · by_cases h1 : 1 ≤ s <;> by_cases h2 : s ≤ 3 <;> simp [h0, h4, h1, h2]
end Go.Proofs.YtemcdfkmpikegaaDoor.Pure
set_option linter.unusedVariables false
set_option linter.unusedSimpArgs false
namespace Go.Proofs.YtemcdfkmpikegaaDoor.Pure
open Go.RowKit Go.Proofs.YtemcdfkmpikegaaDoor.Pr Go.Proofs.YtemcdfkmpikegaaDoorW.PrintWords Go.Proofs.YtemcdfkmpikegaaDoorW.PrintLast Go.Proofs.YtemcdfkmpikegaaDoorW.PrintMore
theorem tinI (a b c : Int) : impl_in.f a b c = some (tin b c a) := tin_eq b c a
theorem tinS (a b c : Int) : spec_l1In.f a b c = some (tin b c a) := l1In_eq a b c
def cellOkB (c : S50) : Bool := txtOk c.f0 && (tin 1 4 c.f1 && (tin 1 4 c.f2 && (brdOk c.f3.f0 c.f3.f1 && (brdOk c.f4.f0 c.f4.f1 && (brdOk c.f5.f0 c.f5.f1 && brdOk c.f6.f0 c.f6.f1)))))
theorem implCell (c : S50) (h : c.f0.size < 4294967281) : Ev (fun k => cellP k c) (cellOkB c) := by
  unfold cellP impl_CellOk.f cellOkB
  refine (implTxtOk c.f0 h).bind ?_
  cases txtOk c.f0 with
  | false => exact evElse (by simp) (evNow rfl)
  | true =>
  refine evIf rfl (evBindC (tinI c.f1 1 4) ?_)
  cases tin 1 4 c.f1 with
  | false => exact evElse (by simp) (evNow rfl)
  | true =>
  refine evIf rfl (evBindC (tinI c.f2 1 4) ?_)
  cases tin 1 4 c.f2 with
  | false => exact evElse (by simp) (evNow rfl)
  | true =>
  refine evIf rfl (evBindC (impl_brdOk c.f3.f0 c.f3.f1) ?_)
  cases brdOk c.f3.f0 c.f3.f1 with
  | false => exact evElse (by simp) (evNow rfl)
  | true =>
  refine evIf rfl (evBindC (impl_brdOk c.f4.f0 c.f4.f1) ?_)
  cases brdOk c.f4.f0 c.f4.f1 with
  | false => exact evElse (by simp) (evNow rfl)
  | true =>
  refine evIf rfl (evBindC (impl_brdOk c.f5.f0 c.f5.f1) ?_)
  cases brdOk c.f5.f0 c.f5.f1 with
  | false => exact evElse (by simp) (evNow rfl)
  | true => exact evIf rfl (evBindC (impl_brdOk c.f6.f0 c.f6.f1) (evNow rfl))
theorem specCell (c : S50) (h : c.f0.size < 4294967281) : Ev (fun k => spec_CellOk.f k c.f0 c.f1 c.f2 c.f3.f0 c.f3.f1 c.f4.f0 c.f4.f1 c.f5.f0 c.f5.f1 c.f6.f0 c.f6.f1) (cellOkB c) := by
  unfold spec_CellOk.f cellOkB
  refine (specTxtOk c.f0 (by omega)).bind ?_
  cases txtOk c.f0 with
  | false => exact evElse (by simp) (evNow rfl)
  | true =>
  refine evIf rfl (evBindC (tinS c.f1 1 4) ?_)
  cases tin 1 4 c.f1 with
  | false => exact evElse (by simp) (evNow rfl)
  | true =>
  refine evIf rfl (evBindC (tinS c.f2 1 4) ?_)
  cases tin 1 4 c.f2 with
  | false => exact evElse (by simp) (evNow rfl)
  | true =>
  refine evIf rfl ((spec_brdOk c.f3.f0 c.f3.f1).bind ?_)
  cases brdOk c.f3.f0 c.f3.f1 with
  | false => exact evElse (by simp) (evNow rfl)
  | true =>
  refine evIf rfl ((spec_brdOk c.f4.f0 c.f4.f1).bind ?_)
  cases brdOk c.f4.f0 c.f4.f1 with
  | false => exact evElse (by simp) (evNow rfl)
  | true =>
  refine evIf rfl ((spec_brdOk c.f5.f0 c.f5.f1).bind ?_)
  cases brdOk c.f5.f0 c.f5.f1 with
  | false => exact evElse (by simp) (evNow rfl)
  | true => exact evIf rfl ((spec_brdOk c.f6.f0 c.f6.f1).bind (evNow rfl))
theorem evAll {α β : Type} (g : α → Nat → Option β) (r : α → β) : ∀ l : List α, (∀ x ∈ l, Ev (fun k => g x k) (r x)) → ∃ K, ∀ k, K ≤ k → ∀ x ∈ l, g x k = some (r x)
  | [], _ => ⟨0, fun _ _ x hx => by cases hx⟩
  | a :: l, h => by
    obtain ⟨K1, h1⟩ := h a (by simp)
    obtain ⟨K2, h2⟩ := evAll g r l (fun x hx => h x (by simp [hx]))
    refine ⟨max K1 K2, fun k hk x hx => ?_⟩
    rcases List.mem_cons.mp hx with rfl | hx
    · exact h1 k (by omega)
    · exact h2 k (by omega) x hx
def rowBad (r : S45) : Bool := decide ((r.f0.length : Int) > 5) || r.f0.any fun c => !(cellOkB c)
def tblOkB (c : List S42) (hd ft : Int) (l : List S45) (g : Int) : Bool :=
  if tin 1 8 (l.length : Int) = true then (if (c.length : Int) > 8 then false else if tin 0 3 g = true then
    (if tin 0 (l.length : Int) hd = true then (if tin 0 (wrap64 ((l.length : Int) - hd)) ft = true then (if colsB c = true then false else !(l.any rowBad)) else false) else false) else false) else false
theorem implTblOk (c : List S42) (hd ft : Int) (l : List S45) (g : Int) (hs : ∀ x ∈ l, ∀ q ∈ x.f0, q.f0.size < 4294967281) : Ev (fun k => impl_TblOk.f k c hd ft l g) (tblOkB c hd ft l g) := by
  obtain ⟨K, hK⟩ := evAll (fun (q : S50) k => cellP k q) cellOkB (l.flatMap fun x => x.f0) (fun q hq => by
    obtain ⟨x, hx, hq⟩ := List.mem_flatMap.mp hq
    exact implCell q (hs x hx q hq))
  refine ⟨K, fun k hk => ?_⟩
  have hP : ∀ x ∈ l, ∀ q ∈ x.f0, cellP k q = some (cellOkB q) := fun x hx q hq => hK k hk q (List.mem_flatMap.mpr ⟨x, hx, hq⟩)
  have e1 : rowsK k l = true := by
    unfold rowsK
    rw [List.all_eq_true]; intro x hx
    rw [List.all_eq_true]; intro q hq
    rw [hP x hx q hq]; rfl
  have e2 : rowsB k l = l.any rowBad := by
    unfold rowsB
    refine any_mem _ _ l (fun x hx => ?_)
    unfold rowB rowBad
    congr 1
    refine any_mem _ _ x.f0 (fun q hq => ?_)
    unfold cellB
    rw [hP x hx q hq]; rfl
  show impl_TblOk.f k c hd ft l g = _
  unfold impl_TblOk.f tblOkB
  rw [e1, e2]
  split
  · split
    · rfl
    · split
      · split
        · split
          · split <;> rfl
          · rfl
        · rfl
      · rfl
  · rfl
theorem l2Col (a b : Int) : spec_l2Col.f a b = some (colB a b) := by
  unfold spec_l2Col.f colB
  simp only [tinS, Option.bind_some]
  split
  · rfl
  · split
    · rfl
    · split <;> rfl
theorem specTblOk (c : List S42) (hd ft : Int) (l : List S45) (g : Int) (hc : c.length ≤ 1048576) (hl : l.length ≤ 1048576) (hr : ∀ x ∈ l, x.f0.length ≤ 1048576) (hs : ∀ x ∈ l, ∀ q ∈ x.f0, q.f0.size < 4294967281) : Ev (fun k => spec_TblOk.f k c hd ft l g) (tblOkB c hd ft l g) := by
  have jt : Ev (fun k => spec_TblOk.j0 k true c hd ft l g) false := by
    refine Ev.step (fun k => by rw [spec_TblOk.j0]) ?_
    exact evIf rfl (evNow rfl)
  have rows : ∀ (d i : Nat), i + d = l.length → Ev (fun k => spec_TblOk.l1 k i c hd ft l g) (!((l.drop i).any rowBad)) := by
    intro d
    induction d with
    | zero =>
      intro i hi
      rw [show i = l.length by omega, List.drop_length]
      refine Ev.step (fun k => by rw [spec_TblOk.l1]) ?_
      exact evElse (by omega) (evNow rfl)
    | succ d ih =>
      intro i hi
      have hlt : i < l.length := by omega
      have hmem := List.getElem_mem hlt
      have hrow := hr _ hmem
      rw [dropCons l i hlt, List.any_cons]
      refine Ev.step (fun k => by rw [spec_TblOk.l1]) ?_
      refine evIf (by omega) ?_
      refine evIf (by omega) ?_
      rw [rdR l i hlt]
      by_cases h5 : (l[i].f0.length : Int) > 5
      · refine evIf h5 (evNow ?_)
        have : rowBad l[i] = true := by unfold rowBad; rw [decide_eq_true h5]; rfl
        rw [this]; rfl
      · refine evElse h5 ?_
        have eb : rowBad l[i] = l[i].f0.any fun c => !(cellOkB c) := by unfold rowBad; rw [decide_eq_false h5]; rfl
        rw [eb]
        have cells : ∀ (e j : Nat), j + e = l[i].f0.length → Ev (fun k => spec_TblOk.l2 k i j c hd ft l g) (!(((l[i].f0.drop j).any fun c => !(cellOkB c)) || (l.drop (i + 1)).any rowBad)) := by
          intro e
          induction e with
          | zero =>
            intro j hj
            rw [show j = l[i].f0.length by omega, List.drop_length]
            refine Ev.step (fun k => by rw [spec_TblOk.l2]) ?_
            refine evIf (by omega) ?_
            refine evIf (by omega) ?_
            rw [rdR l i hlt]
            refine evElse (by omega) ?_
            rw [wnext (n := l.length) (by omega) (by omega)]
            simpa using ih (i + 1) (by omega)
          | succ e ihe =>
            intro j hj
            have hjl : j < l[i].f0.length := by omega
            rw [dropCons _ j hjl, List.any_cons]
            refine Ev.step (fun k => by rw [spec_TblOk.l2]) ?_
            refine evIf (by omega) ?_
            refine evIf (by omega) ?_
            rw [rdR l i hlt]
            refine evIf (by omega) ?_
            refine evIf (by omega) ?_
            rw [rdC _ j hjl]
            refine (specCell l[i].f0[j] (hs _ hmem _ (List.getElem_mem _))).bind ?_
            cases cellOkB l[i].f0[j] with
            | false => exact evElse (by simp) (evNow (by simp))
            | true =>
              refine evIf rfl ?_
              rw [wnext (n := l[i].f0.length) (by omega) (by omega)]
              simpa using ihe (j + 1) (by omega)
        have := cells l[i].f0.length 0 (by omega)
        rw [List.drop_zero] at this
        exact this
  have cols : ∀ (d i : Nat), i + d = c.length → Ev (fun k => spec_TblOk.l0 k i c hd ft l g) (if colsB (c.drop i) = true then false else !(l.any rowBad)) := by
    intro d
    induction d with
    | zero =>
      intro i hi
      rw [show i = c.length by omega, List.drop_length]
      refine Ev.step (fun k => by rw [spec_TblOk.l0]) ?_
      refine evElse (by omega) ?_
      have := rows l.length 0 (by omega)
      rw [List.drop_zero] at this
      exact this
    | succ d ih =>
      intro i hi
      have hlt : i < c.length := by omega
      rw [dropCons c i hlt]
      have ec : colsB (c[i] :: c.drop (i + 1)) = (!(colB c[i].f0 c[i].f1) || colsB (c.drop (i + 1))) := by unfold colsB; rw [List.any_cons]
      rw [ec]
      refine Ev.step (fun k => by rw [spec_TblOk.l0]) ?_
      refine evIf (by omega) ?_
      refine evIf (by omega) ?_
      rw [rdO c i hlt]
      refine evBindC (l2Col _ _) ?_
      cases colB c[i].f0 c[i].f1 with
      | false => exact evElse (by simp) (evNow rfl)
      | true =>
        refine evIf rfl ?_
        rw [wnext (n := c.length) (by omega) (by omega)]
        simpa using ih (i + 1) (by omega)
  unfold spec_TblOk.f tblOkB
  refine evBindC (tinS (l.length : Int) 1 8) ?_
  cases tin 1 8 (l.length : Int) with
  | false => exact evElse (by simp) jt
  | true =>
  refine evIf rfl ?_
  by_cases h8 : (c.length : Int) > 8
  · rw [if_pos h8]
    exact evIf h8 jt
  refine evElse h8 (evBindC (tinS hd 0 (l.length : Int)) ?_)
  rw [if_pos rfl, if_neg h8]
  cases h1 : tin 0 (l.length : Int) hd with
  | false => cases tin 0 3 g <;> exact evElse (by simp) jt
  | true =>
  refine evIf rfl (evBindC (tinS ft 0 (wrap64 ((l.length : Int) - hd))) ?_)
  cases h2 : tin 0 (wrap64 ((l.length : Int) - hd)) ft with
  | false => cases tin 0 3 g <;> exact evElse (by simp) jt
  | true =>
  refine evIf rfl (evBindC (tinS g 0 3) ?_)
  cases tin 0 3 g with
  | false => exact jt
  | true =>
    refine Ev.step (fun k => by rw [spec_TblOk.j0]) ?_
    exact evElse (by simp) (cols c.length 0 (by omega))
def partOf (c : List S42) (hd ft : Int) (l : List S45) (g row : Int) : Int :=
  if tblOkB c hd ft l g = true then (if tin 0 (wrap64 ((l.length : Int) - 1)) row = true then (if row < hd then 0 else if row ≥ wrap64 ((l.length : Int) - ft) then 2 else 1) else -1) else -1
theorem implPart (c : List S42) (hd ft : Int) (l : List S45) (g row : Int) (h : Ev (fun k => impl_TblOk.f k c hd ft l g) (tblOkB c hd ft l g)) : Ev (fun k => impl_TblPart.f k c hd ft l g row) (partOf c hd ft l g row) := by
  unfold impl_TblPart.f partOf
  refine h.bind ?_
  cases tblOkB c hd ft l g with
  | false => exact evElse (by simp) (evNow rfl)
  | true =>
    refine evIf rfl (evBindC (tinI row 0 (wrap64 ((l.length : Int) - 1))) ?_)
    cases tin 0 (wrap64 ((l.length : Int) - 1)) row with
    | false => exact evElse (by simp) (evNow rfl)
    | true => exact evIf rfl (evBindC (show impl_TblTable_part.f c hd ft l g row = some (if row < hd then 0 else if row ≥ wrap64 ((l.length : Int) - ft) then 2 else 1) by unfold impl_TblTable_part.f; split; rfl; split <;> rfl) (evNow rfl))
theorem specPart (c : List S42) (hd ft : Int) (l : List S45) (g row : Int) (h : Ev (fun k => spec_TblOk.f k c hd ft l g) (tblOkB c hd ft l g)) : Ev (fun k => spec_TblPart.f k c hd ft l g row) (partOf c hd ft l g row) := by
  unfold spec_TblPart.f partOf
  refine h.bind ?_
  cases tblOkB c hd ft l g with
  | false => exact evElse (by simp) (evNow rfl)
  | true =>
    refine evIf rfl (evBindC (tinS row 0 (wrap64 ((l.length : Int) - 1))) ?_)
    cases tin 0 (wrap64 ((l.length : Int) - 1)) row with
    | false => exact evElse (by simp) (evNow rfl)
    | true => exact evIf rfl (evBindC (show spec_l2Part.f c hd ft l g row = some (if row < hd then 0 else if row ≥ wrap64 ((l.length : Int) - ft) then 2 else 1) by unfold spec_l2Part.f; split; rfl; split <;> rfl) (evNow rfl))
end Go.Proofs.YtemcdfkmpikegaaDoor.Pure
set_option linter.unusedVariables false
set_option linter.unusedSimpArgs false
namespace Go.Proofs.YtemcdfkmpikegaaDoor.Pure
open Go.RowKit Go.Proofs.YtemcdfkmpikegaaDoor.Pr Go.Proofs.YtemcdfkmpikegaaDoorW.PrintWords Go.Proofs.YtemcdfkmpikegaaDoorW.PrintLast Go.Proofs.YtemcdfkmpikegaaDoorW.PrintMore
theorem FnExactTblPart (t : S25) (row : Int) (ht : wf25 t) (_ : (Lit.int .i64 row).wf = true) : ∃ k, laws_FnExactTblPart.f k t.f0 t.f1 t.f2 t.f3 t.f4 row = some true := by
  apply Run.get
  have hc : t.f0.length ≤ 9223372036854775807 := ht.1.1
  have hl : t.f3.length ≤ 9223372036854775807 := ht.2.2.2.1.1
  have hs : ∀ x ∈ t.f3, x.f0.length ≤ 9223372036854775807 ∧ ∀ c ∈ x.f0, c.f0.size ≤ 9223372036854775807 := fun x hx => by
    have h := ht.2.2.2.1.2 x hx
    refine ⟨h.1.1, fun c hc => ?_⟩
    have := (h.1.2 c hc).1
    unfold maxLen at this; omega
  obtain ⟨r, hr, hb⟩ := szTable t.f0 t.f1 t.f2 t.f3 t.f4 hc hl hs
  unfold laws_FnExactTblPart.f
  refine Run.evBind hr (Run.ite (fun _ => Run.ret rfl) fun hn => ?_)
  obtain ⟨b1, b2, b3⟩ := hb hn
  have ti := toTable t.f0 t.f1 t.f2 t.f3 t.f4 b1 b2 (fun x hx => (b3 x hx).1)
  have m1 : (t.f0.map cvO).length ≤ 1048576 := by simpa using b1
  have m2 : (t.f3.map cvR).length ≤ 1048576 := by simpa using b2
  have m3 : ∀ x ∈ t.f3.map cvR, x.f0.length ≤ 1048576 := by
    intro x hx
    obtain ⟨y, hy, rfl⟩ := List.mem_map.mp hx
    simpa [cvR] using (b3 y hy).1
  have m4 : ∀ x ∈ t.f3.map cvR, ∀ q ∈ x.f0, q.f0.size < 4294967281 := by
    intro x hx q hq
    obtain ⟨y, hy, rfl⟩ := List.mem_map.mp hx
    obtain ⟨z, hz, rfl⟩ := List.mem_map.mp hq
    have := (b3 y hy).2 z hz
    show z.f0.size < 4294967281
    omega
  have eq := eqTable (t.f0.map cvO) t.f1 t.f2 (t.f3.map cvR) t.f4 (by omega) (by omega) (fun x hx => by have := m3 x hx; omega)
  have hi := implTblOk (t.f0.map cvO) t.f1 t.f2 (t.f3.map cvR) t.f4 m4
  have hsp := specTblOk (t.f0.map cvO) t.f1 t.f2 (t.f3.map cvR) t.f4 m1 m2 m3 m4
  exact Run.evBind ti (Run.evBind (specPart _ _ _ _ _ row hsp) (Run.evBind ti (Run.evBind (implPart _ _ _ _ _ row hi) (Run.pos rfl (Run.evBind ti (Run.evBind eq (Run.pos rfl (Run.ret rfl))))))))
end Go.Proofs.YtemcdfkmpikegaaDoor.Pure
