/- The plain laws that the claim of 'FnExactTblCells' leans on. -/
import Derived.Test.YtemcdfkmpikegaaFnExactTblCellsPr0
import Derived.Test.YtemcdfkmpikegaaFnExactTblCellsPr39
import Derived.Test.YtemcdfkmpikegaaFnExactTblCellsPr41
import Derived.Test.YtemcdfkmpikegaaFnExactTblCellsPr10
import Derived.Test.YtemcdfkmpikegaaFnExactTblCellsPr12
import Derived.Test.YtemcdfkmpikegaaFnExactTblCellsPr28
import Derived.Test.YtemcdfkmpikegaaFnExactTblCellsPr29
import Derived.Test.YtemcdfkmpikegaaFnExactTblCellsPr30
import Derived.Test.YtemcdfkmpikegaaFnExactTblCellsPr31
import Derived.Test.YtemcdfkmpikegaaFnExactTblCellsPr32
import Derived.Test.YtemcdfkmpikegaaFnExactTblCellsPr33
import Derived.Test.YtemcdfkmpikegaaFnExactTblCellsPr46
import Derived.Test.YtemcdfkmpikegaaFnExactTblCellsPr48
import Derived.Test.YtemcdfkmpikegaaFnExactTblCellsPr49
import Derived.Test.YtemcdfkmpikegaaFnExactTblCellsPr50
import Derived.Test.YtemcdfkmpikegaaFnExactTblCellsPr54
import Derived.Test.YtemcdfkmpikegaaFnExactTblCellsPr55
import Derived.Test.YtemcdfkmpikegaaFnExactTblCellsPr56
import Derived.Test.YtemcdfkmpikegaaFnExactTblCellsPr57
import Derived.Test.YtemcdfkmpikegaaFnExactTblCellsPr59
import Derived.Test.YtemcdfkmpikegaaFnExactTblCellsPr61
import Derived.Test.YtemcdfkmpikegaaFnExactTblCellsPr8
import Derived.Test.YtemcdfkmpikegaaFnExactTblCellsPr11
import Derived.Test.YtemcdfkmpikegaaFnExactTblCellsPr9
import Derived.Test.YtemcdfkmpikegaaFnExactTblCellsPr3
import Derived.Test.YtemcdfkmpikegaaFnExactTblCellsQTy
set_option linter.unusedVariables false
set_option linter.unusedSimpArgs false
namespace Go.Proofs.Ytemcdfkmpikegaa.Pure
open Go.RowKit Go.Proofs.Ytemcdfkmpikegaa.Pr Go.Proofs.YtemcdfkmpikegaaW.PrintWords Go.Proofs.YtemcdfkmpikegaaW.PrintLast Go.Proofs.YtemcdfkmpikegaaW.PrintMore
theorem evIf {α : Type} {c : Prop} [Decidable c] {g f : Nat → Option α} {r : α} (hc : c) (h : Ev g r) : Ev (fun k => if c then g k else f k) r :=
  Ev.congr (fun _ => if_pos hc) h
theorem evElse {α : Type} {c : Prop} [Decidable c] {g f : Nat → Option α} {r : α} (hc : ¬ c) (h : Ev f r) : Ev (fun k => if c then g k else f k) r :=
  Ev.congr (fun _ => if_neg hc) h
theorem evSome {α β : Type} {a : α} {f : Nat → α → Option β} {r : β} (h : Ev (fun k => f k a) r) : Ev (fun k => (some a).bind (f k)) r := h
theorem evNow {α : Type} {g : Option α} {r : α} (h : g = some r) : Ev (fun _ => g) r := ⟨0, fun _ _ => h⟩
theorem evBindC {α β : Type} {g : Option α} {f : Nat → α → Option β} {a : α} {r : β} (h : g = some a) (k : Ev (fun n => f n a) r) : Ev (fun n => g.bind (f n)) r := by
  subst h; exact k
theorem w64 {x : Int} (h : -9223372036854775808 ≤ x) (h2 : x ≤ 9223372036854775807) : wrap64 x = x := by unfold wrap64; omega
def Run {α : Type} (g : Nat → Option α) (Q : α → Prop) : Prop := ∃ r, Ev g r ∧ Q r
theorem Run.ret {α : Type} {r : α} {Q : α → Prop} (h : Q r) : Run (fun _ => some r) Q := ⟨r, Ev.now r, h⟩
theorem Run.bind {α β : Type} {g : Nat → Option α} {f : Nat → α → Option β} {Q : α → Prop} {R : β → Prop} (h : Run g Q) (k : ∀ a, Q a → Run (fun n => f n a) R) : Run (fun n => (g n).bind (f n)) R := by
  obtain ⟨a, ha, qa⟩ := h
  obtain ⟨b, hb, rb⟩ := k a qa
  exact ⟨b, ha.bind hb, rb⟩
theorem Run.evBind {α β : Type} {g : Nat → Option α} {f : Nat → α → Option β} {a : α} {R : β → Prop} (h : Ev g a) (k : Run (fun n => f n a) R) : Run (fun n => (g n).bind (f n)) R := by
  obtain ⟨b, hb, rb⟩ := k
  exact ⟨b, h.bind hb, rb⟩
theorem Run.some {α β : Type} {a : α} {f : Nat → α → Option β} {R : β → Prop} (k : Run (fun n => f n a) R) : Run (fun n => (Option.some a).bind (f n)) R := k
theorem Run.ite {α : Type} {c : Prop} [Decidable c] {g f : Nat → Option α} {Q : α → Prop} (h : c → Run g Q) (k : ¬ c → Run f Q) : Run (fun n => if c then g n else f n) Q := by
  by_cases hc : c
  · obtain ⟨r, e, q⟩ := h hc; exact ⟨r, evIf hc e, q⟩
  · obtain ⟨r, e, q⟩ := k hc; exact ⟨r, evElse hc e, q⟩
theorem Run.pos {α : Type} {c : Prop} [Decidable c] {g f : Nat → Option α} {Q : α → Prop} (hc : c) (h : Run g Q) : Run (fun n => if c then g n else f n) Q := Run.ite (fun _ => h) (fun k => absurd hc k)
theorem Run.step {α : Type} {g f : Nat → Option α} {Q : α → Prop} (h : ∀ k, g (k + 1) = f k) (k : Run f Q) : Run g Q := by
  obtain ⟨r, e, q⟩ := k; exact ⟨r, Ev.step h e, q⟩
theorem Run.imp {α : Type} {g : Nat → Option α} {Q R : α → Prop} (h : Run g Q) (k : ∀ r, Q r → R r) : Run g R := by
  obtain ⟨r, e, q⟩ := h; exact ⟨r, e, k r q⟩
theorem Run.get {α : Type} {g : Nat → Option α} {r : α} (h : Run g (· = r)) : ∃ k, g k = Option.some r := by
  obtain ⟨r', e, rfl⟩ := h; exact e.rounds
theorem Ev.run {α : Type} {g : Nat → Option α} {r : α} (h : Ev g r) : Run g (· = r) := ⟨r, h, rfl⟩
end Go.Proofs.Ytemcdfkmpikegaa.Pure
set_option linter.unusedVariables false
set_option linter.unusedSimpArgs false
namespace Go.Proofs.Ytemcdfkmpikegaa.Pure
open Go.RowKit Go.Proofs.Ytemcdfkmpikegaa.Pr Go.Proofs.YtemcdfkmpikegaaW.PrintWords Go.Proofs.YtemcdfkmpikegaaW.PrintLast Go.Proofs.YtemcdfkmpikegaaW.PrintMore
theorem wnext {n i : Nat} (h : i < n) (hn : n ≤ 9223372036854775807) : wrap64 ((i : Int) + 1) = ((i + 1 : Nat) : Int) := by
  rw [w64 (by omega) (by omega)]; omega
theorem setStep {α : Type} (l : List α) (z : α) (i : Nat) (h : i < l.length) : (l.take i ++ List.replicate (l.length - i) z).set i l[i] = l.take (i + 1) ++ List.replicate (l.length - (i + 1)) z := by
  apply List.ext_getElem
  · simp; omega
  · intro j h1 h2
    by_cases e : j = i
    · subst e; simp [List.getElem_append]; omega
    · simp only [List.getElem_set, List.getElem_append]
      rw [if_neg (by omega)]
      by_cases hj : j < i
      · simp [hj]; rw [dif_pos (by omega), dif_pos (by omega)]
      · simp [hj]; rw [dif_neg (by omega), dif_neg (by omega)]
theorem dropCons {α : Type} (l : List α) (i : Nat) (h : i < l.length) : l.drop i = l[i] :: l.drop (i + 1) := List.drop_eq_getElem_cons h
end Go.Proofs.Ytemcdfkmpikegaa.Pure
set_option linter.unusedVariables false
set_option linter.unusedSimpArgs false
namespace Go.Proofs.Ytemcdfkmpikegaa.Pure
open Go.RowKit Go.Proofs.Ytemcdfkmpikegaa.Pr Go.Proofs.YtemcdfkmpikegaaW.PrintWords Go.Proofs.YtemcdfkmpikegaaW.PrintLast Go.Proofs.YtemcdfkmpikegaaW.PrintMore
theorem cpLoop {α β : Type} (l : List α) (cv : α → β) (z : β) (hl : l.length ≤ 9223372036854775807) (F : Nat → List β → Int → Option (List β)) (g : Nat → Int → Option β)
    (hF : ∀ k xs i, F (k + 1) xs i = if i < (l.length : Int) then (if 0 ≤ i then ((g k i).bind fun v => if i < (xs.length : Int) then F k (xs.set i.toNat v) (wrap64 (i + 1)) else none) else none) else some xs)
    (hg : ∀ (i : Nat) (h : i < l.length), Ev (fun k => g k (i : Int)) (cv l[i])) : Ev (fun k => F k (List.replicate l.length z) 0) (l.map cv) := by
  have loop : ∀ (d i : Nat), i + d = l.length → Ev (fun k => F k ((l.map cv).take i ++ List.replicate (l.length - i) z) i) (l.map cv) := by
    intro d
    induction d with
    | zero =>
      intro i hi
      obtain rfl : i = l.length := by omega
      refine Ev.step (fun k => by rw [hF]) (evElse (by omega) (evNow (by rw [List.take_of_length_le (by simp)]; simp)))
    | succ d ih =>
      intro i hi
      have hlt : i < l.length := by omega
      refine Ev.step (fun k => by rw [hF]) (evIf (by omega) (evIf (by omega) ?_))
      refine Ev.bind (hg i hlt) ?_
      refine evIf (by simp; omega) ?_
      have hm : (l.map cv).length = l.length := by simp
      have e := setStep (l.map cv) z i (by rw [hm]; exact hlt)
      simp only [List.length_map, List.getElem_map] at e
      rw [Int.toNat_natCast, e, wnext (n := l.length) (by omega) hl]
      exact ih (i + 1) (by omega)
  have := loop l.length 0 (by omega)
  simpa using this
theorem allLoop (n : Nat) (hn : n ≤ 9223372036854775807) (F : Nat → Int → Option Bool) (g : Nat → Int → Option Bool)
    (hF : ∀ k (i : Nat), i < n → F (k + 1) (i : Int) = ((g k (i : Int)).bind fun t => if t = true then F k (wrap64 ((i : Int) + 1)) else some false))
    (hE : ∀ k, F (k + 1) (n : Int) = some true) (p : Nat → Bool)
    (hg : ∀ (i : Nat), i < n → Ev (fun k => g k (i : Int)) (p i)) : ∀ (d i : Nat), i + d = n → Ev (fun k => F k (i : Int)) ((List.range' i d).all p) := by
  intro d
  induction d with
  | zero =>
    intro i hi
    obtain rfl : i = n := by omega
    exact Ev.step (fun k => hE k) (evNow rfl)
  | succ d ih =>
    intro i hi
    refine Ev.step (fun k => hF k i (by omega)) (Ev.bind (hg i (by omega)) ?_)
    rw [List.range'_succ, List.all_cons]
    cases hp : p i with
    | false => exact evElse (by simp) (evNow (by simp))
    | true =>
      refine evIf rfl ?_
      rw [wnext (n := n) (by omega) hn]
      simpa using ih (i + 1) (by omega)
theorem allLoop0 (n : Nat) (hn : n ≤ 9223372036854775807) (F : Nat → Int → Option Bool) (g : Nat → Int → Option Bool)
    (hF : ∀ k (i : Nat), i < n → F (k + 1) (i : Int) = ((g k (i : Int)).bind fun t => if t = true then F k (wrap64 ((i : Int) + 1)) else some false))
    (hE : ∀ k, F (k + 1) (n : Int) = some true) (hg : ∀ (i : Nat), i < n → Ev (fun k => g k (i : Int)) true) : Ev (fun k => F k 0) true := by
  have := allLoop n hn F g hF hE (fun _ => true) hg n 0 (by omega)
  have e : (List.range' 0 n).all (fun _ => true) = true := by rw [List.all_eq_true]; exact fun _ _ => rfl
  rw [e] at this
  exact this
end Go.Proofs.Ytemcdfkmpikegaa.Pure
set_option linter.unusedVariables false
set_option linter.unusedSimpArgs false
namespace Go.Proofs.Ytemcdfkmpikegaa.Pure
open Go.RowKit Go.Proofs.Ytemcdfkmpikegaa.Pr Go.Proofs.YtemcdfkmpikegaaW.PrintWords Go.Proofs.YtemcdfkmpikegaaW.PrintLast Go.Proofs.YtemcdfkmpikegaaW.PrintMore
def cvB (b : S93) : S96 := ⟨b.f0, b.f1⟩
def cvC (c : S95) : S98 := ⟨c.f0, c.f1, c.f2, cvB c.f3, cvB c.f4, cvB c.f5, cvB c.f6⟩
def cvR (r : S77) : S58 := ⟨r.f0.map cvC, r.f1⟩
def cvO (c : S81) : S79 := ⟨c.f0, c.f1⟩
theorem rdCl (l : List S95) (i : Nat) (h : i < l.length) : rd_T95 l (i : Int) = l[i] := by unfold rd_T95; simp [h]
theorem rdR (l : List S58) (i : Nat) (h : i < l.length) : rd_T58 l (i : Int) = l[i] := by unfold rd_T58; simp [h]
theorem rdRl (l : List S77) (i : Nat) (h : i < l.length) : rd_T77 l (i : Int) = l[i] := by unfold rd_T77; simp [h]
theorem rdOl (l : List S81) (i : Nat) (h : i < l.length) : rd_T81 l (i : Int) = l[i] := by unfold rd_T81; simp [h]
theorem toCols (l : List S81) (h : l.length ≤ 1048576) : Ev (fun k => laws_toTblColS.f k l) (l.map cvO) := by
  unfold laws_toTblColS.f
  refine evIf (by omega) (evIf (by omega) ?_)
  rw [Int.toNat_natCast]
  refine cpLoop l cvO z79 (by omega) (fun k xs i => laws_toTblColS.l0 k l xs i) (fun _ i => some (cvO (rd_T81 l i))) (fun k xs i => by show laws_toTblColS.l0 (k + 1) l xs i = _; rw [laws_toTblColS.l0]; rfl) (fun i hi => evNow (by rw [rdOl l i hi]))
theorem toCells (l : List S95) (h : l.length ≤ 1048576) : Ev (fun k => laws_toTblCellS.f k l) (l.map cvC) := by
  unfold laws_toTblCellS.f
  refine evIf (by omega) (evIf (by omega) ?_)
  rw [Int.toNat_natCast]
  refine cpLoop l cvC z98 (by omega) (fun k xs i => laws_toTblCellS.l0 k l xs i) (fun _ i => some (cvC (rd_T95 l i))) (fun k xs i => by show laws_toTblCellS.l0 (k + 1) l xs i = _; rw [laws_toTblCellS.l0]; rfl) (fun i hi => evNow (by rw [rdCl l i hi]))
theorem toRows (l : List S77) (h : l.length ≤ 1048576) (hr : ∀ r ∈ l, r.f0.length ≤ 1048576) : Ev (fun k => laws_toTblRowS.f k l) (l.map cvR) := by
  unfold laws_toTblRowS.f
  refine evIf (by omega) (evIf (by omega) ?_)
  rw [Int.toNat_natCast]
  refine cpLoop l cvR z58 (by omega) (fun k xs i => laws_toTblRowS.l0 k l xs i) (fun k i => (laws_toTblRow.f k (rd_T77 l i).f0 (rd_T77 l i).f1).bind fun bt => some (⟨bt.1, bt.2⟩ : S58)) (fun k xs i => by show laws_toTblRowS.l0 (k + 1) l xs i = _; rw [laws_toTblRowS.l0]; simp only [Option.bind_assoc, Option.bind_some]) (fun i hi => ?_)
  rw [rdRl l i hi]
  exact ((toCells l[i].f0 (hr _ (List.getElem_mem _))).bind (evNow rfl) : Ev (fun k => laws_toTblRow.f k l[i].f0 l[i].f1) (l[i].f0.map cvC, l[i].f1)).bind (evNow rfl)
theorem toTable (c : List S81) (hd ft : Int) (r : List S77) (g : Int) (hc : c.length ≤ 1048576) (hl : r.length ≤ 1048576) (hr : ∀ x ∈ r, x.f0.length ≤ 1048576) : Ev (fun k => laws_toTblTable.f k c hd ft r g) (c.map cvO, hd, ft, r.map cvR, g) :=
  (toCols c hc).bind ((toRows r hl hr).bind (evNow rfl))
theorem eqCols (l : List S79) (h : l.length ≤ 9223372036854775807) : Ev (fun k => laws_eqTblColS.f k l l) true := by
  unfold laws_eqTblColS.f
  refine evIf rfl (allLoop0 l.length h (fun k i => laws_eqTblColS.l0 k l l i) (fun _ i => laws_eqTblCol.f (rd_T79 l i).f0 (rd_T79 l i).f1 (rd_T79 l i).f0 (rd_T79 l i).f1) ?_ ?_ ?_)
  · intro k i hi
    show laws_eqTblColS.l0 (k + 1) l l i = _
    rw [laws_eqTblColS.l0, if_pos (by omega), if_pos (by omega), if_pos (by omega)]
  · intro k
    show laws_eqTblColS.l0 (k + 1) l l l.length = _
    rw [laws_eqTblColS.l0, if_neg (by omega)]
  · intro i hi
    exact evNow (by unfold laws_eqTblCol.f; simp)
theorem eqBrd (a b : Int) : laws_eqBrdLine.f a b a b = some true := by unfold laws_eqBrdLine.f; simp
theorem eqCells (l : List S98) (h : l.length ≤ 9223372036854775807) : Ev (fun k => laws_eqTblCellS.f k l l) true := by
  unfold laws_eqTblCellS.f
  refine evIf rfl (allLoop0 l.length h (fun k i => laws_eqTblCellS.l0 k l l i) (fun _ _ => some true) ?_ ?_ (fun _ _ => evNow rfl))
  · intro k i hi
    show laws_eqTblCellS.l0 (k + 1) l l i = _
    rw [laws_eqTblCellS.l0, if_pos (by omega), if_pos (by omega), if_pos (by omega)]
    unfold laws_eqTblCell.f
    simp [eqBrd]
  · intro k
    show laws_eqTblCellS.l0 (k + 1) l l l.length = _
    rw [laws_eqTblCellS.l0, if_neg (by omega)]
theorem eqRows (l : List S58) (h : l.length ≤ 9223372036854775807) (hr : ∀ r ∈ l, r.f0.length ≤ 9223372036854775807) : Ev (fun k => laws_eqTblRowS.f k l l) true := by
  unfold laws_eqTblRowS.f
  refine evIf rfl (allLoop0 l.length h (fun k i => laws_eqTblRowS.l0 k l l i) (fun k i => laws_eqTblRow.f k (rd_T58 l i).f0 (rd_T58 l i).f1 (rd_T58 l i).f0 (rd_T58 l i).f1) ?_ ?_ ?_)
  · intro k i hi
    show laws_eqTblRowS.l0 (k + 1) l l i = _
    rw [laws_eqTblRowS.l0, if_pos (by omega), if_pos (by omega), if_pos (by omega)]
  · intro k
    show laws_eqTblRowS.l0 (k + 1) l l l.length = _
    rw [laws_eqTblRowS.l0, if_neg (by omega)]
  · intro i hi
    rw [rdR l i hi]
    exact (eqCells _ (hr _ (List.getElem_mem _))).bind (evIf rfl (evElse (by simp) (evNow rfl)))
theorem eqTable (c : List S79) (hd ft : Int) (r : List S58) (g : Int) (hc : c.length ≤ 9223372036854775807) (hl : r.length ≤ 9223372036854775807) (hr : ∀ x ∈ r, x.f0.length ≤ 9223372036854775807) : Ev (fun k => laws_eqTblTable.f k c hd ft r g c hd ft r g) true :=
  (eqCols c hc).bind (evIf rfl (evIf rfl (evIf rfl ((eqRows r hl hr).bind (evIf rfl (evIf rfl (evNow rfl)))))))
theorem szCell (c : S95) (n : Int) (h0 : 0 ≤ n) (h1 : n ≤ 1048576) (hs : c.f0.size ≤ 9223372036854775807) : ∃ r, laws_szTblCell.f c.f0 c.f1 c.f2 c.f3.f0 c.f3.f1 c.f4.f0 c.f4.f1 c.f5.f0 c.f5.f1 c.f6.f0 c.f6.f1 n = some r ∧ r ≤ n ∧ (0 ≤ r → c.f0.size ≤ 1048576) := by
  have e : wrap64 (n - (c.f0.size : Int)) = n - (c.f0.size : Int) := w64 (by omega) (by omega)
  unfold laws_szTblCell.f
  rw [e]
  by_cases h : n - (c.f0.size : Int) < 0
  · exact ⟨-1, by simp [h], by omega, by omega⟩
  · exact ⟨n - (c.f0.size : Int), by simp [h], by omega, by omega⟩
theorem szCells (l : List S95) (n : Int) (h0 : 0 ≤ n) (h1 : n ≤ 1048576) (hl : l.length ≤ 9223372036854775807) (hs : ∀ c ∈ l, c.f0.size ≤ 9223372036854775807) : ∃ r, Ev (fun k => laws_szTblCellS.f k l n) r ∧ r ≤ n ∧ (0 ≤ r → l.length ≤ 1048576 ∧ ∀ c ∈ l, c.f0.size ≤ 1048576) := by
  have e : wrap64 (n - (l.length : Int)) = n - (l.length : Int) := w64 (by omega) (by omega)
  unfold laws_szTblCellS.f
  rw [e]
  by_cases h : n - (l.length : Int) < 0
  · exact ⟨-1, evIf h (evNow rfl), by omega, by omega⟩
  · have loop : ∀ (d i : Nat) (m : Int), i + d = l.length → 0 ≤ m → m ≤ n → ∃ r, Ev (fun k => laws_szTblCellS.l0 k l m i) r ∧ r ≤ m ∧ (0 ≤ r → ∀ c ∈ l.drop i, c.f0.size ≤ 1048576) := by
      intro d
      induction d with
      | zero =>
        intro i m hi hm hn
        refine ⟨m, ?_, Int.le_refl _, fun _ c hc => by rw [show i = l.length by omega, List.drop_length] at hc; cases hc⟩
        refine Ev.step (fun k => by rw [laws_szTblCellS.l0]) ?_
        exact evElse (by omega) (evNow rfl)
      | succ d ih =>
        intro i m hi hm hn
        have hlt : i < l.length := by omega
        obtain ⟨q, hq, hq1, hq2⟩ := szCell l[i] m hm (by omega) (hs _ (List.getElem_mem _))
        by_cases hqn : q < 0
        · refine ⟨-1, ?_, by omega, by omega⟩
          refine Ev.step (fun k => by rw [laws_szTblCellS.l0]) ?_
          refine evIf (by omega) ?_
          refine evIf (by omega) ?_
          rw [rdCl l i hlt]
          exact evBindC hq (evIf hqn (evNow rfl))
        · obtain ⟨r, hr, hr1, hr2⟩ := ih (i + 1) q (by omega) (by omega) (by omega)
          refine ⟨r, ?_, by omega, fun h c hc => ?_⟩
          · refine Ev.step (fun k => by rw [laws_szTblCellS.l0]) ?_
            refine evIf (by omega) ?_
            refine evIf (by omega) ?_
            rw [rdCl l i hlt]
            refine evBindC hq (evElse hqn ?_)
            rw [wnext (n := l.length) (by omega) hl]
            exact hr
          · rw [dropCons l i hlt] at hc
            rcases List.mem_cons.mp hc with rfl | hc
            · exact hq2 (by omega)
            · exact hr2 h c hc
    obtain ⟨r, hr, hr1, hr2⟩ := loop l.length 0 (n - l.length) (by omega) (by omega) (by omega)
    exact ⟨r, evElse h hr, by omega, fun h => ⟨by omega, by simpa using hr2 h⟩⟩
theorem szRow (x : S77) (n : Int) (h0 : 0 ≤ n) (h1 : n ≤ 1048576) (hl : x.f0.length ≤ 9223372036854775807) (hs : ∀ c ∈ x.f0, c.f0.size ≤ 9223372036854775807) : ∃ r, Ev (fun k => laws_szTblRow.f k x.f0 x.f1 n) r ∧ r ≤ n ∧ (0 ≤ r → x.f0.length ≤ 1048576 ∧ ∀ c ∈ x.f0, c.f0.size ≤ 1048576) := by
  obtain ⟨r, hr, hr1, hr2⟩ := szCells x.f0 n h0 h1 hl hs
  by_cases h : r < 0
  · exact ⟨-1, hr.bind (evIf h (evNow rfl)), by omega, by omega⟩
  · exact ⟨r, hr.bind (evElse h (evNow rfl)), hr1, hr2⟩
theorem szRows (l : List S77) (n : Int) (h0 : 0 ≤ n) (h1 : n ≤ 1048576) (hl : l.length ≤ 9223372036854775807) (hs : ∀ x ∈ l, x.f0.length ≤ 9223372036854775807 ∧ ∀ c ∈ x.f0, c.f0.size ≤ 9223372036854775807) : ∃ r, Ev (fun k => laws_szTblRowS.f k l n) r ∧ r ≤ n ∧ (0 ≤ r → l.length ≤ 1048576 ∧ ∀ x ∈ l, x.f0.length ≤ 1048576 ∧ ∀ c ∈ x.f0, c.f0.size ≤ 1048576) := by
  have e : wrap64 (n - (l.length : Int)) = n - (l.length : Int) := w64 (by omega) (by omega)
  unfold laws_szTblRowS.f
  rw [e]
  by_cases h : n - (l.length : Int) < 0
  · exact ⟨-1, evIf h (evNow rfl), by omega, by omega⟩
  · have loop : ∀ (d i : Nat) (m : Int), i + d = l.length → 0 ≤ m → m ≤ n → ∃ r, Ev (fun k => laws_szTblRowS.l0 k l m i) r ∧ r ≤ m ∧ (0 ≤ r → ∀ x ∈ l.drop i, x.f0.length ≤ 1048576 ∧ ∀ c ∈ x.f0, c.f0.size ≤ 1048576) := by
      intro d
      induction d with
      | zero =>
        intro i m hi hm hn
        refine ⟨m, ?_, Int.le_refl _, fun _ c hc => by rw [show i = l.length by omega, List.drop_length] at hc; cases hc⟩
        refine Ev.step (fun k => by rw [laws_szTblRowS.l0]) ?_
        exact evElse (by omega) (evNow rfl)
      | succ d ih =>
        intro i m hi hm hn
        have hlt : i < l.length := by omega
        have hx := hs _ (List.getElem_mem hlt)
        obtain ⟨q, hq, hq1, hq2⟩ := szRow l[i] m hm (by omega) hx.1 hx.2
        by_cases hqn : q < 0
        · refine ⟨-1, ?_, by omega, by omega⟩
          refine Ev.step (fun k => by rw [laws_szTblRowS.l0]) ?_
          refine evIf (by omega) ?_
          refine evIf (by omega) ?_
          rw [rdRl l i hlt]
          exact hq.bind (evIf hqn (evNow rfl))
        · obtain ⟨r, hr, hr1, hr2⟩ := ih (i + 1) q (by omega) (by omega) (by omega)
          refine ⟨r, ?_, by omega, fun h c hc => ?_⟩
          · refine Ev.step (fun k => by rw [laws_szTblRowS.l0]) ?_
            refine evIf (by omega) ?_
            refine evIf (by omega) ?_
            rw [rdRl l i hlt]
            refine hq.bind (evElse hqn ?_)
            rw [wnext (n := l.length) (by omega) hl]
            exact hr
          · rw [dropCons l i hlt] at hc
            rcases List.mem_cons.mp hc with rfl | hc
            · exact hq2 (by omega)
            · exact hr2 h c hc
    obtain ⟨r, hr, hr1, hr2⟩ := loop l.length 0 (n - l.length) (by omega) (by omega) (by omega)
    exact ⟨r, evElse h hr, by omega, fun h => ⟨by omega, by simpa using hr2 h⟩⟩
theorem szTable (c : List S81) (hd ft : Int) (l : List S77) (g : Int) (hc : c.length ≤ 9223372036854775807) (hl : l.length ≤ 9223372036854775807) (hs : ∀ x ∈ l, x.f0.length ≤ 9223372036854775807 ∧ ∀ c ∈ x.f0, c.f0.size ≤ 9223372036854775807) :
    ∃ r, Ev (fun k => laws_szTblTable.f k c hd ft l g 1048576) r ∧ (¬ r < 0 → c.length ≤ 1048576 ∧ l.length ≤ 1048576 ∧ ∀ x ∈ l, x.f0.length ≤ 1048576 ∧ ∀ c ∈ x.f0, c.f0.size ≤ 1048576) := by
  have e : wrap64 (1048576 - (c.length : Int)) = 1048576 - (c.length : Int) := w64 (by omega) (by omega)
  unfold laws_szTblTable.f laws_szTblColS.f
  rw [e]
  by_cases h : 1048576 - (c.length : Int) < 0
  · refine ⟨-1, ?_, by omega⟩
    rw [if_pos h]
    exact evSome (evIf (by omega) (evNow rfl))
  · obtain ⟨r, hr, hr1, hr2⟩ := szRows l (1048576 - c.length) (by omega) (by omega) hl hs
    rw [if_neg h]
    by_cases hn : r < 0
    · exact ⟨-1, evSome (evElse h (hr.bind (evIf hn (evNow rfl)))), by omega⟩
    · exact ⟨r, evSome (evElse h (hr.bind (evElse hn (evNow rfl)))), fun h => ⟨by omega, hr2 (by omega)⟩⟩
end Go.Proofs.Ytemcdfkmpikegaa.Pure
set_option linter.unusedVariables false
set_option linter.unusedSimpArgs false
namespace Go.Proofs.Ytemcdfkmpikegaa.Pure
open Go.RowKit Go.Proofs.Ytemcdfkmpikegaa.Pr Go.Proofs.YtemcdfkmpikegaaW.PrintWords Go.Proofs.YtemcdfkmpikegaaW.PrintLast Go.Proofs.YtemcdfkmpikegaaW.PrintMore
def sumC : List S58 → Int → Int
  | [], n => n
  | r :: l, n => sumC l (wrap64 (n + (r.f0.length : Int)))
theorem specCells (c : List S79) (hd ft : Int) (l : List S58) (g : Int) (h : l.length ≤ 9223372036854775807) : Ev (fun k => spec_TblCells.f k c hd ft l g) (sumC l 0) := by
  unfold spec_TblCells.f
  have loop : ∀ (d i : Nat) (n : Int), i + d = l.length → Ev (fun k => spec_TblCells.l0 k n i c hd ft l g) (sumC (l.drop i) n) := by
    intro d
    induction d with
    | zero =>
      intro i n hi
      rw [show i = l.length by omega, List.drop_length]
      refine Ev.step (fun k => by rw [spec_TblCells.l0]) ?_
      exact evElse (by omega) (evNow rfl)
    | succ d ih =>
      intro i n hi
      have hlt : i < l.length := by omega
      rw [dropCons l i hlt, sumC]
      refine Ev.step (fun k => by rw [spec_TblCells.l0]) ?_
      refine evIf (by omega) ?_
      refine evIf (by omega) ?_
      rw [rdR l i hlt, wnext (n := l.length) (by omega) h]
      exact ih (i + 1) _ (by omega)
  exact loop l.length 0 0 (by omega)
theorem implCells (c : List S79) (hd ft : Int) (l : List S58) (g : Int) (h : l.length ≤ 9223372036854775807) : Ev (fun k => impl_TblCells.f k c hd ft l g) (sumC l 0) := by
  unfold impl_TblCells.f
  have loop : ∀ (d i : Nat) (n : Int), i + d = l.length → Ev (fun k => impl_TblCells.l0 k n l (l.length : Int) i) (sumC (l.drop i) n) := by
    intro d
    induction d with
    | zero =>
      intro i n hi
      rw [show i = l.length by omega, List.drop_length]
      refine Ev.step (fun k => by rw [impl_TblCells.l0]) ?_
      exact evElse (by omega) (evNow rfl)
    | succ d ih =>
      intro i n hi
      have hlt : i < l.length := by omega
      rw [dropCons l i hlt, sumC]
      refine Ev.step (fun k => by rw [impl_TblCells.l0]) ?_
      refine evIf (by omega) ?_
      refine evIf (by omega) ?_
      refine evIf (by omega) ?_
      rw [rdR l i hlt, wnext (n := l.length) (by omega) h]
      exact ih (i + 1) _ (by omega)
  exact loop l.length 0 0 (by omega)
end Go.Proofs.Ytemcdfkmpikegaa.Pure
set_option linter.unusedVariables false
set_option linter.unusedSimpArgs false
namespace Go.Proofs.Ytemcdfkmpikegaa.Pure
open Go.RowKit Go.Proofs.Ytemcdfkmpikegaa.Pr Go.Proofs.YtemcdfkmpikegaaW.PrintWords Go.Proofs.YtemcdfkmpikegaaW.PrintLast Go.Proofs.YtemcdfkmpikegaaW.PrintMore
theorem FnExactTblCells (t : S25) (ht : wf25 t) : ∃ k, laws_FnExactTblCells.f k t.f0 t.f1 t.f2 t.f3 t.f4 = some true := by
  apply Run.get
  have hc : t.f0.length ≤ 9223372036854775807 := ht.1.1
  have hl : t.f3.length ≤ 9223372036854775807 := ht.2.2.2.1.1
  have hs : ∀ x ∈ t.f3, x.f0.length ≤ 9223372036854775807 ∧ ∀ c ∈ x.f0, c.f0.size ≤ 9223372036854775807 := fun x hx => by
    have h := ht.2.2.2.1.2 x hx
    refine ⟨h.1.1, fun c hc => ?_⟩
    have := (h.1.2 c hc).1
    unfold maxLen at this; omega
  obtain ⟨r, hr, hb⟩ := szTable t.f0 t.f1 t.f2 t.f3 t.f4 hc hl hs
  unfold laws_FnExactTblCells.f
  refine Run.evBind hr (Run.ite (fun _ => Run.ret rfl) fun hn => ?_)
  obtain ⟨b1, b2, b3⟩ := hb hn
  have ti := toTable t.f0 t.f1 t.f2 t.f3 t.f4 b1 b2 (fun x hx => (b3 x hx).1)
  have m1 : (t.f0.map cvO).length ≤ 9223372036854775807 := by simpa using hc
  have m2 : (t.f3.map cvR).length ≤ 9223372036854775807 := by simpa using hl
  have m3 : ∀ x ∈ t.f3.map cvR, x.f0.length ≤ 9223372036854775807 := by
    intro x hx
    obtain ⟨y, hy, rfl⟩ := List.mem_map.mp hx
    simpa [cvR] using (hs y hy).1
  refine Run.evBind ti (Run.evBind (specCells _ t.f1 t.f2 _ t.f4 m2) (Run.evBind ti (Run.evBind (implCells _ t.f1 t.f2 _ t.f4 m2) (Run.pos rfl (Run.evBind ti (Run.evBind (eqTable _ t.f1 t.f2 _ t.f4 m1 m2 m3) (Run.pos rfl (Run.ret rfl))))))))
end Go.Proofs.Ytemcdfkmpikegaa.Pure
