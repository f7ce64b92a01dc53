/- A part of what the claim of 'FnGrdPlain' leans on. -/
import Derived.Test.YtnalfnoebhmijaaDoorFnGrdPlainP0
import Derived.Lib.SplitLaws
import Derived.Lib.SlTrimSet
import Derived.Lib.JoinLaws
set_option linter.unusedVariables false
set_option linter.unusedSimpArgs false
namespace Go.Proofs.YtnalfnoebhmijaaDoor.Pure
open Go.RowKit Go.Proofs.YtnalfnoebhmijaaDoor.Pr Go.Proofs.YtnalfnoebhmijaaDoorW.PrintWords Go.Proofs.YtnalfnoebhmijaaDoorW.PrintLast Go.Proofs.YtnalfnoebhmijaaDoorW.PrintMore
def cutL : List UInt8 → List (List UInt8)
  | [] => [[]]
  | b :: l => if b = 32 then [] :: cutL l else match cutL l with
    | w :: ws => (b :: w) :: ws
    | [] => [[b]]
theorem cutL_ne (l : List UInt8) : ∃ w ws, cutL l = w :: ws := by
  cases l with
  | nil => exact ⟨_, _, rfl⟩
  | cons b l =>
    unfold cutL
    split
    · exact ⟨_, _, rfl⟩
    · split
      · exact ⟨_, _, rfl⟩
      · exact ⟨_, _, rfl⟩
theorem cutL_blank (l : List UInt8) : cutL (32 :: l) = [] :: cutL l := by simp [cutL]
theorem cutL_other {b : UInt8} {l w : List UInt8} {ws : List (List UInt8)} (hb : b ≠ 32) (h : cutL l = w :: ws) : cutL (b :: l) = (b :: w) :: ws := by simp [cutL, hb, h]
theorem cutL_length (l : List UInt8) : (cutL l).length = l.count 32 + 1 := by
  induction l with
  | nil => rfl
  | cons b l ih =>
    by_cases hb : b = 32
    · subst hb; rw [cutL_blank, List.length_cons, ih, List.count_cons_self]
    · obtain ⟨w, ws, e⟩ := cutL_ne l
      rw [cutL_other hb e, List.count_cons_of_ne (by simpa using hb)]
      rw [e] at ih; simpa using ih
open Go.Lib in
theorem splitK_cut (l : List UInt8) : splitK [32] 0 (l.count 32) l = cutL l := by
  induction l with
  | nil => rfl
  | cons b l ih =>
    by_cases hb : b = 32
    · subst hb
      rw [List.count_cons_self, cutL_blank, splitK]
      have hi : index (32 :: l) [32] = 0 := by simp [index]
      rw [hi, if_neg (by decide)]
      simp [ih]
    · obtain ⟨w, ws, e⟩ := cutL_ne l
      rw [List.count_cons_of_ne (by simpa using hb), cutL_other hb e]
      rw [e] at ih
      generalize l.count 32 = k at ih ⊢
      cases k with
      | zero =>
        simp only [splitK, List.cons.injEq] at ih
        obtain ⟨rfl, rfl⟩ := ih
        rfl
      | succ m =>
        rw [splitK] at ih ⊢
        have hp : ([32] : List UInt8).isPrefixOf (b :: l) = false := by
          have hb' : (32 : UInt8) ≠ b := fun h => hb h.symm
          show (((32 : UInt8) == b) && List.isPrefixOf [] l) = false
          rw [beq_eq_false_iff_ne.mpr hb']; rfl
        have hi : index (b :: l) [32] = if index l [32] == -1 then -1 else index l [32] + 1 := by rw [index, hp]; rfl
        by_cases h : (index l [32] == -1) = true
        · rw [if_pos h] at ih
          rw [hi, if_pos h, if_pos (by rfl)]
          simp only [List.cons.injEq] at ih
          obtain ⟨rfl, rfl⟩ := ih
          rfl
        · rw [if_neg h] at ih
          have hg := index_ge l [32]
          have hne : index l [32] ≠ -1 := by simpa using h
          rw [hi, if_neg h, if_neg (by simp; omega)]
          obtain ⟨i, hie⟩ : ∃ i : Nat, index l [32] = i := ⟨(index l [32]).toNat, by omega⟩
          rw [hie] at ih ⊢
          have e1 : ((i : Int) + 1).toNat = i + 1 := by omega
          rw [e1]
          simp only [Int.toNat_natCast, Nat.add_zero, List.cons.injEq, List.length_singleton] at ih ⊢
          obtain ⟨h1, h2⟩ := ih
          refine ⟨by rw [List.take_succ_cons, h1], ?_⟩
          rw [← h2, List.drop_succ_cons]
def cutB (s : ByteArray) : List ByteArray := (cutL s.data.toList).map fun l => ⟨l.toArray⟩
def blank1 : ByteArray := ⟨#[32]⟩
open Go.Lib in
theorem countB_blank (s : ByteArray) : countB s blank1 = s.data.toList.count 32 := count_one 32 _
open Go.Lib in
theorem splitB_cut (s : ByteArray) : splitB blank1 0 (countB s blank1) s = cutB s := by
  have h := splitB_data blank1 0 (countB s blank1) s
  rw [countB_blank] at h ⊢
  rw [show blank1.data.toList = [32] from rfl, splitK_cut] at h
  unfold cutB
  rw [← h, List.map_map]
  exact (List.map_id _).symm.trans (List.map_congr_left fun x _ => by simp)
def letter (b : UInt8) : Bool := decide (97 ≤ b.toNat) && decide (b.toNat ≤ 122)
def goodW (w : List UInt8) : Bool := !w.isEmpty && w.all letter
def okFrom : Bool → List UInt8 → Bool
  | p, [] => !p
  | p, b :: l => if b = 32 then !p && okFrom true l else letter b && okFrom false l
theorem okFrom_cut (l : List UInt8) : ∀ (p : Bool) (w : List UInt8) (ws : List (List UInt8)), cutL l = w :: ws → okFrom p l = ((!p || !w.isEmpty) && w.all letter && ws.all goodW) := by
  induction l with
  | nil =>
    intro p w ws h
    simp only [cutL, List.cons.injEq] at h
    obtain ⟨rfl, rfl⟩ := h
    simp [okFrom]
  | cons b l ih =>
    intro p w ws h
    by_cases hb : b = 32
    · subst hb
      rw [cutL_blank] at h
      simp only [List.cons.injEq] at h
      obtain ⟨rfl, rfl⟩ := h
      obtain ⟨w2, ws2, e⟩ := cutL_ne l
      rw [okFrom, if_pos rfl, ih true w2 ws2 e, e]
      simp [goodW, Bool.and_assoc]
    · obtain ⟨w2, ws2, e⟩ := cutL_ne l
      rw [cutL_other hb e] at h
      simp only [List.cons.injEq] at h
      obtain ⟨rfl, rfl⟩ := h
      rw [okFrom, if_neg hb, ih false w2 ws2 e]
      simp [Bool.and_assoc]
theorem okFrom_words (l : List UInt8) : okFrom true l = (cutL l).all goodW := by
  obtain ⟨w, ws, e⟩ := cutL_ne l
  rw [okFrom_cut l true w ws e, e]
  simp [goodW, Bool.and_assoc]
def txtOkL (l : List UInt8) : Bool := l.isEmpty || (decide (l.length ≤ 30) && (cutL l).all goodW)
def letters26 : List UInt8 := [97, 98, 99, 100, 101, 102, 103, 104, 105, 106, 107, 108, 109, 110, 111, 112, 113, 114, 115, 116, 117, 118, 119, 120, 121, 122]
theorem letters26_contains (b : UInt8) : letters26.contains b = letter b := by
  have h : ∀ n : Fin 256, letters26.contains (UInt8.ofNat n.val) = letter (UInt8.ofNat n.val) := by decide +kernel
  have := h ⟨b.toNat, b.toNat_lt⟩
  simpa using this
theorem dropWhile_all {α : Type} (p : α → Bool) (l : List α) : (l.dropWhile p).isEmpty = l.all p := by
  induction l with
  | nil => rfl
  | cons a l ih => by_cases h : p a = true <;> simp [List.dropWhile, h, ih]
open Go.Lib in
theorem trim_empty (l : List UInt8) : (trimS l letters26).isEmpty = l.all letter := by
  have e : (fun b => letters26.contains b) = letter := funext letters26_contains
  unfold trimS trimLeftS trimRightS
  show (List.dropWhile (fun b => letters26.contains b) (List.reverse (List.dropWhile (fun b => letters26.contains b) (List.reverse l)))).isEmpty = _
  rw [e, dropWhile_all, List.all_reverse]
  apply Bool.eq_iff_iff.mpr
  constructor
  · intro h
    have hd : (l.reverse.dropWhile letter) = [] := by
      cases hx : l.reverse.dropWhile letter with
      | nil => rfl
      | cons a t =>
        have h1 : letter a = true := by rw [hx] at h; simp at h; exact h.1
        have h2 := List.head?_dropWhile_not letter l.reverse
        rw [hx] at h2
        simp [h1] at h2
    have := dropWhile_all letter l.reverse
    rw [hd] at this
    simpa using this.symm
  · intro h
    have := dropWhile_all letter l.reverse
    rw [List.all_reverse, h] at this
    have hd : l.reverse.dropWhile letter = [] := by simpa using this
    rw [hd]; rfl
end Go.Proofs.YtnalfnoebhmijaaDoor.Pure
