/- The plain laws that the claim of 'FnExactTxtLines' leans on. -/
import Derived.Test.YtcjpojppbmlfaaaDoorFnExactTxtLinesPr0
import Derived.Test.YtcjpojppbmlfaaaDoorFnExactTxtLinesPr51
import Derived.Test.YtcjpojppbmlfaaaDoorFnExactTxtLinesPr53
import Derived.Test.YtcjpojppbmlfaaaDoorFnExactTxtLinesPr25
import Derived.Test.YtcjpojppbmlfaaaDoorFnExactTxtLinesPr26
import Derived.Test.YtcjpojppbmlfaaaDoorFnExactTxtLinesPr55
import Derived.Test.YtcjpojppbmlfaaaDoorFnExactTxtLinesPr56
import Derived.Test.YtcjpojppbmlfaaaDoorFnExactTxtLinesQCut
import Derived.Lib.LazyBuf
import Derived.Test.YtcjpojppbmlfaaaDoorFnExactTxtLinesPr27
import Derived.Test.YtcjpojppbmlfaaaDoorFnExactTxtLinesPr28
import Derived.Test.YtcjpojppbmlfaaaDoorFnExactTxtLinesPr34
import Derived.Test.YtcjpojppbmlfaaaDoorFnExactTxtLinesPr35
import Derived.Test.YtcjpojppbmlfaaaDoorFnExactTxtLinesPr59
import Derived.Test.YtcjpojppbmlfaaaDoorFnExactTxtLinesPr39
import Derived.Test.YtcjpojppbmlfaaaDoorFnExactTxtLinesPr40
import Derived.Test.YtcjpojppbmlfaaaDoorFnExactTxtLinesPr36
import Derived.Test.YtcjpojppbmlfaaaDoorFnExactTxtLinesPr37
import Derived.Test.YtcjpojppbmlfaaaDoorFnExactTxtLinesPr38
import Derived.Test.YtcjpojppbmlfaaaDoorFnExactTxtLinesPr60
import Derived.Test.YtcjpojppbmlfaaaDoorFnExactTxtLinesPr32
import Derived.Test.YtcjpojppbmlfaaaDoorFnExactTxtLinesPr33
import Derived.Test.YtcjpojppbmlfaaaDoorFnExactTxtLinesPr58
import Derived.Test.YtcjpojppbmlfaaaDoorFnExactTxtLinesPr13
set_option linter.unusedVariables false
set_option linter.unusedSimpArgs false
namespace Go.Proofs.YtcjpojppbmlfaaaDoor.Pure
open Go.RowKit Go.Proofs.YtcjpojppbmlfaaaDoor.Pr Go.Proofs.YtcjpojppbmlfaaaDoorW.PrintWords Go.Proofs.YtcjpojppbmlfaaaDoorW.PrintLast Go.Proofs.YtcjpojppbmlfaaaDoorW.PrintMore
theorem evIf {α : Type} {c : Prop} [Decidable c] {g f : Nat → Option α} {r : α} (hc : c) (h : Ev g r) : Ev (fun k => if c then g k else f k) r :=
  Ev.congr (fun _ => if_pos hc) h
theorem evElse {α : Type} {c : Prop} [Decidable c] {g f : Nat → Option α} {r : α} (hc : ¬ c) (h : Ev f r) : Ev (fun k => if c then g k else f k) r :=
  Ev.congr (fun _ => if_neg hc) h
theorem evSome {α β : Type} {a : α} {f : Nat → α → Option β} {r : β} (h : Ev (fun k => f k a) r) : Ev (fun k => (some a).bind (f k)) r := h
theorem evNow {α : Type} {g : Option α} {r : α} (h : g = some r) : Ev (fun _ => g) r := ⟨0, fun _ _ => h⟩
theorem evBindC {α β : Type} {g : Option α} {f : Nat → α → Option β} {a : α} {r : β} (h : g = some a) (k : Ev (fun n => f n a) r) : Ev (fun n => g.bind (f n)) r := by
  subst h; exact k
theorem l1In_eq (a b c : Int) : spec_l1In.f a b c = some (decide (b ≤ a) && decide (a ≤ c)) := by
  unfold spec_l1In.f; by_cases h : a ≥ b <;> simp [h] <;> omega
theorem w64 {x : Int} (h : -9223372036854775808 ≤ x) (h2 : x ≤ 9223372036854775807) : wrap64 x = x := by unfold wrap64; omega
def Run {α : Type} (g : Nat → Option α) (Q : α → Prop) : Prop := ∃ r, Ev g r ∧ Q r
theorem Run.ret {α : Type} {r : α} {Q : α → Prop} (h : Q r) : Run (fun _ => some r) Q := ⟨r, Ev.now r, h⟩
theorem Run.bind {α β : Type} {g : Nat → Option α} {f : Nat → α → Option β} {Q : α → Prop} {R : β → Prop} (h : Run g Q) (k : ∀ a, Q a → Run (fun n => f n a) R) : Run (fun n => (g n).bind (f n)) R := by
  obtain ⟨a, ha, qa⟩ := h
  obtain ⟨b, hb, rb⟩ := k a qa
  exact ⟨b, ha.bind hb, rb⟩
theorem Run.evBind {α β : Type} {g : Nat → Option α} {f : Nat → α → Option β} {a : α} {R : β → Prop} (h : Ev g a) (k : Run (fun n => f n a) R) : Run (fun n => (g n).bind (f n)) R := by
  obtain ⟨b, hb, rb⟩ := k
  exact ⟨b, h.bind hb, rb⟩
theorem Run.some {α β : Type} {a : α} {f : Nat → α → Option β} {R : β → Prop} (k : Run (fun n => f n a) R) : Run (fun n => (Option.some a).bind (f n)) R := k
theorem Run.ite {α : Type} {c : Prop} [Decidable c] {g f : Nat → Option α} {Q : α → Prop} (h : c → Run g Q) (k : ¬ c → Run f Q) : Run (fun n => if c then g n else f n) Q := by
  by_cases hc : c
  · obtain ⟨r, e, q⟩ := h hc; exact ⟨r, evIf hc e, q⟩
  · obtain ⟨r, e, q⟩ := k hc; exact ⟨r, evElse hc e, q⟩
theorem Run.pos {α : Type} {c : Prop} [Decidable c] {g f : Nat → Option α} {Q : α → Prop} (hc : c) (h : Run g Q) : Run (fun n => if c then g n else f n) Q := Run.ite (fun _ => h) (fun k => absurd hc k)
theorem Run.neg {α : Type} {c : Prop} [Decidable c] {g f : Nat → Option α} {Q : α → Prop} (hc : ¬ c) (h : Run f Q) : Run (fun n => if c then g n else f n) Q := Run.ite (fun k => absurd k hc) (fun _ => h)
theorem Run.step {α : Type} {g f : Nat → Option α} {Q : α → Prop} (h : ∀ k, g (k + 1) = f k) (k : Run f Q) : Run g Q := by
  obtain ⟨r, e, q⟩ := k; exact ⟨r, Ev.step h e, q⟩
theorem Run.get {α : Type} {g : Nat → Option α} {r : α} (h : Run g (· = r)) : ∃ k, g k = Option.some r := by
  obtain ⟨r', e, rfl⟩ := h; exact e.rounds
theorem Ev.run {α : Type} {g : Nat → Option α} {r : α} (h : Ev g r) : Run g (· = r) := ⟨r, h, rfl⟩
end Go.Proofs.YtcjpojppbmlfaaaDoor.Pure
set_option linter.unusedVariables false
set_option linter.unusedSimpArgs false
namespace Go.Proofs.YtcjpojppbmlfaaaDoor.Pure
open Go.RowKit Go.Proofs.YtcjpojppbmlfaaaDoor.Pr Go.Proofs.YtcjpojppbmlfaaaDoorW.PrintWords Go.Proofs.YtcjpojppbmlfaaaDoorW.PrintLast Go.Proofs.YtcjpojppbmlfaaaDoorW.PrintMore
theorem wnext {n i : Nat} (h : i < n) (hn : n ≤ 9223372036854775807) : wrap64 ((i : Int) + 1) = ((i + 1 : Nat) : Int) := by
  rw [w64 (by omega) (by omega)]; omega
theorem dropCons {α : Type} (l : List α) (i : Nat) (h : i < l.length) : l.drop i = l[i] :: l.drop (i + 1) := List.drop_eq_getElem_cons h
end Go.Proofs.YtcjpojppbmlfaaaDoor.Pure
set_option linter.unusedVariables false
set_option linter.unusedSimpArgs false
namespace Go.Proofs.YtcjpojppbmlfaaaDoor.Pure
open Go.RowKit Go.Proofs.YtcjpojppbmlfaaaDoor.Pr Go.Proofs.YtcjpojppbmlfaaaDoorW.PrintWords Go.Proofs.YtcjpojppbmlfaaaDoorW.PrintLast Go.Proofs.YtcjpojppbmlfaaaDoorW.PrintMore
theorem allLoop (n : Nat) (hn : n ≤ 9223372036854775807) (F : Nat → Int → Option Bool) (g : Nat → Int → Option Bool)
    (hF : ∀ k (i : Nat), i < n → F (k + 1) (i : Int) = ((g k (i : Int)).bind fun t => if t = true then F k (wrap64 ((i : Int) + 1)) else some false))
    (hE : ∀ k, F (k + 1) (n : Int) = some true) (p : Nat → Bool)
    (hg : ∀ (i : Nat), i < n → Ev (fun k => g k (i : Int)) (p i)) : ∀ (d i : Nat), i + d = n → Ev (fun k => F k (i : Int)) ((List.range' i d).all p) := by
  intro d
  induction d with
  | zero =>
    intro i hi
    obtain rfl : i = n := by omega
    exact Ev.step (fun k => hE k) (evNow rfl)
  | succ d ih =>
    intro i hi
    refine Ev.step (fun k => hF k i (by omega)) (Ev.bind (hg i (by omega)) ?_)
    rw [List.range'_succ, List.all_cons]
    cases hp : p i with
    | false => exact evElse (by simp) (evNow (by simp))
    | true =>
      refine evIf rfl ?_
      rw [wnext (n := n) (by omega) hn]
      simpa using ih (i + 1) (by omega)
theorem allLoop0 (n : Nat) (hn : n ≤ 9223372036854775807) (F : Nat → Int → Option Bool) (g : Nat → Int → Option Bool)
    (hF : ∀ k (i : Nat), i < n → F (k + 1) (i : Int) = ((g k (i : Int)).bind fun t => if t = true then F k (wrap64 ((i : Int) + 1)) else some false))
    (hE : ∀ k, F (k + 1) (n : Int) = some true) (hg : ∀ (i : Nat), i < n → Ev (fun k => g k (i : Int)) true) : Ev (fun k => F k 0) true := by
  have := allLoop n hn F g hF hE (fun _ => true) hg n 0 (by omega)
  have e : (List.range' 0 n).all (fun _ => true) = true := by rw [List.all_eq_true]; exact fun _ _ => rfl
  rw [e] at this
  exact this
end Go.Proofs.YtcjpojppbmlfaaaDoor.Pure
set_option linter.unusedVariables false
set_option linter.unusedSimpArgs false
namespace Go.Proofs.YtcjpojppbmlfaaaDoor.Pure
open Go.RowKit Go.Proofs.YtcjpojppbmlfaaaDoor.Pr Go.Proofs.YtcjpojppbmlfaaaDoorW.PrintWords Go.Proofs.YtcjpojppbmlfaaaDoorW.PrintLast Go.Proofs.YtcjpojppbmlfaaaDoorW.PrintMore
def bl (s : ByteArray) : List UInt8 := s.data.toList
theorem bl_len (s : ByteArray) : s.size = (bl s).length := Go.Lib.size_eq s
theorem bl_mk (l : List UInt8) : bl (⟨l.toArray⟩ : ByteArray) = l := rfl
theorem bl_ext {s t : ByteArray} (h : bl s = bl t) : s = t := by
  have : s.data = t.data := by rw [← Array.toArray_toList (xs := s.data), ← Array.toArray_toList (xs := t.data)]; exact congrArg List.toArray h
  cases s; cases t; simp only at this; subst this; rfl
theorem bl_app (s t : ByteArray) : bl (s ++ t) = bl s ++ bl t := by simp [bl]
theorem bt_bl (s : ByteArray) (i : Nat) (h : i < (bl s).length) : bt s (i : Int) = ((bl s)[i].toNat : Int) := by
  unfold bt
  have hs : i < s.size := by rw [bl_len]; exact h
  rw [Int.toNat_natCast, dif_pos hs]
  rfl
theorem rdS (l : List ByteArray) (i : Nat) (h : i < l.length) : rdOf ByteArray.empty l (i : Int) = l[i] := by unfold rdOf; simp [h]
theorem toList_nil (s : ByteArray) : s.toList = [] ↔ bl s = [] := by rw [Go.Lib.toList_data]; rfl
theorem byte32 {b : UInt8} : ((b.toNat : Int) = 32) ↔ b = 32 := by
  constructor
  · intro h
    have : b.toNat = 32 := by omega
    exact UInt8.toNat_inj.mp (by rw [this]; rfl)
  · rintro rfl; rfl
theorem cutL_le : ∀ (l w : List UInt8), w ∈ cutL l → w.length ≤ l.length := by
  intro l
  induction l with
  | nil => intro w h; simp [cutL] at h; subst h; simp
  | cons b l ih =>
    intro w h
    by_cases hb : b = 32
    · subst hb
      rw [cutL_blank] at h
      rcases List.mem_cons.mp h with rfl | h
      · simp
      · have := ih w h; simp; omega
    · obtain ⟨v, vs, e⟩ := cutL_ne l
      rw [cutL_other hb e] at h
      rcases List.mem_cons.mp h with rfl | h
      · have := ih v (by rw [e]; simp); simp; omega
      · have := ih w (by rw [e]; simp [h]); simp; omega
theorem cutB_le (s w : ByteArray) (h : w ∈ cutB s) : w.size ≤ s.size := by
  obtain ⟨l, hl, rfl⟩ := List.mem_map.mp h
  rw [bl_len, bl_len, bl_mk]
  exact cutL_le _ _ hl
def goodB (w : ByteArray) : Bool := goodW (bl w)
theorem cutB_good (s : ByteArray) : (cutB s).all goodB = (cutL (bl s)).all goodW := by
  unfold cutB
  rw [List.all_map]; rfl
def txtOk (s : ByteArray) : Bool := txtOkL (bl s)
theorem txtOk_le {s : ByteArray} (h : txtOk s = true) : s.size ≤ 30 := by
  unfold txtOk txtOkL at h
  rw [bl_len]
  rcases Bool.or_eq_true_iff.mp h with h | h
  · have : bl s = [] := by simpa using h
    rw [this]; simp
  · rw [Bool.and_eq_true] at h; simpa using h.1
theorem trim_ok (w : ByteArray) (h : w.size ≤ 9223372036854775807) : strings_Trim.f w (⟨#[97, 98, 99, 100, 101, 102, 103, 104, 105, 106, 107, 108, 109, 110, 111, 112, 113, 114, 115, 116, 117, 118, 119, 120, 121, 122]⟩ : ByteArray) = some ⟨(Go.Lib.trimS (bl w) letters26).toArray⟩ := by
  unfold strings_Trim.f
  rw [if_pos ⟨rfl, h⟩]; rfl
theorem implTxtOk (s : ByteArray) (h : s.size < 4294967281) : Ev (fun k => impl_TxtOk.f k s) (txtOk s) := by
  unfold impl_TxtOk.f txtOk txtOkL
  by_cases h0 : bl s = []
  · refine evIf ((toList_nil s).mpr h0) (evNow ?_)
    rw [h0]; rfl
  · refine evElse (fun e => h0 ((toList_nil s).mp e)) ?_
    refine evBindC (show strings_Split.f s (⟨#[32]⟩ : ByteArray) = some (cutB s) by unfold strings_Split.f; rw [if_pos ⟨rfl, h⟩]) ?_
    have hn : (cutB s).length ≤ s.size + 1 := by
      have := List.count_le_length (a := (32 : UInt8)) (l := bl s)
      rw [show (cutB s).length = (bl s).count 32 + 1 by rw [cutB, List.length_map, cutL_length]; rfl, bl_len]; omega
    have loop : ∀ (d i : Nat), i + d = (cutB s).length → Ev (fun k => impl_TxtOk.l0 k s (cutB s) ((cutB s).length : Int) i) (((cutB s).drop i).all goodB && decide ((s.size : Int) ≤ 30)) := by
      intro d
      induction d with
      | zero =>
        intro i hi
        obtain rfl : i = (cutB s).length := by omega
        rw [List.drop_length]
        refine Ev.step (fun k => by rw [impl_TxtOk.l0]) ?_
        exact evElse (by omega) (evNow (by simp))
      | succ d ih =>
        intro i hi
        have hlt : i < (cutB s).length := by omega
        have hw : (cutB s)[i].size ≤ s.size := cutB_le s _ (List.getElem_mem _)
        rw [dropCons _ i hlt, List.all_cons]
        refine Ev.step (fun k => by rw [impl_TxtOk.l0]) (evIf (by omega) (evIf (by omega) (evIf (by omega) ?_)))
        rw [rdS _ i hlt]
        generalize (cutB s)[i] = w at hw ⊢
        by_cases he : bl w = []
        · refine evIf ((toList_nil w).mpr he) (evNow ?_)
          simp [goodB, goodW, he]
        · refine evElse (fun e => he ((toList_nil w).mp e)) (evBindC (trim_ok w (by omega)) ?_)
          have ht := trim_empty (bl w)
          have he' : (bl w).isEmpty = false := by simpa using he
          have hg : goodB w = (bl w).all letter := by simp [goodB, goodW, he']
          rw [hg, ← ht]
          cases hc : (Go.Lib.trimS (bl w) letters26).isEmpty with
          | true =>
            refine evIf ((toList_nil _).mpr (by rw [bl_mk]; simpa using hc)) ?_
            rw [wnext (n := (cutB s).length) (by omega) (by omega)]
            simpa using ih (i + 1) (by omega)
          | false =>
            refine evElse (fun e => ?_) (evNow (by simp))
            have := (toList_nil _).mp e
            rw [bl_mk] at this
            rw [this] at hc; simp at hc
    have := loop (cutB s).length 0 (by omega)
    rw [List.drop_zero, cutB_good] at this
    have he : (bl s).isEmpty = false := by simpa using h0
    have hd : decide ((s.size : Int) ≤ 30) = decide ((bl s).length ≤ 30) := by rw [← bl_len]; exact decide_eq_decide.mpr (by omega)
    rw [he, Bool.false_or, Bool.and_comm, ← hd]
    exact this
theorem specTxtOk (s : ByteArray) (h : s.size ≤ 9223372036854775807) : Ev (fun k => spec_TxtOk.f k s) (txtOk s) := by
  unfold spec_TxtOk.f txtOk txtOkL
  have hsz := bl_len s
  by_cases h30 : (s.size : Int) > 30
  · refine evIf h30 (evNow ?_)
    have h1 : (bl s).isEmpty = false := by
      cases hb : bl s with
      | nil => rw [hsz, hb] at h30; simp at h30
      | cons _ _ => rfl
    have h2 : decide ((bl s).length ≤ 30) = false := decide_eq_false (by omega)
    rw [h1, h2]; rfl
  · refine evElse h30 ?_
    have hd : decide ((bl s).length ≤ 30) = true := decide_eq_true (by omega)
    have loop : ∀ (d i : Nat) (p : Bool), i + d = (bl s).length → (i = 0 → p = true) → (∀ j, i = j + 1 → ∀ b, (bl s)[j]? = some b → (p = true ↔ b = 32)) → (d = 0 → p = false) → Ev (fun k => spec_TxtOk.l0 k s i) (okFrom p ((bl s).drop i)) := by
      intro d
      induction d with
      | zero =>
        intro i p hi _ _ hp
        rw [hp rfl, show i = (bl s).length by omega, List.drop_length]
        refine Ev.step (fun k => by rw [spec_TxtOk.l0]) ?_
        exact evElse (by omega) (evNow rfl)
      | succ d ih =>
        intro i p hi h0 hprev _
        have hlt : i < (bl s).length := by omega
        have hx : (bl s)[i]? = some (bl s)[i] := by simp [hlt]
        rw [dropCons _ i hlt, okFrom]
        refine Ev.step (fun k => by rw [spec_TxtOk.l0]) (evIf (by omega) (evIf (by omega) ?_))
        have hb := bt_bl s i hlt
        rw [hb]
        have bad : Ev (fun k => spec_TxtOk.j1 k s i true) false := by
          refine Ev.step (fun k => by rw [spec_TxtOk.j1]) ?_
          exact evIf rfl (evNow rfl)
        generalize hbe : (bl s)[i] = b at hx hb ⊢
        have en := wnext (n := (bl s).length) (i := i) (by omega) (by omega)
        have hx' : ∀ q : Bool, (q = true ↔ b = 32) → ∀ j, i + 1 = j + 1 → ∀ b', (bl s)[j]? = some b' → (q = true ↔ b' = 32) := by
          intro q hq j hj b' hb'
          obtain rfl : j = i := by omega
          rw [hx] at hb'; cases hb'; exact hq
        by_cases h32 : b = 32
        · subst h32
          rw [if_pos rfl]
          have good : i + 1 < (bl s).length → Ev (fun k => spec_TxtOk.j1 k s i false) (okFrom true ((bl s).drop (i + 1))) := by
            intro hlt2
            refine Ev.step (fun k => by rw [spec_TxtOk.j1]) ?_
            refine evElse (by simp) (evIf (by omega) (evIf (by omega) ?_))
            rw [hb]
            refine evIf (by rfl) ?_
            rw [en]
            exact ih (i + 1) true (by omega) (by omega) (hx' true (by simp)) (by omega)
          refine evIf (by rfl) ?_
          by_cases hi0 : i = 0
          · refine evIf (by omega) ?_
            rw [h0 hi0]
            exact bad
          · refine evElse (by omega) ?_
            have el : wrap64 ((s.size : Int) - 1) = (s.size : Int) - 1 := w64 (by omega) (by omega)
            rw [el]
            by_cases hl : i + 1 = (bl s).length
            · refine evIf (by omega) ?_
              have e2 : (bl s).drop (i + 1) = [] := by rw [hl]; exact List.drop_length
              rw [e2]
              have : (!p && okFrom true []) = false := by simp [okFrom]
              rw [this]
              exact bad
            · refine evElse (by omega) ?_
              obtain ⟨j, rfl⟩ : ∃ j, i = j + 1 := ⟨i - 1, by omega⟩
              have ej : wrap64 (((j + 1 : Nat) : Int) - 1) = (j : Int) := by rw [w64 (by omega) (by omega)]; omega
              rw [ej]
              refine evIf (by omega) (evIf (by omega) ?_)
              have hp := hprev j rfl (bl s)[j] (by simp [show j < (bl s).length by omega])
              rw [bt_bl s j (by omega)]
              cases hpp : p with
              | true =>
                have e3 : (bl s)[j] = 32 := hp.mp hpp
                rw [e3]
                exact bad
              | false =>
                have e3 : ¬ (bl s)[j] = 32 := fun e => by rw [hp.mpr e] at hpp; cases hpp
                have e4 : (((bl s)[j].toNat : Int) == 32) = false := beq_eq_false_iff_ne.mpr (fun e => e3 (byte32.mp e))
                rw [e4]
                simpa using good (by omega)
        · rw [if_neg h32]
          refine evElse (fun e => h32 (byte32.mp e)) ?_
          refine Ev.step (fun k => by rw [spec_TxtOk.j1]) ?_
          refine evElse (by simp) (evIf (by omega) (evIf (by omega) ?_))
          rw [hb]
          refine evElse (fun e => h32 (byte32.mp e)) ?_
          have hr := b.toNat_lt
          rw [w64 (x := (b.toNat : Int)) (by omega) (by omega)]
          refine evBindC (l1In_eq _ _ _) ?_
          have hle : (decide (97 ≤ (b.toNat : Int)) && decide ((b.toNat : Int) ≤ 122)) = letter b := by unfold letter; congr 1 <;> simp <;> omega
          rw [hle]
          cases hll : letter b with
          | false => exact evElse (by simp) (evNow (by simp))
          | true =>
            refine evIf rfl ?_
            rw [en]
            simpa using ih (i + 1) false (by omega) (by omega) (hx' false (by simp [h32])) (fun _ => rfl)
    by_cases h0 : bl s = []
    · rw [h0]
      refine Ev.step (fun k => by rw [spec_TxtOk.l0]) ?_
      have : s.size = 0 := by rw [hsz, h0]; rfl
      exact evElse (by omega) (evNow rfl)
    · have h1 : (bl s).isEmpty = false := by simpa using h0
      have hp : 0 < (bl s).length := List.length_pos_iff.mpr h0
      have := loop (bl s).length 0 true (by omega) (fun _ => rfl) (fun j hj => by omega) (by omega)
      rw [List.drop_zero, okFrom_words] at this
      rw [h1, hd, Bool.false_or, Bool.true_and]
      exact this
end Go.Proofs.YtcjpojppbmlfaaaDoor.Pure
set_option linter.unusedVariables false
set_option linter.unusedSimpArgs false
namespace Go.Proofs.YtcjpojppbmlfaaaDoor.Pure
open Go.RowKit Go.Proofs.YtcjpojppbmlfaaaDoor.Pr Go.Proofs.YtcjpojppbmlfaaaDoorW.PrintWords Go.Proofs.YtcjpojppbmlfaaaDoorW.PrintLast Go.Proofs.YtcjpojppbmlfaaaDoorW.PrintMore
def wordsOf (s : ByteArray) : List ByteArray := if bl s = [] then [] else if txtOk s = true then cutB s else []
theorem one_byteB (s : ByteArray) (i : Nat) (h : i < (bl s).length) : bl (strOfNums [bt s (i : Int)]) = [(bl s)[i]] := by
  rw [bt_bl s i h]
  show (([((bl s)[i].toNat : Int)]).map fun z => UInt8.ofNat z.toNat).toArray.toList = _
  simp
theorem sizeOne (s : ByteArray) (i : Nat) (h : i < (bl s).length) : (strOfNums [bt s (i : Int)]).size = 1 := by
  rw [bl_len, one_byteB s i h]; rfl
def glue (w : ByteArray) : List (List UInt8) → List ByteArray
  | [] => [w]
  | v :: vs => ⟨(bl w ++ v).toArray⟩ :: vs.map fun l => ⟨l.toArray⟩
theorem specCut (s : ByteArray) (h : s.size ≤ 1048576) : Ev (fun k => spec_l1Cut.f k s) (cutB s) := by
  unfold spec_l1Cut.f
  have hsz := bl_len s
  have loop : ∀ (d i : Nat) (out : List ByteArray) (w : ByteArray), i + d = (bl s).length → out.length ≤ i → w.size ≤ i → Ev (fun k => spec_l1Cut.l0 k s out w i) (out ++ glue w (cutL ((bl s).drop i))) := by
    intro d
    induction d with
    | zero =>
      intro i out w hi ho hw
      rw [show i = (bl s).length by omega, List.drop_length]
      refine Ev.step (fun k => by rw [spec_l1Cut.l0]) ?_
      refine evElse (by omega) (evIf (by omega) (evNow ?_))
      have : glue w (cutL []) = [w] := by
        have e : (⟨(bl w ++ []).toArray⟩ : ByteArray) = w := bl_ext (by rw [List.append_nil, bl_mk])
        show [(⟨(bl w ++ []).toArray⟩ : ByteArray)] = [w]
        rw [e]
      rw [this]
    | succ d ih =>
      intro i out w hi ho hw
      have hlt : i < (bl s).length := by omega
      have en := wnext (n := (bl s).length) (i := i) (by omega) (by omega)
      have hb := bt_bl s i hlt
      have h1 := one_byteB s i hlt
      have h2 := sizeOne s i hlt
      rw [dropCons _ i hlt]
      refine Ev.step (fun k => by rw [spec_l1Cut.l0]) (evIf (by omega) (evIf (by omega) ?_))
      by_cases h32 : (bl s)[i] = 32
      · refine evIf (by rw [hb]; exact byte32.mpr h32) (evIf (by omega) ?_)
        rw [en, h32, cutL_blank]
        have := ih (i + 1) (out ++ [w]) (⟨#[]⟩ : ByteArray) (by omega) (by simp; omega) (by show 0 ≤ i + 1; omega)
        obtain ⟨v, vs, e⟩ := cutL_ne ((bl s).drop (i + 1))
        rw [e] at this ⊢
        have e2 : out ++ glue w ([] :: v :: vs) = out ++ [w] ++ glue (⟨#[]⟩ : ByteArray) (v :: vs) := by
          simp only [glue, List.append_nil, List.map_cons, List.append_assoc, List.singleton_append]
          congr 1
        rw [e2]; exact this
      · refine evElse (by rw [hb]; exact fun e => h32 (byte32.mp e)) ?_
        refine evSome (evIf (by rw [h2]; omega) ?_)
        rw [en]
        have := ih (i + 1) out (w ++ strOfNums [bt s (i : Int)]) (by omega) (by omega) (by rw [bl_len, bl_app, List.length_append, ← bl_len, ← bl_len, h2]; omega)
        obtain ⟨v, vs, e⟩ := cutL_ne ((bl s).drop (i + 1))
        rw [cutL_other h32 e]
        rw [e] at this
        have e2 : glue (w ++ strOfNums [bt s (i : Int)]) (v :: vs) = glue w (((bl s)[i] :: v) :: vs) := by
          unfold glue
          rw [bl_app, h1]; simp
        rw [e2] at this; exact this
  have := loop (bl s).length 0 [] (⟨#[]⟩ : ByteArray) (by omega) (by simp) (by show 0 ≤ 0; omega)
  rw [List.drop_zero, List.nil_append] at this
  have e : glue (⟨#[]⟩ : ByteArray) (cutL (bl s)) = cutB s := by
    unfold cutB
    obtain ⟨v, vs, e⟩ := cutL_ne (bl s)
    rw [show s.data.toList = bl s from rfl, e]; rfl
  rw [e] at this
  exact this
theorem specWords (s : ByteArray) (h : s.size ≤ 9223372036854775807) : Ev (fun k => spec_TxtWords.f k s) (wordsOf s) := by
  unfold spec_TxtWords.f wordsOf
  by_cases h0 : bl s = []
  · rw [if_pos h0]; exact evIf ((toList_nil s).mpr h0) (evNow rfl)
  · rw [if_neg h0]
    refine evElse (fun e => h0 ((toList_nil s).mp e)) ((specTxtOk s h).bind ?_)
    cases ho : txtOk s with
    | false => exact evElse (by simp) (evNow rfl)
    | true => have := txtOk_le ho; exact evIf rfl ((specCut s (by omega)).bind (evNow rfl))
theorem implWords (s : ByteArray) (h : s.size < 4294967281) : Ev (fun k => impl_TxtWords.f k s) (wordsOf s) := by
  unfold impl_TxtWords.f wordsOf
  by_cases h0 : bl s = []
  · rw [if_pos h0]; exact evIf ((toList_nil s).mpr h0) (evNow rfl)
  · rw [if_neg h0]
    refine evElse (fun e => h0 ((toList_nil s).mp e)) ((implTxtOk s h).bind ?_)
    cases ho : txtOk s with
    | false => exact evElse (by simp) (evNow rfl)
    | true => exact evIf rfl (evBindC (show strings_Split.f s (⟨#[32]⟩ : ByteArray) = some (cutB s) by unfold strings_Split.f; rw [if_pos ⟨rfl, h⟩]) (evNow rfl))
end Go.Proofs.YtcjpojppbmlfaaaDoor.Pure
set_option linter.unusedVariables false
set_option linter.unusedSimpArgs false
namespace Go.Proofs.YtcjpojppbmlfaaaDoor.Pure
open Go.RowKit Go.Proofs.YtcjpojppbmlfaaaDoor.Pr Go.Proofs.YtcjpojppbmlfaaaDoorW.PrintWords Go.Proofs.YtcjpojppbmlfaaaDoorW.PrintLast Go.Proofs.YtcjpojppbmlfaaaDoorW.PrintMore
abbrev Wd := List UInt8
def joinL : List Wd → Wd
  | [] => []
  | [v] => v
  | v :: u :: vs => v ++ 32 :: joinL (u :: vs)
theorem joinL_cons (v : Wd) {vs : List Wd} (h : vs ≠ []) : joinL (v :: vs) = v ++ 32 :: joinL vs := by
  cases vs with
  | nil => exact absurd rfl h
  | cons u vs => rfl
theorem joinL_app : ∀ (a b : List Wd), a ≠ [] → b ≠ [] → joinL (a ++ b) = joinL a ++ 32 :: joinL b
  | [v], b, _, hb => by rw [List.singleton_append, joinL_cons v hb]; rfl
  | v :: u :: a, b, _, hb => by
    rw [List.cons_append, joinL_cons v (by simp), joinL_app (u :: a) b (by simp) hb, joinL_cons v (by simp)]
    simp
theorem joinL_snoc {g : List Wd} (v : Wd) (h : g ≠ []) : joinL (g ++ [v]) = joinL g ++ 32 :: v := joinL_app g [v] h (by simp)
theorem joinL_len (v : Wd) (g : List Wd) (h : g ≠ []) : (joinL (g ++ [v])).length = (joinL g).length + 1 + v.length := by
  rw [joinL_snoc v h]; simp; omega
def grpFrom (w : Int) : List Wd → List Wd → List (List Wd)
  | cur, [] => [cur]
  | cur, v :: vs => if ((joinL cur).length : Int) + 1 + (v.length : Int) ≤ w then grpFrom w (cur ++ [v]) vs else cur :: grpFrom w [v] vs
def grps (w : Int) : List Wd → List (List Wd)
  | [] => []
  | v :: vs => grpFrom w [v] vs
end Go.Proofs.YtcjpojppbmlfaaaDoor.Pure
set_option linter.unusedVariables false
set_option linter.unusedSimpArgs false
namespace Go.Proofs.YtcjpojppbmlfaaaDoor.Pure
open Go.RowKit Go.Proofs.YtcjpojppbmlfaaaDoor.Pr Go.Proofs.YtcjpojppbmlfaaaDoorW.PrintWords Go.Proofs.YtcjpojppbmlfaaaDoorW.PrintLast Go.Proofs.YtcjpojppbmlfaaaDoorW.PrintMore
def mkB (l : Wd) : ByteArray := ⟨l.toArray⟩
theorem bl_mkB (l : Wd) : bl (mkB l) = l := rfl
theorem mkB_size (l : Wd) : (mkB l).size = l.length := by rw [bl_len]; rfl
def wordsL (s : ByteArray) : List Wd := if bl s = [] then [] else if txtOk s = true then cutL (bl s) else []
theorem wordsOf_L (s : ByteArray) : wordsOf s = (wordsL s).map mkB := by
  unfold wordsOf wordsL cutB
  split
  · rfl
  · split <;> rfl
theorem wordsL_len (s : ByteArray) : (wordsL s).length ≤ 31 ∧ ∀ w ∈ wordsL s, w.length ≤ 30 := by
  unfold wordsL
  split
  · exact ⟨by simp, fun w h => by cases h⟩
  · split
    · rename_i hok
      have h30 := txtOk_le hok
      rw [bl_len] at h30
      refine ⟨?_, fun w hw => by have := cutL_le _ _ hw; omega⟩
      rw [cutL_length]
      have := List.count_le_length (a := (32 : UInt8)) (l := bl s)
      omega
    · exact ⟨by simp, fun w h => by cases h⟩
def lineB (g : List Wd) : ByteArray := mkB (joinL g)
def linesOf (s : ByteArray) (w : Int) : List ByteArray := (grps w (wordsL s)).map lineB
theorem setLast {α : Type} (l : List α) (c x : α) : (l ++ [c]).set l.length x = l ++ [x] := by
  rw [List.set_append_right _ _ (Nat.le_refl _), Nat.sub_self]; rfl
theorem rdLast (l : List ByteArray) (c : ByteArray) : rdOf ByteArray.empty (l ++ [c]) ((l.length : Nat) : Int) = c := by
  rw [rdS _ l.length (by simp)]; simp
theorem lineSnoc (cur : List Wd) (v : Wd) (h : cur ≠ []) : (lineB cur ++ (⟨#[32]⟩ : ByteArray)) ++ mkB v = lineB (cur ++ [v]) := by
  apply bl_ext
  unfold lineB
  rw [bl_app, bl_app, bl_mkB, bl_mkB, bl_mkB, joinL_snoc v h]
  show (joinL cur ++ [32]) ++ v = _
  simp
theorem lineSnoc2 (cur : List Wd) (v : Wd) (h : cur ≠ []) : lineB cur ++ ((⟨#[32]⟩ : ByteArray) ++ mkB v) = lineB (cur ++ [v]) := by
  apply bl_ext
  unfold lineB
  rw [bl_app, bl_app, bl_mkB, bl_mkB, bl_mkB, joinL_snoc v h]
  rfl
theorem rdWord (s : ByteArray) (i : Nat) (h : i < (wordsL s).length) : rdOf ByteArray.empty (wordsOf s) (i : Int) = mkB (wordsL s)[i] := by
  rw [wordsOf_L, rdS _ i (by simpa using h), List.getElem_map]
theorem lineW {a b : Nat} (ha : a ≤ 10000) (hb : b ≤ 10000) : wrap64 ((a : Int) + 1) = (a : Int) + 1 ∧ wrap64 ((a : Int) + 1 + (b : Int)) = (a : Int) + 1 + (b : Int) := ⟨w64 (by omega) (by omega), w64 (by omega) (by omega)⟩
theorem specLines (s : ByteArray) (w : Int) (h : s.size ≤ 1048576) : Ev (fun k => spec_TxtLines.f k s w) (linesOf s w) := by
  unfold spec_TxtLines.f linesOf
  refine (specWords s (by omega)).bind ?_
  obtain ⟨hn, hw⟩ := wordsL_len s
  have hl : (wordsOf s).length = (wordsL s).length := by rw [wordsOf_L, List.length_map]
  have loop : ∀ (d i : Nat) (done : List ByteArray) (cur : List Wd), i + d = (wordsL s).length → cur ≠ [] → (joinL cur).length ≤ 31 * i → done.length ≤ i → Ev (fun k => spec_TxtLines.l0 k w (wordsOf s) (done ++ [lineB cur]) i) (done ++ (grpFrom w cur ((wordsL s).drop i)).map lineB) := by
    intro d
    induction d with
    | zero =>
      intro i done cur hi h0 hc hd
      rw [show i = (wordsL s).length by omega, List.drop_length]
      refine Ev.step (fun k => by rw [spec_TxtLines.l0]) ?_
      exact evElse (by omega) (evNow rfl)
    | succ d ih =>
      intro i done cur hi h0 hc hd
      have hlt : i < (wordsL s).length := by omega
      have hv := hw _ (List.getElem_mem hlt)
      rw [dropCons _ i hlt, grpFrom]
      have ln : ((done ++ [lineB cur]).length : Int) = (done.length : Int) + 1 := by simp
      have el : wrap64 (((done ++ [lineB cur]).length : Int) - 1) = (done.length : Int) := by rw [ln, w64 (by omega) (by omega)]; omega
      have en := wnext (n := (wordsL s).length) (i := i) (by omega) (by omega)
      have hs1 : (lineB cur).size = (joinL cur).length := mkB_size _
      have hrd := rdWord s i hlt
      generalize (wordsL s)[i] = v at hv hrd ⊢
      have hs2 : (mkB v).size = v.length := mkB_size _
      obtain ⟨e1, e2⟩ := lineW (a := (joinL cur).length) (b := v.length) (by omega) (by omega)
      refine Ev.step (fun k => by rw [spec_TxtLines.l0]) ?_
      rw [el, rdLast, hrd, hs1, hs2, e1, e2, en]
      clear el e1 e2 en hrd hs2
      refine evIf (by omega) (evIf (by omega) (evIf (by omega) (evIf (by omega) (evIf (by omega) ?_))))
      by_cases hf : ((joinL cur).length : Int) + 1 + (v.length : Int) ≤ w
      · rw [if_pos hf]
        refine evIf hf (evIf (by omega) (evIf ?_ ?_))
        · rw [bl_len, bl_app, List.length_append, ← bl_len, hs1]
          show (joinL cur).length + 1 + _ ≤ _
          omega
        · rw [Int.toNat_natCast, setLast, lineSnoc cur _ h0]
          exact ih (i + 1) done (cur ++ [v]) (by omega) (by simp) (by rw [joinL_len _ _ h0]; omega) (by omega)
      · rw [if_neg hf]
        refine evElse hf (evIf (by simp; omega) ?_)
        have := ih (i + 1) (done ++ [lineB cur]) [v] (by omega) (by simp) (by show v.length ≤ _; omega) (by simp; omega)
        have ee : done ++ lineB cur :: (grpFrom w [v] ((wordsL s).drop (i + 1))).map lineB = done ++ [lineB cur] ++ (grpFrom w [v] ((wordsL s).drop (i + 1))).map lineB := by simp
        rw [List.map_cons, ee]
        exact this
  cases hws : wordsL s with
  | nil =>
    have hz : (wordsOf s).length = 0 := by rw [hl, hws]; rfl
    refine Ev.step (fun k => by rw [spec_TxtLines.l0]) ?_
    exact evElse (by rw [hz]; simp) (evNow rfl)
  | cons v vs =>
    have hlt : 0 < (wordsL s).length := by rw [hws]; simp
    have e0 : (wordsL s)[0] = v := by simp [hws]
    have hv := hw _ (List.getElem_mem hlt)
    refine Ev.step (fun k => by rw [spec_TxtLines.l0]) ?_
    have := loop ((wordsL s).length - 1) 1 [] [v] (by omega) (by simp) (by show v.length ≤ _; rw [← e0]; omega) (by simp)
    refine evIf (by omega) (evElse (by simp) (evIf (by omega) (evIf (by simp) ?_)))
    have er : rdOf ByteArray.empty (wordsOf s) 0 = mkB v := by rw [← e0]; exact rdWord s 0 hlt
    rw [er, show wrap64 (0 + 1) = ((1 : Nat) : Int) from w64 (by omega) (by omega)]
    have ed : (wordsL s).drop 1 = vs := by rw [hws]; rfl
    rw [ed] at this
    exact this
theorem implLines (s : ByteArray) (w : Int) (h : s.size < 4294967281) : Ev (fun k => impl_TxtLines.f k s w) (linesOf s w) := by
  unfold impl_TxtLines.f linesOf
  refine (implWords s h).bind ?_
  obtain ⟨hn, hw⟩ := wordsL_len s
  have hl : (wordsOf s).length = (wordsL s).length := by rw [wordsOf_L, List.length_map]
  have loop : ∀ (d i : Nat) (done : List ByteArray) (cur : List Wd), i + d = (wordsL s).length → cur ≠ [] → (joinL cur).length ≤ 31 * i → done.length ≤ i → Ev (fun k => impl_TxtLines.l0 k w (done ++ [lineB cur]) (wordsOf s) ((wordsOf s).length : Int) i) (done ++ (grpFrom w cur ((wordsL s).drop i)).map lineB) := by
    intro d
    induction d with
    | zero =>
      intro i done cur hi h0 hc hd
      rw [show i = (wordsL s).length by omega, List.drop_length]
      refine Ev.step (fun k => by rw [impl_TxtLines.l0]) ?_
      exact evElse (by omega) (evNow rfl)
    | succ d ih =>
      intro i done cur hi h0 hc hd
      have hlt : i < (wordsL s).length := by omega
      have hv := hw _ (List.getElem_mem hlt)
      rw [dropCons _ i hlt, grpFrom]
      have ln : ((done ++ [lineB cur]).length : Int) = (done.length : Int) + 1 := by simp
      have el : wrap64 (((done ++ [lineB cur]).length : Int) - 1) = (done.length : Int) := by rw [ln, w64 (by omega) (by omega)]; omega
      have en := wnext (n := (wordsL s).length) (i := i) (by omega) (by omega)
      have hs1 : (lineB cur).size = (joinL cur).length := mkB_size _
      have hrd := rdWord s i hlt
      generalize (wordsL s)[i] = v at hv hrd ⊢
      have hs2 : (mkB v).size = v.length := mkB_size _
      obtain ⟨e1, e2⟩ := lineW (a := (joinL cur).length) (b := v.length) (by omega) (by omega)
      refine Ev.step (fun k => by rw [impl_TxtLines.l0]) ?_
      rw [el, rdLast, hrd, hs1, hs2, e1, e2, en]
      clear el e1 e2 en hrd hs2
      refine evIf (by omega) (evIf (by omega) (evIf (by omega) (evIf (by omega) (evIf (by omega) (evIf (by omega) ?_)))))
      by_cases hf : ((joinL cur).length : Int) + 1 + (v.length : Int) ≤ w
      · rw [if_pos hf]
        refine evIf hf (evIf (by omega) (evIf ?_ ?_))
        · rw [show ((⟨#[32]⟩ : ByteArray) ++ mkB v).size = 1 + v.length by rw [bl_len, bl_app, List.length_append, bl_mkB]; rfl]
          omega
        · rw [Int.toNat_natCast, setLast, lineSnoc2 cur _ h0]
          exact ih (i + 1) done (cur ++ [v]) (by omega) (by simp) (by rw [joinL_len _ _ h0]; omega) (by omega)
      · rw [if_neg hf]
        refine evElse hf (evIf (by simp; omega) ?_)
        have := ih (i + 1) (done ++ [lineB cur]) [v] (by omega) (by simp) (by show v.length ≤ _; omega) (by simp; omega)
        have ee : done ++ lineB cur :: (grpFrom w [v] ((wordsL s).drop (i + 1))).map lineB = done ++ [lineB cur] ++ (grpFrom w [v] ((wordsL s).drop (i + 1))).map lineB := by simp
        rw [List.map_cons, ee]
        exact this
  cases hws : wordsL s with
  | nil =>
    have hz : (wordsOf s).length = 0 := by rw [hl, hws]; rfl
    refine Ev.step (fun k => by rw [impl_TxtLines.l0]) ?_
    exact evElse (by rw [hz]; simp) (evNow rfl)
  | cons v vs =>
    have hlt : 0 < (wordsL s).length := by rw [hws]; simp
    have e0 : (wordsL s)[0] = v := by simp [hws]
    have hv := hw _ (List.getElem_mem hlt)
    refine Ev.step (fun k => by rw [impl_TxtLines.l0]) ?_
    have := loop ((wordsL s).length - 1) 1 [] [v] (by omega) (by simp) (by show v.length ≤ _; rw [← e0]; omega) (by simp)
    refine evIf (by omega) (evIf (by omega) (evIf (by omega) (evElse (by simp [wrap64]) (evIf (by simp) ?_))))
    have er : rdOf ByteArray.empty (wordsOf s) 0 = mkB v := by rw [← e0]; exact rdWord s 0 hlt
    rw [er, show wrap64 (0 + 1) = ((1 : Nat) : Int) from w64 (by omega) (by omega)]
    have ed : (wordsL s).drop 1 = vs := by rw [hws]; rfl
    rw [ed] at this
    exact this
theorem grps_le (w : Int) (vs : List Wd) : (grps w vs).length ≤ vs.length := by
  have gen : ∀ (vs cur : List Wd), (grpFrom w cur vs).length ≤ vs.length + 1 := by
    intro vs
    induction vs with
    | nil => intro cur; simp [grpFrom]
    | cons v vs ih =>
      intro cur
      unfold grpFrom
      split
      · have := ih (cur ++ [v]); simp; omega
      · have := ih [v]; simp; omega
  cases vs with
  | nil => simp [grps]
  | cons v vs => have := gen vs [v]; simpa [grps] using this
theorem linesOf_le (s : ByteArray) (w : Int) : (linesOf s w).length ≤ 31 := by
  unfold linesOf
  rw [List.length_map]
  have := grps_le w (wordsL s)
  have := (wordsL_len s).1
  omega
end Go.Proofs.YtcjpojppbmlfaaaDoor.Pure
set_option linter.unusedVariables false
set_option linter.unusedSimpArgs false
namespace Go.Proofs.YtcjpojppbmlfaaaDoor.Pure
open Go.RowKit Go.Proofs.YtcjpojppbmlfaaaDoor.Pr Go.Proofs.YtcjpojppbmlfaaaDoorW.PrintWords Go.Proofs.YtcjpojppbmlfaaaDoorW.PrintLast Go.Proofs.YtcjpojppbmlfaaaDoorW.PrintMore
theorem eqStrs (l : List ByteArray) (h : l.length ≤ 9223372036854775807) : Ev (fun k => laws_eqStringS.f k l l) true := by
  unfold laws_eqStringS.f
  refine evIf rfl ?_
  refine allLoop0 l.length h (fun k i => laws_eqStringS.l0 k l l i) (fun _ _ => some true) ?_ ?_ (fun _ _ => evNow rfl)
  · intro k i hi
    show laws_eqStringS.l0 (k + 1) l l i = _
    rw [laws_eqStringS.l0, if_pos (by omega), if_pos (by omega), if_pos (by omega), if_pos rfl]; rfl
  · intro k
    show laws_eqStringS.l0 (k + 1) l l l.length = _
    rw [laws_eqStringS.l0, if_neg (by omega)]
theorem markText (n : Int) (h : n ≤ 1000000000) : ∃ t, Ev (fun k => laws_markText.f k n) t := by
  unfold laws_markText.f
  by_cases h0 : n ≤ 0
  · exact ⟨_, evIf h0 (evNow rfl)⟩
  · have loop : ∀ (d : Nat) (m : Nat) (o : ByteArray), m < 10 ^ d → m ≤ 1000000000 → o.size + d ≤ 100 → ∃ t, Ev (fun k => laws_markText.l0 k (m : Int) o) t := by
      intro d
      induction d with
      | zero =>
        intro m o hm _ ho
        have : m = 0 := by simpa using hm
        subst this
        exact ⟨_, Ev.step (fun k => by rw [laws_markText.l0]) (evElse (by omega) (evIf (by omega) (evNow rfl)))⟩
      | succ d ih =>
        intro m o hm hm9 ho
        by_cases hz : m = 0
        · subst hz
          refine ⟨(⟨#[109]⟩ : ByteArray) ++ o, ?_⟩
          refine Ev.step (fun k => by rw [laws_markText.l0]) ?_
          exact evElse (by omega) (evIf (by omega) (evNow rfl))
        · have e1 : wrap64 (Int.tdiv (m : Int) 10) = ((m / 10 : Nat) : Int) := by
            rw [show Int.tdiv (m : Int) 10 = ((m / 10 : Nat) : Int) from rfl]; exact w64 (by omega) (by omega)
          have s1 : ∀ x : Int, (strOfNums [x]).size = 1 := fun x => rfl
          obtain ⟨t, ht⟩ := ih (m / 10) ((strOfNums [(wrap64 (48 + (Int.tmod (m : Int) 10))) % 256]) ++ o) (by rw [Nat.pow_succ] at hm; omega) (by omega) (by rw [ByteArray.size_append, s1]; omega)
          refine ⟨t, ?_⟩
          refine Ev.step (fun k => by rw [laws_markText.l0]) ?_
          refine evIf (by omega) ?_
          refine evSome ?_
          refine evIf (by rw [s1]; omega) ?_
          rw [e1]; exact ht
    obtain ⟨m, rfl⟩ : ∃ m : Nat, n = m := ⟨n.toNat, by omega⟩
    obtain ⟨t, ht⟩ := loop 10 m (⟨#[]⟩ : ByteArray) (by omega) (by omega) (by show 0 + 10 ≤ 100; omega)
    exact ⟨t, evElse h0 ht⟩
noncomputable def mkT (n : Int) : ByteArray := if h : n ≤ 1000000000 then Classical.choose (markText n h) else ByteArray.empty
theorem mkT_ev (n : Int) (h : n ≤ 1000000000) : Ev (fun k => laws_markText.f k n) (mkT n) := by
  unfold mkT
  rw [dif_pos h]
  exact Classical.choose_spec (markText n h)
noncomputable def marksT (n : Nat) : List ByteArray := (List.range n).map fun i => mkT ((i + 1 : Nat) : Int)
theorem markStrs (l : List ByteArray) (h : l.length ≤ 2000000) : Ev (fun k => laws_markStringS.f k l 1) (((l.length + 1 : Nat) : Int), marksT l.length) := by
  have loop : ∀ (d i : Nat), i + d = l.length → Ev (fun k => laws_markStringS.l0 k (marksT i ++ l.drop i) ((i + 1 : Nat) : Int) i) (((l.length + 1 : Nat) : Int), marksT l.length) := by
    intro d
    induction d with
    | zero =>
      intro i hi
      obtain rfl : i = l.length := by omega
      have hl : (marksT l.length ++ l.drop l.length).length = l.length := by simp [marksT]
      refine Ev.step (fun k => by rw [laws_markStringS.l0]) ?_
      exact evElse (by rw [hl]; omega) (evNow (by simp))
    | succ d ih =>
      intro i hi
      have hl : (marksT i ++ l.drop i).length = l.length := by simp [marksT]; omega
      have hs : (marksT i ++ l.drop i).set i (mkT ((i + 1 : Nat) : Int)) = marksT (i + 1) ++ l.drop (i + 1) := by
        rw [dropCons l i (by omega), List.set_append_right _ _ (by simp [marksT]), show i - (marksT i).length = 0 by simp [marksT], List.set_cons_zero]
        simp [marksT, List.range_succ]
      refine Ev.step (fun k => by rw [laws_markStringS.l0]) ?_
      refine evIf (by rw [hl]; omega) ?_
      refine (mkT_ev _ (by omega)).bind ?_
      refine evIf (by omega) ?_
      rw [Int.toNat_natCast, hs, wnext (i := i) (n := 3000000) (by omega) (by omega), wnext (i := i + 1) (n := 3000000) (by omega) (by omega)]
      exact ih (i + 1) (by omega)
  have := loop l.length 0 (by omega)
  simpa [marksT, laws_markStringS.f] using this
theorem heldStrs (n : Nat) (h : n ≤ 2000000) : Ev (fun k => laws_heldStringS.f k (marksT n) 1) ((n + 1 : Nat) : Int) := by
  have hl : (marksT n).length = n := by simp [marksT]
  have loop : ∀ (d i : Nat), i + d = n → Ev (fun k => laws_heldStringS.l0 k (marksT n) ((i + 1 : Nat) : Int) i) ((n + 1 : Nat) : Int) := by
    intro d
    induction d with
    | zero =>
      intro i hi
      obtain rfl : i = n := by omega
      refine Ev.step (fun k => by rw [laws_heldStringS.l0]) ?_
      exact evElse (by rw [hl]; omega) (evNow rfl)
    | succ d ih =>
      intro i hi
      have hr : rdOf ByteArray.empty (marksT n) (i : Int) = mkT ((i + 1 : Nat) : Int) := by
        rw [rdS _ i (by rw [hl]; omega)]; simp [marksT]
      refine Ev.step (fun k => by rw [laws_heldStringS.l0]) ?_
      refine evIf (by rw [hl]; omega) ?_
      refine evIf (by omega) ?_
      refine (mkT_ev _ (by omega)).bind ?_
      refine evIf (by rw [hr]) ?_
      rw [wnext (i := i) (n := 3000000) (by omega) (by omega), wnext (i := i + 1) (n := 3000000) (by omega) (by omega)]
      exact ih (i + 1) (by omega)
  have := loop n 0 (by omega)
  simpa [laws_heldStringS.f] using this
end Go.Proofs.YtcjpojppbmlfaaaDoor.Pure
set_option linter.unusedVariables false
set_option linter.unusedSimpArgs false
namespace Go.Proofs.YtcjpojppbmlfaaaDoor.Pure
open Go.RowKit Go.Proofs.YtcjpojppbmlfaaaDoor.Pr Go.Proofs.YtcjpojppbmlfaaaDoorW.PrintWords Go.Proofs.YtcjpojppbmlfaaaDoorW.PrintLast Go.Proofs.YtcjpojppbmlfaaaDoorW.PrintMore
theorem FnExactTxtLines (s : ByteArray) (w : Int) (h : s.size ≤ maxLen) (_ : (Lit.int .i64 w).wf = true) : ∃ k, laws_FnExactTxtLines.f k s w = some true := by
  apply Run.get
  unfold laws_FnExactTxtLines.f
  refine Run.ite (fun _ => Run.ret rfl) fun hb => ?_
  have iw := implLines s w (by omega)
  have hw := linesOf_le s w
  have ew := eqStrs (linesOf s w) (by omega)
  have hd := heldStrs (linesOf s w).length (by omega)
  refine Run.evBind (specLines s w (by omega)) (Run.evBind iw (Run.evBind ew (Run.pos rfl (Run.evBind (markStrs (linesOf s w) (by omega)) (Run.evBind hd (Run.neg (by omega) (Run.pos rfl (Run.evBind iw (Run.evBind ew (Run.pos rfl (Run.evBind hd (Run.neg (by omega) (Run.pos rfl (Run.ret rfl))))))))))))))
end Go.Proofs.YtcjpojppbmlfaaaDoor.Pure
