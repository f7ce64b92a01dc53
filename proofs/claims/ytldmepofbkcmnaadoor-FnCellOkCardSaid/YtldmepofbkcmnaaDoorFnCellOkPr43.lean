/- A part of what the claim of 'FnCellOk' leans on. -/
import Derived.Test.YtldmepofbkcmnaaDoorFnCellOkPr0
import Derived.Test.YtldmepofbkcmnaaDoorFnCellOkPr38
import Derived.Test.YtldmepofbkcmnaaDoorFnCellOkPr48
import Derived.Test.YtldmepofbkcmnaaDoorFnCellOkPr34
import Derived.Test.YtldmepofbkcmnaaDoorFnCellOkPr60
namespace Go.Proofs.YtldmepofbkcmnaaDoor.Pr
open Go.RowKit Go.Proofs.YtldmepofbkcmnaaDoorW.PrintWords Go.Proofs.YtldmepofbkcmnaaDoorW.PrintLast Go.Proofs.YtldmepofbkcmnaaDoorW.PrintMore
attribute [local go_sem] max2_int min2_int max_two min_two max_three min_three max_four min_four
set_option linter.unusedVariables false
set_option linter.unusedSimpArgs false
def spec_l20Cell.j0 : Nat → Int → List Int → Int → ByteArray → Int → Int → Int → Int → Int → Int → Int → Int → Int → Int → Option (ByteArray × Int × Int × Int × Int × Int × Int × Int × Int × Int × Int × Int)
  | 0, _, _, _, _, _, _, _, _, _, _, _, _, _, _ => none
  | k + 1, x1, x1000, x1001, x400000, x400001, x400002, x400003, x400004, x400005, x400006, x400007, x400008, x400009, x400010 => (spec_l20Rd_pick.f k x1000 x1001 x1).bind fun bt412 => (if bt412.1 > 0 then (some (x400000, x400001, x400002, x400003, x400004, x400005, x400006, x400007, x400008, x400009, x400010, bt412.2)) else ((spec_l20Rd_pick.f k x1000 bt412.2 4).bind fun bt414 => (if bt414.1 = 0 then ((spec_l20AnyText.f k x1000 bt414.2 1).bind fun bt416 => (some (bt416.1, x400001, x400002, x400003, x400004, x400005, x400006, x400007, x400008, x400009, x400010, bt416.2))) else (if bt414.1 = 1 then ((some (([0, 5, (-1)] : List Int) : List Int)).bind fun y418 => ((spec_l20Rd_pick.f k x1000 bt414.2 3).bind fun bt421 => (if 0 ≤ bt421.1 then (if bt421.1 < (y418.length : Int) then (some (x400000, rd y418 bt421.1, x400002, x400003, x400004, x400005, x400006, x400007, x400008, x400009, x400010, bt421.2)) else (none)) else (none)))) else (if bt414.1 = 2 then ((some (([0, 5, (-1)] : List Int) : List Int)).bind fun y424 => ((spec_l20Rd_pick.f k x1000 bt414.2 3).bind fun bt427 => (if 0 ≤ bt427.1 then (if bt427.1 < (y424.length : Int) then (some (x400000, x400001, rd y424 bt427.1, x400003, x400004, x400005, x400006, x400007, x400008, x400009, x400010, bt427.2)) else (none)) else (none)))) else ((spec_l20Brd.f k x1000 bt414.2 1).bind fun bt430 => (some (x400000, x400001, x400002, x400003, x400004, x400005, x400006, x400007, x400008, bt430.1, bt430.2.1, bt430.2.2))))))))
def spec_l20Cell.f (k : Nat) (s0_0 : List Int) (s0_1 : Int) (a1 : Int) : Option (ByteArray × Int × Int × Int × Int × Int × Int × Int × Int × Int × Int × Int) := (spec_l20Text.f k s0_0 s0_1).bind fun bt385 => ((some (([1, 1, 1, 2, 3, 4] : List Int) : List Int)).bind fun y387 => ((spec_l20Rd_pick.f k s0_0 bt385.2 6).bind fun bt390 => (if 0 ≤ bt390.1 then (if bt390.1 < (y387.length : Int) then ((some (([1, 1, 1, 1, 2, 3] : List Int) : List Int)).bind fun y393 => ((spec_l20Rd_pick.f k s0_0 bt390.2 6).bind fun bt396 => (if 0 ≤ bt396.1 then (if bt396.1 < (y393.length : Int) then ((spec_l20Brd.f k s0_0 bt396.2 999).bind fun bt400 => ((spec_l20Brd.f k s0_0 bt400.2.2 999).bind fun bt403 => ((spec_l20Brd.f k s0_0 bt403.2.2 999).bind fun bt406 => ((spec_l20Brd.f k s0_0 bt406.2.2 999).bind fun bt409 => (if (s0_0.length : Int) = 0 then (spec_l20Cell.j0 k a1 s0_0 bt409.2.2 (⟨#[]⟩ : ByteArray) 1 1 0 0 0 0 0 0 0 0) else (spec_l20Cell.j0 k a1 s0_0 bt409.2.2 bt385.1 (rd y387 bt390.1) (rd y393 bt396.1) bt400.1 bt400.2.1 bt403.1 bt403.2.1 bt406.1 bt406.2.1 bt409.1 bt409.2.1)))))) else (none)) else (none)))) else (none)) else (none))))
theorem spec_l20Cell.mono_l : ∀ k, (∀ y0 y1 y2 y3 y4 y5 y6 y7 y8 y9 y10 y11 y12 y13, LeO (spec_l20Cell.j0 k y0 y1 y2 y3 y4 y5 y6 y7 y8 y9 y10 y11 y12 y13) (spec_l20Cell.j0 (k + 1) y0 y1 y2 y3 y4 y5 y6 y7 y8 y9 y10 y11 y12 y13))
  | 0 => fun _ _ _ _ _ _ _ _ _ _ _ _ _ _ r h => by simp [spec_l20Cell.j0] at h
  | k + 1 => by
    have ih0 := spec_l20Cell.mono_l k
    · intro y0 y1 y2 y3 y4 y5 y6 y7 y8 y9 y10 y11 y12 y13
      unfold spec_l20Cell.j0
      repeat' first
      | (with_reducible exact ih0 _ _ _ _ _ _ _ _ _ _ _ _ _ _)
      | (with_reducible exact spec_l20AnyText.mono _ _ _ _)
      | (with_reducible exact spec_l20Brd.mono _ _ _ _)
      | (with_reducible exact spec_l20Rd_pick.mono _ _ _ _)
      | (with_reducible exact spec_l20Text.mono _ _ _)
      | (with_reducible exact LeO.refl _)
      | (with_reducible exact LeO.none _)
      | (with_reducible refine LeO.ite ?_ ?_)
      | (with_reducible refine LeO.bind ?_ (fun _ => ?_))
      | exact ih0 _ _ _ _ _ _ _ _ _ _ _ _ _ _
      | exact spec_l20AnyText.mono _ _ _ _
      | exact spec_l20Brd.mono _ _ _ _
      | exact spec_l20Rd_pick.mono _ _ _ _
      | exact spec_l20Text.mono _ _ _
      | exact LeO.none _
      | refine LeO.ite ?_ ?_
      | refine LeO.bind ?_ (fun _ => ?_)
theorem spec_l20Cell.mono : ∀ a0 a1 a2 k, LeO (spec_l20Cell.f k a0 a1 a2) (spec_l20Cell.f (k + 1) a0 a1 a2) := by
  intro a0 a1 a2 k
  have ih0 := spec_l20Cell.mono_l k
  unfold spec_l20Cell.f
  repeat' first
      | (with_reducible exact ih0 _ _ _ _ _ _ _ _ _ _ _ _ _ _)
      | (with_reducible exact spec_l20AnyText.mono _ _ _ _)
      | (with_reducible exact spec_l20Brd.mono _ _ _ _)
      | (with_reducible exact spec_l20Rd_pick.mono _ _ _ _)
      | (with_reducible exact spec_l20Text.mono _ _ _)
      | (with_reducible exact LeO.refl _)
      | (with_reducible exact LeO.none _)
      | (with_reducible refine LeO.ite ?_ ?_)
      | (with_reducible refine LeO.bind ?_ (fun _ => ?_))
      | exact ih0 _ _ _ _ _ _ _ _ _ _ _ _ _ _
      | exact spec_l20AnyText.mono _ _ _ _
      | exact spec_l20Brd.mono _ _ _ _
      | exact spec_l20Rd_pick.mono _ _ _ _
      | exact spec_l20Text.mono _ _ _
      | exact LeO.none _
      | refine LeO.ite ?_ ?_
      | refine LeO.bind ?_ (fun _ => ?_)
def spec_l20Cell.T1 : Bool × List (List Nat × List Nat) := (true, [([], []), ([0], [0]), ([], []), ([], []), ([3, 1], [3]), ([2, 4], [2, 4]), ([5], [5]), ([], []), ([], []), ([8, 4], [8]), ([7, 9], [7, 9]), ([10], [10]), ([1, 6, 11], [1, 6, 11]), ([], []), ([13, 12, 9, 0, 1, 2, 3, 4, 5, 6, 7, 8, 9, 10, 11, 12, 13], [12, 13])])
def spec_l20Cell.B1 : List Nat := [0, 1, 0, 0, 11, 31, 63, 0, 0, 283, 923, 1947, 4095, 0, 16383]
theorem spec_l20Cell.tab1 : rtab .any (opsOf Tryd.f43 1) = spec_l20Cell.T1 := by kernel_rfl
theorem spec_l20Cell.bits1 : waitsOk spec_l20Cell.T1.2 spec_l20Cell.B1 = true := by kernel_rfl
def ovl (a : Act) (ν : Nat → Option Value) : Act := { a with tmps := a.tmps.mapIdx fun i v => (ν i).getD v }
theorem ovl_none (a : Act) : ovl a (fun _ => none) = a := by
  unfold ovl
  have : (a.tmps.mapIdx fun i v => ((fun _ => none : Nat → Option Value) i).getD v) = a.tmps := by
    apply Array.ext
    · simp
    · intro i h1 h2; simp
  rw [this]
theorem ovl_eval (a : Act) (ν : Nat → Option Value) (n : Nat) (h : n < a.tmps.size) : (ovl a ν).eval (.tmp n) = (ν n).getD (a.eval (.tmp n)) := by
  unfold ovl Act.eval
  simp [Array.getD_eq_getD_getElem?, h]
theorem ovl_put (a : Act) (ν : Nat → Option Value) (n : Nat) (v : Value) : (ovl a ν).put (some n) v = ovl a (fun j => if j = n then some v else ν j) := by
  unfold ovl Act.put
  simp only [Act.mk.injEq, and_true]
  apply Array.ext
  · simp
  · intro i h1 h2
    have h3 : i < (Array.mapIdx (fun i v => (ν i).getD v) a.tmps).size := by simpa using h2
    rw [Array.getElem_setIfInBounds h3, Array.getElem_mapIdx, Array.getElem_mapIdx]
    by_cases e : n = i
    · subst e; simp
    · rw [if_neg e, if_neg (fun q => e q.symm)]
def lkp : List (Tmp × Value) → Nat → Option Value
  | [], _ => none
  | (n, v) :: r, j => (lkp r j).or (if j = n then some v else none)
theorem ovl_putAll (a : Act) : ∀ (L : List (Tmp × Value)) (ν : Nat → Option Value), putAll (ovl a ν) L = ovl a (fun j => (lkp L j).or (ν j))
  | [], ν => by simp [putAll, lkp]
  | (n, v) :: r, ν => by
    rw [putAll, ovl_put, ovl_putAll a r]
    congr 1
    funext j
    rw [lkp]
    cases lkp r j with
    | some x => simp
    | none => by_cases e : j = n <;> simp [e]
theorem putAll_ovl (a : Act) (L : List (Tmp × Value)) : putAll a L = ovl a (lkp L) := by
  have := ovl_putAll a L (fun _ => none)
  rw [ovl_none] at this
  rw [this]; congr 1; funext j; simp
def cellZ : Obj := .cells #[.string (⟨#[]⟩ : ByteArray), .int .i64 0, .int .i64 0, .int .i64 0, .int .i64 0, .int .i64 0, .int .i64 0, .int .i64 0, .int .i64 0, .int .i64 0, .int .i64 0] 38 (0, 0)
def cellA : List Int := [1, 1, 1, 2, 3, 4]
def cellB_ : List Int := [1, 1, 1, 1, 2, 3]
def cellT1 : Bool × List (List Nat × List Nat) := (true, [([], []), ([0], [0]), ([], []), ([], []), ([3, 1], [3]), ([2, 4], [2, 4]), ([5], [5]), ([], []), ([], []), ([8, 4], [8]), ([7, 9], [7, 9]), ([10], [10]), ([1, 6, 11], [1, 6, 11]), ([], []), ([13, 12, 9, 0, 1, 2, 3, 4, 5, 6, 7, 8, 9, 10, 11, 12, 13], [12, 13])])
structure CellI (g gb : Nat) (x : ByteArray) (i j : Int) (w0 w : World) (f : Nat → Bool) (ν : Nat → Option Value) (b8 b13 b5 : Nat) (W : World) : Prop where
  n : ∀ q, ¬ (q = 5 ∨ q = 7 ∨ q = 8 ∨ q = 10 ∨ q = 11 ∨ q = 12 ∨ q = 13 ∨ q = 15 ∨ q = 16 ∨ q = 17 ∨ q = 18) → ν q = none
  v1 : f 1 = true → ν 7 = some (.string x)
  v2 : f 2 = true → ν 8 = some (.slice (some ⟨b8, 0, none⟩) 6 6) ∧ W.heap[b8]? = some (.cells (cellA.map (Value.int .i64)).toArray 3 (0, 0)) ∧ b8 ≠ g
  v4 : f 4 = true → ν 10 = some (.int .i64 i)
  v5 : f 5 = true → ν 11 = some (.pointer (some (Addr.add ⟨b8, 0, none⟩ i.toNat)))
  v6 : f 6 = true → ν 12 = some (.int .i64 (rd cellA i))
  v7 : f 7 = true → ν 13 = some (.slice (some ⟨b13, 0, none⟩) 6 6) ∧ W.heap[b13]? = some (.cells (cellB_.map (Value.int .i64)).toArray 3 (0, 0)) ∧ b13 ≠ g
  v9 : f 9 = true → ν 15 = some (.int .i64 j)
  v10 : f 10 = true → ν 16 = some (.pointer (some (Addr.add ⟨b13, 0, none⟩ j.toNat)))
  v11 : f 11 = true → ν 17 = some (.int .i64 (rd cellB_ j))
  v12 : f 12 = true → ν 18 = some (.agg #[.string x, .int .i64 (rd cellA i), .int .i64 (rd cellB_ j), .int .i64 0, .int .i64 0, .int .i64 0, .int .i64 0, .int .i64 0, .int .i64 0, .int .i64 0, .int .i64 0])
  v13 : f 13 = true → ν 5 = some (.pointer (some ⟨b5, 0, none⟩)) ∧ W.heap[b5]? = some cellZ ∧ w.heap.size ≤ b5 ∧ w0.heap.size ≤ b5 ∧ b5 ≠ g ∧ b5 ≠ gb
  c4 : f 4 = true → f 1 = true
  c5 : f 5 = true → f 2 = true ∧ f 4 = true
  c6 : f 6 = true → f 5 = true
  c9 : f 9 = true → f 4 = true
  c10 : f 10 = true → f 7 = true ∧ f 9 = true
  c11 : f 11 = true → f 10 = true
  c12 : f 12 = true → f 1 = true ∧ f 6 = true ∧ f 11 = true
  z : W.heap[gb]? = some cellZ
  K : KeepBut w W g none
  B : Below w0.heap.size w0 W
def cellL (f : Nat → Bool) : List Bool := [true, f 1, f 2, true, f 4, f 5, f 6, f 7, true, f 9, f 10, f 11, f 12, f 13, false]
def cellN (f : Nat → Bool) : Nat := (if f 1 then 0 else 1) + (if f 2 then 0 else 1) + (if f 4 then 0 else 1) + (if f 5 then 0 else 1) + (if f 6 then 0 else 1) + (if f 7 then 0 else 1) + (if f 9 then 0 else 1) + (if f 10 then 0 else 1) + (if f 11 then 0 else 1) + (if f 12 then 0 else 1) + (if f 13 then 0 else 1)
theorem cell_ready {f : Nat → Bool} (h : readyT cellT1.2 (cellL f) = []) (hc : cellN f ≠ 0) : False := by
  unfold readyT at h
  rw [List.filter_eq_nil_iff] at h
  have hq : ∀ q, q < 15 → ¬ readyAt cellT1.2 (cellL f) q = true := fun q hq => h q (by simpa [cellT1] using hq)
  have h1 : f 1 = true := by have := hq 1 (by omega); simpa [readyAt, cellT1, cellL] using this
  have h2 : f 2 = true := by have := hq 2 (by omega); simpa [readyAt, cellT1, cellL] using this
  have h7 : f 7 = true := by have := hq 7 (by omega); simpa [readyAt, cellT1, cellL] using this
  have h13 : f 13 = true := by have := hq 13 (by omega); simpa [readyAt, cellT1, cellL] using this
  have h4 : f 4 = true := by have := hq 4 (by omega); simpa [readyAt, cellT1, cellL, h1] using this
  have h5 : f 5 = true := by have := hq 5 (by omega); simpa [readyAt, cellT1, cellL, h2, h4] using this
  have h6 : f 6 = true := by have := hq 6 (by omega); simpa [readyAt, cellT1, cellL, h5] using this
  have h9 : f 9 = true := by have := hq 9 (by omega); simpa [readyAt, cellT1, cellL, h4] using this
  have h10 : f 10 = true := by have := hq 10 (by omega); simpa [readyAt, cellT1, cellL, h7, h9] using this
  have h11 : f 11 = true := by have := hq 11 (by omega); simpa [readyAt, cellT1, cellL, h10] using this
  have h12 : f 12 = true := by have := hq 12 (by omega); simpa [readyAt, cellT1, cellL, h1, h6, h11] using this
  exact hc (by simp [cellN, h1, h2, h4, h5, h6, h7, h9, h10, h11, h12, h13])
theorem rd_block {l : List Int} {W : World} {b : Nat} (h : W.heap[b]? = some (.cells (l.map (Value.int .i64)).toArray 3 (0, 0))) {i : Int} (h0 : 0 ≤ i) (h1 : i < (l.length : Int)) : W.cell? (Addr.add ⟨b, 0, none⟩ i.toNat) = some (.int .i64 (rd l i)) := by
  have hc := blk_cell h i.toNat
  have e : (Addr.add ⟨b, 0, none⟩ i.toNat : Addr) = ⟨b, i.toNat, none⟩ := by simp [Addr.add] <;> omega
  rw [e, hc]
  have hl : i.toNat < l.length := by omega
  unfold rd
  simp [hl]
def upd (f : Nat → Bool) (i : Nat) : Nat → Bool := fun q => q == i || f q
def ups (ν : Nat → Option Value) (n : Nat) (v : Value) : Nat → Option Value := fun j => if j = n then some v else ν j
theorem ups_ne {ν : Nat → Option Value} {n j : Nat} {v : Value} (h : j ≠ n) : ups ν n v j = ν j := if_neg h
theorem ups_eq {ν : Nat → Option Value} {n : Nat} {v : Value} : ups ν n v n = some v := if_pos rfl
theorem upd_ne {f : Nat → Bool} {i q : Nat} (h : q ≠ i) : upd f i q = f q := by simp [upd, h]
theorem upd_eq {f : Nat → Bool} {i : Nat} : upd f i i = true := by simp [upd]
section
variable {g gb : Nat} {s0 : List Int} {p0 p1 p2 p3 : Int} {x : ByteArray} {i j : Int} {w0 w : World} {f : Nat → Bool} {ν : Nat → Option Value} {b8 b13 b5 : Nat} {W : World}
theorem CellI.move (h : CellI g gb x i j w0 w f ν b8 b13 b5 W) {W' : World} (hk : KeepBut W W' g none) (hg : gb ≠ g) (hB : Below w0.heap.size w0 W') : CellI g gb x i j w0 w f ν b8 b13 b5 W' :=
  { h with
    v2 := fun e => by obtain ⟨a, b, c⟩ := h.v2 e; exact ⟨a, hk.blk b c (by simp), c⟩
    v7 := fun e => by obtain ⟨a, b, c⟩ := h.v7 e; exact ⟨a, hk.blk b c (by simp), c⟩
    v13 := fun e => by obtain ⟨a, b, c, d, e1, e2⟩ := h.v13 e; exact ⟨a, hk.blk b e1 (by simp), c, d, e1, e2⟩
    z := hk.blk h.z hg (by simp)
    K := h.K.trans hk (.inl rfl)
    B := hB }
theorem CellI.s1 (h : CellI g gb x i j w0 w f ν b8 b13 b5 W)   : CellI g gb x i j w0 w (upd f 1) (ups ν 7 (.string x)) b8 b13 b5 W :=
  { h with
    n := fun q hq => by rw [ups_ne (by omega)]; exact h.n q hq
    v1 := fun _ => ups_eq
    v2 := fun e => by rw [ups_ne (by omega)]; exact h.v2 (by rwa [upd_ne (by omega)] at e)
    v4 := fun e => by rw [ups_ne (by omega)]; exact h.v4 (by rwa [upd_ne (by omega)] at e)
    v5 := fun e => by rw [ups_ne (by omega)]; exact h.v5 (by rwa [upd_ne (by omega)] at e)
    v6 := fun e => by rw [ups_ne (by omega)]; exact h.v6 (by rwa [upd_ne (by omega)] at e)
    v7 := fun e => by rw [ups_ne (by omega)]; exact h.v7 (by rwa [upd_ne (by omega)] at e)
    v9 := fun e => by rw [ups_ne (by omega)]; exact h.v9 (by rwa [upd_ne (by omega)] at e)
    v10 := fun e => by rw [ups_ne (by omega)]; exact h.v10 (by rwa [upd_ne (by omega)] at e)
    v11 := fun e => by rw [ups_ne (by omega)]; exact h.v11 (by rwa [upd_ne (by omega)] at e)
    v12 := fun e => by rw [ups_ne (by omega)]; exact h.v12 (by rwa [upd_ne (by omega)] at e)
    v13 := fun e => by rw [ups_ne (by omega)]; exact h.v13 (by rwa [upd_ne (by omega)] at e)
    c4 := fun e => upd_eq
    c5 := fun e => ⟨(by rw [upd_ne (by omega)]; exact (h.c5 (by rwa [upd_ne (by omega)] at e)).1), (by rw [upd_ne (by omega)]; exact (h.c5 (by rwa [upd_ne (by omega)] at e)).2)⟩
    c6 := fun e => (by rw [upd_ne (by omega)]; exact (h.c6 (by rwa [upd_ne (by omega)] at e)))
    c9 := fun e => (by rw [upd_ne (by omega)]; exact (h.c9 (by rwa [upd_ne (by omega)] at e)))
    c10 := fun e => ⟨(by rw [upd_ne (by omega)]; exact (h.c10 (by rwa [upd_ne (by omega)] at e)).1), (by rw [upd_ne (by omega)]; exact (h.c10 (by rwa [upd_ne (by omega)] at e)).2)⟩
    c11 := fun e => (by rw [upd_ne (by omega)]; exact (h.c11 (by rwa [upd_ne (by omega)] at e)))
    c12 := fun e => ⟨upd_eq, (by rw [upd_ne (by omega)]; exact (h.c12 (by rwa [upd_ne (by omega)] at e)).2.1), (by rw [upd_ne (by omega)]; exact (h.c12 (by rwa [upd_ne (by omega)] at e)).2.2)⟩
  }
theorem CellI.s2 (h : CellI g gb x i j w0 w f ν b8 b13 b5 W)  (hw : W.heap[b8]? = some (.cells (cellA.map (Value.int .i64)).toArray 3 (0, 0))) (hne : b8 ≠ g) : CellI g gb x i j w0 w (upd f 2) (ups ν 8 (.slice (some ⟨b8, 0, none⟩) 6 6)) b8 b13 b5 W :=
  { h with
    n := fun q hq => by rw [ups_ne (by omega)]; exact h.n q hq
    v1 := fun e => by rw [ups_ne (by omega)]; exact h.v1 (by rwa [upd_ne (by omega)] at e)
    v2 := fun _ => ⟨ups_eq, hw, hne⟩
    v4 := fun e => by rw [ups_ne (by omega)]; exact h.v4 (by rwa [upd_ne (by omega)] at e)
    v5 := fun e => by rw [ups_ne (by omega)]; exact h.v5 (by rwa [upd_ne (by omega)] at e)
    v6 := fun e => by rw [ups_ne (by omega)]; exact h.v6 (by rwa [upd_ne (by omega)] at e)
    v7 := fun e => by rw [ups_ne (by omega)]; exact h.v7 (by rwa [upd_ne (by omega)] at e)
    v9 := fun e => by rw [ups_ne (by omega)]; exact h.v9 (by rwa [upd_ne (by omega)] at e)
    v10 := fun e => by rw [ups_ne (by omega)]; exact h.v10 (by rwa [upd_ne (by omega)] at e)
    v11 := fun e => by rw [ups_ne (by omega)]; exact h.v11 (by rwa [upd_ne (by omega)] at e)
    v12 := fun e => by rw [ups_ne (by omega)]; exact h.v12 (by rwa [upd_ne (by omega)] at e)
    v13 := fun e => by rw [ups_ne (by omega)]; exact h.v13 (by rwa [upd_ne (by omega)] at e)
    c4 := fun e => (by rw [upd_ne (by omega)]; exact (h.c4 (by rwa [upd_ne (by omega)] at e)))
    c5 := fun e => ⟨upd_eq, (by rw [upd_ne (by omega)]; exact (h.c5 (by rwa [upd_ne (by omega)] at e)).2)⟩
    c6 := fun e => (by rw [upd_ne (by omega)]; exact (h.c6 (by rwa [upd_ne (by omega)] at e)))
    c9 := fun e => (by rw [upd_ne (by omega)]; exact (h.c9 (by rwa [upd_ne (by omega)] at e)))
    c10 := fun e => ⟨(by rw [upd_ne (by omega)]; exact (h.c10 (by rwa [upd_ne (by omega)] at e)).1), (by rw [upd_ne (by omega)]; exact (h.c10 (by rwa [upd_ne (by omega)] at e)).2)⟩
    c11 := fun e => (by rw [upd_ne (by omega)]; exact (h.c11 (by rwa [upd_ne (by omega)] at e)))
    c12 := fun e => ⟨(by rw [upd_ne (by omega)]; exact (h.c12 (by rwa [upd_ne (by omega)] at e)).1), (by rw [upd_ne (by omega)]; exact (h.c12 (by rwa [upd_ne (by omega)] at e)).2.1), (by rw [upd_ne (by omega)]; exact (h.c12 (by rwa [upd_ne (by omega)] at e)).2.2)⟩
  }
theorem CellI.s4 (h : CellI g gb x i j w0 w f ν b8 b13 b5 W) (e1 : f 1 = true)  : CellI g gb x i j w0 w (upd f 4) (ups ν 10 (.int .i64 i)) b8 b13 b5 W :=
  { h with
    n := fun q hq => by rw [ups_ne (by omega)]; exact h.n q hq
    v1 := fun e => by rw [ups_ne (by omega)]; exact h.v1 (by rwa [upd_ne (by omega)] at e)
    v2 := fun e => by rw [ups_ne (by omega)]; exact h.v2 (by rwa [upd_ne (by omega)] at e)
    v4 := fun _ => ups_eq
    v5 := fun e => by rw [ups_ne (by omega)]; exact h.v5 (by rwa [upd_ne (by omega)] at e)
    v6 := fun e => by rw [ups_ne (by omega)]; exact h.v6 (by rwa [upd_ne (by omega)] at e)
    v7 := fun e => by rw [ups_ne (by omega)]; exact h.v7 (by rwa [upd_ne (by omega)] at e)
    v9 := fun e => by rw [ups_ne (by omega)]; exact h.v9 (by rwa [upd_ne (by omega)] at e)
    v10 := fun e => by rw [ups_ne (by omega)]; exact h.v10 (by rwa [upd_ne (by omega)] at e)
    v11 := fun e => by rw [ups_ne (by omega)]; exact h.v11 (by rwa [upd_ne (by omega)] at e)
    v12 := fun e => by rw [ups_ne (by omega)]; exact h.v12 (by rwa [upd_ne (by omega)] at e)
    v13 := fun e => by rw [ups_ne (by omega)]; exact h.v13 (by rwa [upd_ne (by omega)] at e)
    c4 := fun _ => (by rw [upd_ne (by omega)]; exact e1)
    c5 := fun e => ⟨(by rw [upd_ne (by omega)]; exact (h.c5 (by rwa [upd_ne (by omega)] at e)).1), upd_eq⟩
    c6 := fun e => (by rw [upd_ne (by omega)]; exact (h.c6 (by rwa [upd_ne (by omega)] at e)))
    c9 := fun e => upd_eq
    c10 := fun e => ⟨(by rw [upd_ne (by omega)]; exact (h.c10 (by rwa [upd_ne (by omega)] at e)).1), (by rw [upd_ne (by omega)]; exact (h.c10 (by rwa [upd_ne (by omega)] at e)).2)⟩
    c11 := fun e => (by rw [upd_ne (by omega)]; exact (h.c11 (by rwa [upd_ne (by omega)] at e)))
    c12 := fun e => ⟨(by rw [upd_ne (by omega)]; exact (h.c12 (by rwa [upd_ne (by omega)] at e)).1), (by rw [upd_ne (by omega)]; exact (h.c12 (by rwa [upd_ne (by omega)] at e)).2.1), (by rw [upd_ne (by omega)]; exact (h.c12 (by rwa [upd_ne (by omega)] at e)).2.2)⟩
  }
theorem CellI.s5 (h : CellI g gb x i j w0 w f ν b8 b13 b5 W) (e2 : f 2 = true) (e4 : f 4 = true)  : CellI g gb x i j w0 w (upd f 5) (ups ν 11 (.pointer (some (Addr.add ⟨b8, 0, none⟩ i.toNat)))) b8 b13 b5 W :=
  { h with
    n := fun q hq => by rw [ups_ne (by omega)]; exact h.n q hq
    v1 := fun e => by rw [ups_ne (by omega)]; exact h.v1 (by rwa [upd_ne (by omega)] at e)
    v2 := fun e => by rw [ups_ne (by omega)]; exact h.v2 (by rwa [upd_ne (by omega)] at e)
    v4 := fun e => by rw [ups_ne (by omega)]; exact h.v4 (by rwa [upd_ne (by omega)] at e)
    v5 := fun _ => ups_eq
    v6 := fun e => by rw [ups_ne (by omega)]; exact h.v6 (by rwa [upd_ne (by omega)] at e)
    v7 := fun e => by rw [ups_ne (by omega)]; exact h.v7 (by rwa [upd_ne (by omega)] at e)
    v9 := fun e => by rw [ups_ne (by omega)]; exact h.v9 (by rwa [upd_ne (by omega)] at e)
    v10 := fun e => by rw [ups_ne (by omega)]; exact h.v10 (by rwa [upd_ne (by omega)] at e)
    v11 := fun e => by rw [ups_ne (by omega)]; exact h.v11 (by rwa [upd_ne (by omega)] at e)
    v12 := fun e => by rw [ups_ne (by omega)]; exact h.v12 (by rwa [upd_ne (by omega)] at e)
    v13 := fun e => by rw [ups_ne (by omega)]; exact h.v13 (by rwa [upd_ne (by omega)] at e)
    c4 := fun e => (by rw [upd_ne (by omega)]; exact (h.c4 (by rwa [upd_ne (by omega)] at e)))
    c5 := fun _ => ⟨(by rw [upd_ne (by omega)]; exact e2), (by rw [upd_ne (by omega)]; exact e4)⟩
    c6 := fun e => upd_eq
    c9 := fun e => (by rw [upd_ne (by omega)]; exact (h.c9 (by rwa [upd_ne (by omega)] at e)))
    c10 := fun e => ⟨(by rw [upd_ne (by omega)]; exact (h.c10 (by rwa [upd_ne (by omega)] at e)).1), (by rw [upd_ne (by omega)]; exact (h.c10 (by rwa [upd_ne (by omega)] at e)).2)⟩
    c11 := fun e => (by rw [upd_ne (by omega)]; exact (h.c11 (by rwa [upd_ne (by omega)] at e)))
    c12 := fun e => ⟨(by rw [upd_ne (by omega)]; exact (h.c12 (by rwa [upd_ne (by omega)] at e)).1), (by rw [upd_ne (by omega)]; exact (h.c12 (by rwa [upd_ne (by omega)] at e)).2.1), (by rw [upd_ne (by omega)]; exact (h.c12 (by rwa [upd_ne (by omega)] at e)).2.2)⟩
  }
theorem CellI.s6 (h : CellI g gb x i j w0 w f ν b8 b13 b5 W) (e5 : f 5 = true)  : CellI g gb x i j w0 w (upd f 6) (ups ν 12 (.int .i64 (rd cellA i))) b8 b13 b5 W :=
  { h with
    n := fun q hq => by rw [ups_ne (by omega)]; exact h.n q hq
    v1 := fun e => by rw [ups_ne (by omega)]; exact h.v1 (by rwa [upd_ne (by omega)] at e)
    v2 := fun e => by rw [ups_ne (by omega)]; exact h.v2 (by rwa [upd_ne (by omega)] at e)
    v4 := fun e => by rw [ups_ne (by omega)]; exact h.v4 (by rwa [upd_ne (by omega)] at e)
    v5 := fun e => by rw [ups_ne (by omega)]; exact h.v5 (by rwa [upd_ne (by omega)] at e)
    v6 := fun _ => ups_eq
    v7 := fun e => by rw [ups_ne (by omega)]; exact h.v7 (by rwa [upd_ne (by omega)] at e)
    v9 := fun e => by rw [ups_ne (by omega)]; exact h.v9 (by rwa [upd_ne (by omega)] at e)
    v10 := fun e => by rw [ups_ne (by omega)]; exact h.v10 (by rwa [upd_ne (by omega)] at e)
    v11 := fun e => by rw [ups_ne (by omega)]; exact h.v11 (by rwa [upd_ne (by omega)] at e)
    v12 := fun e => by rw [ups_ne (by omega)]; exact h.v12 (by rwa [upd_ne (by omega)] at e)
    v13 := fun e => by rw [ups_ne (by omega)]; exact h.v13 (by rwa [upd_ne (by omega)] at e)
    c4 := fun e => (by rw [upd_ne (by omega)]; exact (h.c4 (by rwa [upd_ne (by omega)] at e)))
    c5 := fun e => ⟨(by rw [upd_ne (by omega)]; exact (h.c5 (by rwa [upd_ne (by omega)] at e)).1), (by rw [upd_ne (by omega)]; exact (h.c5 (by rwa [upd_ne (by omega)] at e)).2)⟩
    c6 := fun _ => (by rw [upd_ne (by omega)]; exact e5)
    c9 := fun e => (by rw [upd_ne (by omega)]; exact (h.c9 (by rwa [upd_ne (by omega)] at e)))
    c10 := fun e => ⟨(by rw [upd_ne (by omega)]; exact (h.c10 (by rwa [upd_ne (by omega)] at e)).1), (by rw [upd_ne (by omega)]; exact (h.c10 (by rwa [upd_ne (by omega)] at e)).2)⟩
    c11 := fun e => (by rw [upd_ne (by omega)]; exact (h.c11 (by rwa [upd_ne (by omega)] at e)))
    c12 := fun e => ⟨(by rw [upd_ne (by omega)]; exact (h.c12 (by rwa [upd_ne (by omega)] at e)).1), upd_eq, (by rw [upd_ne (by omega)]; exact (h.c12 (by rwa [upd_ne (by omega)] at e)).2.2)⟩
  }
theorem CellI.s7 (h : CellI g gb x i j w0 w f ν b8 b13 b5 W)  (hw : W.heap[b13]? = some (.cells (cellB_.map (Value.int .i64)).toArray 3 (0, 0))) (hne : b13 ≠ g) : CellI g gb x i j w0 w (upd f 7) (ups ν 13 (.slice (some ⟨b13, 0, none⟩) 6 6)) b8 b13 b5 W :=
  { h with
    n := fun q hq => by rw [ups_ne (by omega)]; exact h.n q hq
    v1 := fun e => by rw [ups_ne (by omega)]; exact h.v1 (by rwa [upd_ne (by omega)] at e)
    v2 := fun e => by rw [ups_ne (by omega)]; exact h.v2 (by rwa [upd_ne (by omega)] at e)
    v4 := fun e => by rw [ups_ne (by omega)]; exact h.v4 (by rwa [upd_ne (by omega)] at e)
    v5 := fun e => by rw [ups_ne (by omega)]; exact h.v5 (by rwa [upd_ne (by omega)] at e)
    v6 := fun e => by rw [ups_ne (by omega)]; exact h.v6 (by rwa [upd_ne (by omega)] at e)
    v7 := fun _ => ⟨ups_eq, hw, hne⟩
    v9 := fun e => by rw [ups_ne (by omega)]; exact h.v9 (by rwa [upd_ne (by omega)] at e)
    v10 := fun e => by rw [ups_ne (by omega)]; exact h.v10 (by rwa [upd_ne (by omega)] at e)
    v11 := fun e => by rw [ups_ne (by omega)]; exact h.v11 (by rwa [upd_ne (by omega)] at e)
    v12 := fun e => by rw [ups_ne (by omega)]; exact h.v12 (by rwa [upd_ne (by omega)] at e)
    v13 := fun e => by rw [ups_ne (by omega)]; exact h.v13 (by rwa [upd_ne (by omega)] at e)
    c4 := fun e => (by rw [upd_ne (by omega)]; exact (h.c4 (by rwa [upd_ne (by omega)] at e)))
    c5 := fun e => ⟨(by rw [upd_ne (by omega)]; exact (h.c5 (by rwa [upd_ne (by omega)] at e)).1), (by rw [upd_ne (by omega)]; exact (h.c5 (by rwa [upd_ne (by omega)] at e)).2)⟩
    c6 := fun e => (by rw [upd_ne (by omega)]; exact (h.c6 (by rwa [upd_ne (by omega)] at e)))
    c9 := fun e => (by rw [upd_ne (by omega)]; exact (h.c9 (by rwa [upd_ne (by omega)] at e)))
    c10 := fun e => ⟨upd_eq, (by rw [upd_ne (by omega)]; exact (h.c10 (by rwa [upd_ne (by omega)] at e)).2)⟩
    c11 := fun e => (by rw [upd_ne (by omega)]; exact (h.c11 (by rwa [upd_ne (by omega)] at e)))
    c12 := fun e => ⟨(by rw [upd_ne (by omega)]; exact (h.c12 (by rwa [upd_ne (by omega)] at e)).1), (by rw [upd_ne (by omega)]; exact (h.c12 (by rwa [upd_ne (by omega)] at e)).2.1), (by rw [upd_ne (by omega)]; exact (h.c12 (by rwa [upd_ne (by omega)] at e)).2.2)⟩
  }
theorem CellI.s9 (h : CellI g gb x i j w0 w f ν b8 b13 b5 W) (e4 : f 4 = true)  : CellI g gb x i j w0 w (upd f 9) (ups ν 15 (.int .i64 j)) b8 b13 b5 W :=
  { h with
    n := fun q hq => by rw [ups_ne (by omega)]; exact h.n q hq
    v1 := fun e => by rw [ups_ne (by omega)]; exact h.v1 (by rwa [upd_ne (by omega)] at e)
    v2 := fun e => by rw [ups_ne (by omega)]; exact h.v2 (by rwa [upd_ne (by omega)] at e)
    v4 := fun e => by rw [ups_ne (by omega)]; exact h.v4 (by rwa [upd_ne (by omega)] at e)
    v5 := fun e => by rw [ups_ne (by omega)]; exact h.v5 (by rwa [upd_ne (by omega)] at e)
    v6 := fun e => by rw [ups_ne (by omega)]; exact h.v6 (by rwa [upd_ne (by omega)] at e)
    v7 := fun e => by rw [ups_ne (by omega)]; exact h.v7 (by rwa [upd_ne (by omega)] at e)
    v9 := fun _ => ups_eq
    v10 := fun e => by rw [ups_ne (by omega)]; exact h.v10 (by rwa [upd_ne (by omega)] at e)
    v11 := fun e => by rw [ups_ne (by omega)]; exact h.v11 (by rwa [upd_ne (by omega)] at e)
    v12 := fun e => by rw [ups_ne (by omega)]; exact h.v12 (by rwa [upd_ne (by omega)] at e)
    v13 := fun e => by rw [ups_ne (by omega)]; exact h.v13 (by rwa [upd_ne (by omega)] at e)
    c4 := fun e => (by rw [upd_ne (by omega)]; exact (h.c4 (by rwa [upd_ne (by omega)] at e)))
    c5 := fun e => ⟨(by rw [upd_ne (by omega)]; exact (h.c5 (by rwa [upd_ne (by omega)] at e)).1), (by rw [upd_ne (by omega)]; exact (h.c5 (by rwa [upd_ne (by omega)] at e)).2)⟩
    c6 := fun e => (by rw [upd_ne (by omega)]; exact (h.c6 (by rwa [upd_ne (by omega)] at e)))
    c9 := fun _ => (by rw [upd_ne (by omega)]; exact e4)
    c10 := fun e => ⟨(by rw [upd_ne (by omega)]; exact (h.c10 (by rwa [upd_ne (by omega)] at e)).1), upd_eq⟩
    c11 := fun e => (by rw [upd_ne (by omega)]; exact (h.c11 (by rwa [upd_ne (by omega)] at e)))
    c12 := fun e => ⟨(by rw [upd_ne (by omega)]; exact (h.c12 (by rwa [upd_ne (by omega)] at e)).1), (by rw [upd_ne (by omega)]; exact (h.c12 (by rwa [upd_ne (by omega)] at e)).2.1), (by rw [upd_ne (by omega)]; exact (h.c12 (by rwa [upd_ne (by omega)] at e)).2.2)⟩
  }
theorem CellI.s10 (h : CellI g gb x i j w0 w f ν b8 b13 b5 W) (e7 : f 7 = true) (e9 : f 9 = true)  : CellI g gb x i j w0 w (upd f 10) (ups ν 16 (.pointer (some (Addr.add ⟨b13, 0, none⟩ j.toNat)))) b8 b13 b5 W :=
  { h with
    n := fun q hq => by rw [ups_ne (by omega)]; exact h.n q hq
    v1 := fun e => by rw [ups_ne (by omega)]; exact h.v1 (by rwa [upd_ne (by omega)] at e)
    v2 := fun e => by rw [ups_ne (by omega)]; exact h.v2 (by rwa [upd_ne (by omega)] at e)
    v4 := fun e => by rw [ups_ne (by omega)]; exact h.v4 (by rwa [upd_ne (by omega)] at e)
    v5 := fun e => by rw [ups_ne (by omega)]; exact h.v5 (by rwa [upd_ne (by omega)] at e)
    v6 := fun e => by rw [ups_ne (by omega)]; exact h.v6 (by rwa [upd_ne (by omega)] at e)
    v7 := fun e => by rw [ups_ne (by omega)]; exact h.v7 (by rwa [upd_ne (by omega)] at e)
    v9 := fun e => by rw [ups_ne (by omega)]; exact h.v9 (by rwa [upd_ne (by omega)] at e)
    v10 := fun _ => ups_eq
    v11 := fun e => by rw [ups_ne (by omega)]; exact h.v11 (by rwa [upd_ne (by omega)] at e)
    v12 := fun e => by rw [ups_ne (by omega)]; exact h.v12 (by rwa [upd_ne (by omega)] at e)
    v13 := fun e => by rw [ups_ne (by omega)]; exact h.v13 (by rwa [upd_ne (by omega)] at e)
    c4 := fun e => (by rw [upd_ne (by omega)]; exact (h.c4 (by rwa [upd_ne (by omega)] at e)))
    c5 := fun e => ⟨(by rw [upd_ne (by omega)]; exact (h.c5 (by rwa [upd_ne (by omega)] at e)).1), (by rw [upd_ne (by omega)]; exact (h.c5 (by rwa [upd_ne (by omega)] at e)).2)⟩
    c6 := fun e => (by rw [upd_ne (by omega)]; exact (h.c6 (by rwa [upd_ne (by omega)] at e)))
    c9 := fun e => (by rw [upd_ne (by omega)]; exact (h.c9 (by rwa [upd_ne (by omega)] at e)))
    c10 := fun _ => ⟨(by rw [upd_ne (by omega)]; exact e7), (by rw [upd_ne (by omega)]; exact e9)⟩
    c11 := fun e => upd_eq
    c12 := fun e => ⟨(by rw [upd_ne (by omega)]; exact (h.c12 (by rwa [upd_ne (by omega)] at e)).1), (by rw [upd_ne (by omega)]; exact (h.c12 (by rwa [upd_ne (by omega)] at e)).2.1), (by rw [upd_ne (by omega)]; exact (h.c12 (by rwa [upd_ne (by omega)] at e)).2.2)⟩
  }
theorem CellI.s11 (h : CellI g gb x i j w0 w f ν b8 b13 b5 W) (e10 : f 10 = true)  : CellI g gb x i j w0 w (upd f 11) (ups ν 17 (.int .i64 (rd cellB_ j))) b8 b13 b5 W :=
  { h with
    n := fun q hq => by rw [ups_ne (by omega)]; exact h.n q hq
    v1 := fun e => by rw [ups_ne (by omega)]; exact h.v1 (by rwa [upd_ne (by omega)] at e)
    v2 := fun e => by rw [ups_ne (by omega)]; exact h.v2 (by rwa [upd_ne (by omega)] at e)
    v4 := fun e => by rw [ups_ne (by omega)]; exact h.v4 (by rwa [upd_ne (by omega)] at e)
    v5 := fun e => by rw [ups_ne (by omega)]; exact h.v5 (by rwa [upd_ne (by omega)] at e)
    v6 := fun e => by rw [ups_ne (by omega)]; exact h.v6 (by rwa [upd_ne (by omega)] at e)
    v7 := fun e => by rw [ups_ne (by omega)]; exact h.v7 (by rwa [upd_ne (by omega)] at e)
    v9 := fun e => by rw [ups_ne (by omega)]; exact h.v9 (by rwa [upd_ne (by omega)] at e)
    v10 := fun e => by rw [ups_ne (by omega)]; exact h.v10 (by rwa [upd_ne (by omega)] at e)
    v11 := fun _ => ups_eq
    v12 := fun e => by rw [ups_ne (by omega)]; exact h.v12 (by rwa [upd_ne (by omega)] at e)
    v13 := fun e => by rw [ups_ne (by omega)]; exact h.v13 (by rwa [upd_ne (by omega)] at e)
    c4 := fun e => (by rw [upd_ne (by omega)]; exact (h.c4 (by rwa [upd_ne (by omega)] at e)))
    c5 := fun e => ⟨(by rw [upd_ne (by omega)]; exact (h.c5 (by rwa [upd_ne (by omega)] at e)).1), (by rw [upd_ne (by omega)]; exact (h.c5 (by rwa [upd_ne (by omega)] at e)).2)⟩
    c6 := fun e => (by rw [upd_ne (by omega)]; exact (h.c6 (by rwa [upd_ne (by omega)] at e)))
    c9 := fun e => (by rw [upd_ne (by omega)]; exact (h.c9 (by rwa [upd_ne (by omega)] at e)))
    c10 := fun e => ⟨(by rw [upd_ne (by omega)]; exact (h.c10 (by rwa [upd_ne (by omega)] at e)).1), (by rw [upd_ne (by omega)]; exact (h.c10 (by rwa [upd_ne (by omega)] at e)).2)⟩
    c11 := fun _ => (by rw [upd_ne (by omega)]; exact e10)
    c12 := fun e => ⟨(by rw [upd_ne (by omega)]; exact (h.c12 (by rwa [upd_ne (by omega)] at e)).1), (by rw [upd_ne (by omega)]; exact (h.c12 (by rwa [upd_ne (by omega)] at e)).2.1), upd_eq⟩
  }
theorem CellI.s12 (h : CellI g gb x i j w0 w f ν b8 b13 b5 W) (e1 : f 1 = true) (e6 : f 6 = true) (e11 : f 11 = true)  : CellI g gb x i j w0 w (upd f 12) (ups ν 18 (.agg #[.string x, .int .i64 (rd cellA i), .int .i64 (rd cellB_ j), .int .i64 0, .int .i64 0, .int .i64 0, .int .i64 0, .int .i64 0, .int .i64 0, .int .i64 0, .int .i64 0])) b8 b13 b5 W :=
  { h with
    n := fun q hq => by rw [ups_ne (by omega)]; exact h.n q hq
    v1 := fun e => by rw [ups_ne (by omega)]; exact h.v1 (by rwa [upd_ne (by omega)] at e)
    v2 := fun e => by rw [ups_ne (by omega)]; exact h.v2 (by rwa [upd_ne (by omega)] at e)
    v4 := fun e => by rw [ups_ne (by omega)]; exact h.v4 (by rwa [upd_ne (by omega)] at e)
    v5 := fun e => by rw [ups_ne (by omega)]; exact h.v5 (by rwa [upd_ne (by omega)] at e)
    v6 := fun e => by rw [ups_ne (by omega)]; exact h.v6 (by rwa [upd_ne (by omega)] at e)
    v7 := fun e => by rw [ups_ne (by omega)]; exact h.v7 (by rwa [upd_ne (by omega)] at e)
    v9 := fun e => by rw [ups_ne (by omega)]; exact h.v9 (by rwa [upd_ne (by omega)] at e)
    v10 := fun e => by rw [ups_ne (by omega)]; exact h.v10 (by rwa [upd_ne (by omega)] at e)
    v11 := fun e => by rw [ups_ne (by omega)]; exact h.v11 (by rwa [upd_ne (by omega)] at e)
    v12 := fun _ => ups_eq
    v13 := fun e => by rw [ups_ne (by omega)]; exact h.v13 (by rwa [upd_ne (by omega)] at e)
    c4 := fun e => (by rw [upd_ne (by omega)]; exact (h.c4 (by rwa [upd_ne (by omega)] at e)))
    c5 := fun e => ⟨(by rw [upd_ne (by omega)]; exact (h.c5 (by rwa [upd_ne (by omega)] at e)).1), (by rw [upd_ne (by omega)]; exact (h.c5 (by rwa [upd_ne (by omega)] at e)).2)⟩
    c6 := fun e => (by rw [upd_ne (by omega)]; exact (h.c6 (by rwa [upd_ne (by omega)] at e)))
    c9 := fun e => (by rw [upd_ne (by omega)]; exact (h.c9 (by rwa [upd_ne (by omega)] at e)))
    c10 := fun e => ⟨(by rw [upd_ne (by omega)]; exact (h.c10 (by rwa [upd_ne (by omega)] at e)).1), (by rw [upd_ne (by omega)]; exact (h.c10 (by rwa [upd_ne (by omega)] at e)).2)⟩
    c11 := fun e => (by rw [upd_ne (by omega)]; exact (h.c11 (by rwa [upd_ne (by omega)] at e)))
    c12 := fun _ => ⟨(by rw [upd_ne (by omega)]; exact e1), (by rw [upd_ne (by omega)]; exact e6), (by rw [upd_ne (by omega)]; exact e11)⟩
  }
theorem CellI.s13 (h : CellI g gb x i j w0 w f ν b8 b13 b5 W)  (hw : W.heap[b5]? = some cellZ) (h1 : w.heap.size ≤ b5) (h2 : w0.heap.size ≤ b5) (h3 : b5 ≠ g) (h4 : b5 ≠ gb) : CellI g gb x i j w0 w (upd f 13) (ups ν 5 (.pointer (some ⟨b5, 0, none⟩))) b8 b13 b5 W :=
  { h with
    n := fun q hq => by rw [ups_ne (by omega)]; exact h.n q hq
    v1 := fun e => by rw [ups_ne (by omega)]; exact h.v1 (by rwa [upd_ne (by omega)] at e)
    v2 := fun e => by rw [ups_ne (by omega)]; exact h.v2 (by rwa [upd_ne (by omega)] at e)
    v4 := fun e => by rw [ups_ne (by omega)]; exact h.v4 (by rwa [upd_ne (by omega)] at e)
    v5 := fun e => by rw [ups_ne (by omega)]; exact h.v5 (by rwa [upd_ne (by omega)] at e)
    v6 := fun e => by rw [ups_ne (by omega)]; exact h.v6 (by rwa [upd_ne (by omega)] at e)
    v7 := fun e => by rw [ups_ne (by omega)]; exact h.v7 (by rwa [upd_ne (by omega)] at e)
    v9 := fun e => by rw [ups_ne (by omega)]; exact h.v9 (by rwa [upd_ne (by omega)] at e)
    v10 := fun e => by rw [ups_ne (by omega)]; exact h.v10 (by rwa [upd_ne (by omega)] at e)
    v11 := fun e => by rw [ups_ne (by omega)]; exact h.v11 (by rwa [upd_ne (by omega)] at e)
    v12 := fun e => by rw [ups_ne (by omega)]; exact h.v12 (by rwa [upd_ne (by omega)] at e)
    v13 := fun _ => ⟨ups_eq, hw, h1, h2, h3, h4⟩
    c4 := fun e => (by rw [upd_ne (by omega)]; exact (h.c4 (by rwa [upd_ne (by omega)] at e)))
    c5 := fun e => ⟨(by rw [upd_ne (by omega)]; exact (h.c5 (by rwa [upd_ne (by omega)] at e)).1), (by rw [upd_ne (by omega)]; exact (h.c5 (by rwa [upd_ne (by omega)] at e)).2)⟩
    c6 := fun e => (by rw [upd_ne (by omega)]; exact (h.c6 (by rwa [upd_ne (by omega)] at e)))
    c9 := fun e => (by rw [upd_ne (by omega)]; exact (h.c9 (by rwa [upd_ne (by omega)] at e)))
    c10 := fun e => ⟨(by rw [upd_ne (by omega)]; exact (h.c10 (by rwa [upd_ne (by omega)] at e)).1), (by rw [upd_ne (by omega)]; exact (h.c10 (by rwa [upd_ne (by omega)] at e)).2)⟩
    c11 := fun e => (by rw [upd_ne (by omega)]; exact (h.c11 (by rwa [upd_ne (by omega)] at e)))
    c12 := fun e => ⟨(by rw [upd_ne (by omega)]; exact (h.c12 (by rwa [upd_ne (by omega)] at e)).1), (by rw [upd_ne (by omega)]; exact (h.c12 (by rwa [upd_ne (by omega)] at e)).2.1), (by rw [upd_ne (by omega)]; exact (h.c12 (by rwa [upd_ne (by omega)] at e)).2.2)⟩
  }
end
theorem CellI.b8' {g gb : Nat} {x : ByteArray} {i j : Int} {w0 w : World} {f : Nat → Bool} {ν : Nat → Option Value} {b8 b13 b5 b : Nat} {W : World} (h : CellI g gb x i j w0 w f ν b8 b13 b5 W) (f2 : f 2 = false) (f5 : f 5 = false) : CellI g gb x i j w0 w f ν b b13 b5 W :=
  { h with
    v2 := fun e => by rw [f2] at e; cases e
    v5 := fun e => by rw [f5] at e; cases e }
theorem CellI.b13' {g gb : Nat} {x : ByteArray} {i j : Int} {w0 w : World} {f : Nat → Bool} {ν : Nat → Option Value} {b8 b13 b5 b : Nat} {W : World} (h : CellI g gb x i j w0 w f ν b8 b13 b5 W) (f7 : f 7 = false) (f10 : f 10 = false) : CellI g gb x i j w0 w f ν b8 b b5 W :=
  { h with
    v7 := fun e => by rw [f7] at e; cases e
    v10 := fun e => by rw [f10] at e; cases e }
theorem CellI.b5' {g gb : Nat} {x : ByteArray} {i j : Int} {w0 w : World} {f : Nat → Bool} {ν : Nat → Option Value} {b8 b13 b5 b : Nat} {W : World} (h : CellI g gb x i j w0 w f ν b8 b13 b5 W) (f13 : f 13 = false) : CellI g gb x i j w0 w f ν b8 b13 b W :=
  { h with
    v13 := fun e => by rw [f13] at e; cases e }
theorem idx_run {a : Act} {o : Oper} {ty : TypeId} {x y : Tmp} {b : Nat} {i : Int} {W : World} (ho : o.op = .indexAddr ty (.tmp x) (.tmp y)) (hu : (Tryd.prog).underlying ty = some (.slice 3)) (e1 : a.eval (.tmp x) = .slice (some ⟨b, 0, none⟩) 6 6) (e2 : a.eval (.tmp y) = .int .i64 i) (h0 : 0 ≤ i) (h1 : i < 6) :
    (execOp a.eval o).run Tryd.prog W = .ok (.value (.pointer (some (Addr.add ⟨b, 0, none⟩ i.toNat)))) W := by
  have p : (0 ≤ i) = True := eq_true h0
  have q : (i < 6) = True := eq_true h1
  unfold execOp
  rw [ho]
  simp only [e1, e2]
  go_simp
theorem load_run {a : Act} {o : Oper} {x : Tmp} {p : Addr} {n : Int} {W : World} (ho : o.op = .load 3 (.tmp x)) (e1 : a.eval (.tmp x) = .pointer (some p)) (hc : W.cell? p = some (.int .i64 n)) :
    (execOp a.eval o).run Tryd.prog W = .ok (.value (.int .i64 n)) W := by
  unfold execOp
  rw [ho]
  simp only [e1]
  go_simp
theorem build_run {ev : Operand → Value} {o : Oper} {x : ByteArray} {m n : Int} {W : World} (ho : o.op = .build 38 #[(0, .tmp 7), (1, .tmp 12), (2, .tmp 17)]) (e1 : ev (.tmp 7) = .string x) (e2 : ev (.tmp 12) = .int .i64 m) (e3 : ev (.tmp 17) = .int .i64 n) :
    (execOp ev o).run Tryd.prog W = .ok (.value (.agg #[.string x, .int .i64 m, .int .i64 n, .int .i64 0, .int .i64 0, .int .i64 0, .int .i64 0, .int .i64 0, .int .i64 0, .int .i64 0, .int .i64 0])) W := by
  unfold execOp
  rw [ho]
  go_simp
def cellP_ (p0 p1 p2 p3 : Int) (f : Nat → Bool) : Int := if f 9 = true then p3 else if f 4 = true then p2 else if f 1 = true then p1 else p0
theorem keep_new (W : World) (g : Nat) (o : Obj) : KeepBut W (W.alloc o) g none := KeepBut.of_grown (World.grownBy_alloc W o none) g
theorem ready_lt {f : Nat → Bool} {i : Nat} (h : i ∈ readyT cellT1.2 (cellL f)) : i < 15 ∧ readyAt cellT1.2 (cellL f) i = true := by
  unfold readyT at h
  rw [List.mem_filter, List.mem_range] at h
  exact ⟨by simpa [cellT1] using h.1, h.2⟩
set_option maxHeartbeats 4000000 in
set_option maxRecDepth 100000 in
theorem cellReg {Q : Exit → Act → World → Prop} {k g gb : Nat} {s0 : List Int} {p0 p1 p2 p3 : Int} {x : ByteArray} {i j : Int} {w0 w : World} {a : Act}
    (HT : rtab .any (opsOf Tryd.f43 1) = cellT1) (ha : 18 < a.tmps.size) (h6 : a.eval (.tmp 6) = .pointer (some ⟨g, 0, none⟩)) (h9 : a.eval (.tmp 9) = .pointer (some ⟨g, 0, none⟩)) (h14 : a.eval (.tmp 14) = .pointer (some ⟨g, 0, none⟩)) (hgb : gb ≠ g)
    (A1 : spec_l20Text.f k s0 p0 = some (x, p1)) (A4 : spec_l20Rd_pick.f k s0 p1 6 = some (i, p2)) (A9 : spec_l20Rd_pick.f k s0 p2 6 = some (j, p3)) (i0 : 0 ≤ i) (i1 : i < 6) (j0 : 0 ≤ j) (j1 : j < 6)
    (hJ : ∀ (f : Nat → Bool) ν b8 b13 b5 W, cellN f = 0 → CellI g gb x i j w0 w f ν b8 b13 b5 W → IsS62 w0 W g s0 (cellP_ p0 p1 p2 p3 f) → wpAnyLast Tryd.prog .any (opsOf Tryd.f43 1) Q (fun _ => True) [] 1 (cellL f).toArray (ovl a ν) W) :
    ∀ (n : Nat) (f : Nat → Bool) ν b8 b13 b5 W, cellN f = n → CellI g gb x i j w0 w f ν b8 b13 b5 W → IsS62 w0 W g s0 (cellP_ p0 p1 p2 p3 f) → wpAnyLast Tryd.prog .any (opsOf Tryd.f43 1) Q (fun _ => True) [] (n + 1) (cellL f).toArray (ovl a ν) W := by
  intro n
  induction n with
  | zero => exact hJ
  | succ n ih =>
    intro f ν b8 b13 b5 W hn hC hI
    have hr : Region.ready .any (opsOf Tryd.f43 1) (cellL f).toArray = readyT cellT1.2 (cellL f) := by rw [ready_eq, HT]
    refine ⟨fun h => absurd (hr.symm.trans h) (fun h => cell_ready h (by omega)), fun q hq => ?_⟩
    rw [hr] at hq
    obtain ⟨hlt, hq⟩ := ready_lt hq
    have e6 : (ovl a ν).eval (.tmp 6) = .pointer (some ⟨g, 0, none⟩) := by rw [ovl_eval _ _ _ (by omega), hC.n 6 (by omega)]; exact h6
    have e9 : (ovl a ν).eval (.tmp 9) = .pointer (some ⟨g, 0, none⟩) := by rw [ovl_eval _ _ _ (by omega), hC.n 9 (by omega)]; exact h9
    have e14 : (ovl a ν).eval (.tmp 14) = .pointer (some ⟨g, 0, none⟩) := by rw [ovl_eval _ _ _ (by omega), hC.n 14 (by omega)]; exact h14
    have hcases : q = 0 ∨ q = 1 ∨ q = 2 ∨ q = 3 ∨ q = 4 ∨ q = 5 ∨ q = 6 ∨ q = 7 ∨ q = 8 ∨ q = 9 ∨ q = 10 ∨ q = 11 ∨ q = 12 ∨ q = 13 ∨ q = 14 := by omega
    have set_ : ∀ q, q < 14 → (cellL f).toArray.setIfInBounds q true = (cellL (upd f q)).toArray := by
      intro q hq
      have : q = 0 ∨ q = 1 ∨ q = 2 ∨ q = 3 ∨ q = 4 ∨ q = 5 ∨ q = 6 ∨ q = 7 ∨ q = 8 ∨ q = 9 ∨ q = 10 ∨ q = 11 ∨ q = 12 ∨ q = 13 := by omega
      rcases this with rfl | rfl | rfl | rfl | rfl | rfl | rfl | rfl | rfl | rfl | rfl | rfl | rfl | rfl <;> rfl
    rcases hcases with rfl | rfl | rfl | rfl | rfl | rfl | rfl | rfl | rfl | rfl | rfl | rfl | rfl | rfl | rfl
    · simp [readyAt, cellT1, cellL] at hq
    · have f1 : f 1 = false := by simpa [readyAt, cellT1, cellL] using hq
      have f4 : f 4 = false := by cases h : f 4 with | false => rfl | true => have := hC.c4 h; rw [f1] at this; cases this
      have f9 : f 9 = false := by cases h : f 9 with | false => rfl | true => have := hC.c9 h; rw [f4] at this; cases this
      have hI0 : IsS62 w0 W g s0 p0 := by simpa [cellP_, f1, f4, f9] using hI
      refine wpOp_step (o := _) rfl fun K' hK => ?_
      refine goes_ Tryd.func48 (by kernel_rfl) rfl #[.pointer (some ⟨g, 0, none⟩)] (by rfl) rfl rfl (by simp only [List.map_toArray, List.map_cons, List.map_nil, e6]) ?_
      refine (spec_l20Text.calls k g s0 p0 x p1 w0 _ hI0 hC.B A1).mono ?_
      rintro e W' ⟨rfl, hi, hb, hk⟩
      refine ⟨_, rfl, hK _ _ ⟨fun _ _ => trivial, ?_⟩⟩
      show wpAnyLast Tryd.prog .any (opsOf Tryd.f43 1) Q (fun _ => True) [] (n + 1) _ ((ovl a ν).put (some 7) _) _
      rw [set_ 1 (by omega), ovl_put]
      exact ih (upd f 1) _ b8 b13 b5 W' (by simp [cellN, upd, f1] at hn ⊢; omega) ((hC.move hk hgb hb).s1) (by simpa [cellP_, upd, f4, f9] using hi)
    · have f2 : f 2 = false := by simpa [readyAt, cellT1, cellL] using hq
      have f5 : f 5 = false := by cases h : f 5 with | false => rfl | true => have := (hC.c5 h).1; rw [f2] at this; cases this
      refine wpOp_step (o := { dst := some 8, op := Go.Op.buildSlice 54 6 #[(0, Go.Operand.const (Go.Value.int Go.IntKind.i64 1)), (1, Go.Operand.const (Go.Value.int Go.IntKind.i64 1)), (2, Go.Operand.const (Go.Value.int Go.IntKind.i64 1)), (3, Go.Operand.const (Go.Value.int Go.IntKind.i64 2)), (4, Go.Operand.const (Go.Value.int Go.IntKind.i64 3)), (5, Go.Operand.const (Go.Value.int Go.IntKind.i64 4))], type := 54, pos := "l20_draw.go:154", after := #[], guard := none }) rfl fun K' hK => ?_
      refine event_step (v := .slice (some ⟨W.heap.size, 0, none⟩) 6 6) (w1 := W.alloc (.cells (cellA.map (Value.int .i64)).toArray 3 (0, 0))) rfl (by first | (go_simp; done) | (go_simp; rfl)) ?_
      refine hK _ _ ⟨fun _ _ => trivial, ?_⟩
      rw [set_ 2 (by omega), ovl_put]
      have hk := keep_new W g (.cells (cellA.map (Value.int .i64)).toArray 3 (0, 0))
      refine ih (upd f 2) _ W.heap.size b13 b5 _ (by simp [cellN, upd, f2] at hn ⊢; omega) (CellI.s2 (b8 := W.heap.size) ((hC.move hk hgb (below_alloc hC.B _)).b8' f2 f5) (blk_new W _) (Nat.ne_of_gt hI.lt)) (by simpa [cellP_, upd] using hI.alloc _)
    · simp [readyAt, cellT1, cellL] at hq
    · have ⟨f4, f1⟩ : f 4 = false ∧ f 1 = true := by simpa [readyAt, cellT1, cellL] using hq
      have f9 : f 9 = false := by cases h : f 9 with | false => rfl | true => have := hC.c9 h; rw [f4] at this; cases this
      have hI0 : IsS62 w0 W g s0 p1 := by simpa [cellP_, f1, f4, f9] using hI
      refine wpOp_step (o := _) rfl fun K' hK => ?_
      refine goes_ Tryd.func38 (by kernel_rfl) rfl #[.pointer (some ⟨g, 0, none⟩), .int .i64 6] (by rfl) rfl rfl (by simp only [List.map_toArray, List.map_cons, List.map_nil, e9]; rfl) ?_
      refine (spec_l20Rd_pick.calls k g s0 p1 6 i p2 w0 _ hI0 hC.B A4).mono ?_
      rintro e W' ⟨rfl, hi, hb, hk⟩
      refine ⟨_, rfl, hK _ _ ⟨fun _ _ => trivial, ?_⟩⟩
      show wpAnyLast Tryd.prog .any (opsOf Tryd.f43 1) Q (fun _ => True) [] (n + 1) _ ((ovl a ν).put (some 10) _) _
      rw [set_ 4 (by omega), ovl_put]
      exact ih (upd f 4) _ b8 b13 b5 W' (by simp [cellN, upd, f4] at hn ⊢; omega) ((hC.move hk hgb hb).s4 f1) (by simpa [cellP_, upd, f9] using hi)
    · have ⟨f5, f2, f4⟩ : f 5 = false ∧ f 2 = true ∧ f 4 = true := by simpa [readyAt, cellT1, cellL] using hq
      have e8 : (ovl a ν).eval (.tmp 8) = .slice (some ⟨b8, 0, none⟩) 6 6 := by rw [ovl_eval _ _ _ (by omega), (hC.v2 f2).1]; rfl
      have e10 : (ovl a ν).eval (.tmp 10) = .int .i64 i := by rw [ovl_eval _ _ _ (by omega), hC.v4 f4]; rfl
      refine wpOp_step (o := { dst := some 11, op := Go.Op.indexAddr 54 (Go.Operand.tmp 8) (Go.Operand.tmp 10), type := 0, pos := "l20_draw.go:154", after := #[{ on := 2, ground := Go.Ground.data }, { on := 4, ground := Go.Ground.data }], guard := none }) rfl fun K' hK => ?_
      refine event_step (v := .pointer (some (Addr.add ⟨b8, 0, none⟩ i.toNat))) (w1 := W) rfl (idx_run rfl Tryd.underlying54 e8 e10 i0 i1) ?_
      refine hK _ _ ⟨fun _ _ => trivial, ?_⟩
      rw [set_ 5 (by omega), ovl_put]
      exact ih (upd f 5) _ b8 b13 b5 W (by simp [cellN, upd, f5] at hn ⊢; omega) (hC.s5 f2 f4) (by simpa [cellP_, upd] using hI)
    · have ⟨f6, f5⟩ : f 6 = false ∧ f 5 = true := by simpa [readyAt, cellT1, cellL] using hq
      have e11 : (ovl a ν).eval (.tmp 11) = .pointer (some (Addr.add ⟨b8, 0, none⟩ i.toNat)) := by rw [ovl_eval _ _ _ (by omega), hC.v5 f5]; rfl
      have hc := rd_block (hC.v2 (hC.c5 f5).1).2.1 i0 (by simpa [cellA] using i1)
      refine wpOp_step (o := { dst := some 12, op := Go.Op.load 3 (Go.Operand.tmp 11), type := 3, pos := "l20_draw.go:154", after := #[{ on := 5, ground := Go.Ground.data }], guard := none }) rfl fun K' hK => ?_
      refine event_step (v := .int .i64 (rd cellA i)) (w1 := W) rfl (load_run rfl e11 hc) ?_
      refine hK _ _ ⟨fun _ _ => trivial, ?_⟩
      rw [set_ 6 (by omega), ovl_put]
      exact ih (upd f 6) _ b8 b13 b5 W (by simp [cellN, upd, f6] at hn ⊢; omega) (hC.s6 f5) (by simpa [cellP_, upd] using hI)
    · have f7 : f 7 = false := by simpa [readyAt, cellT1, cellL] using hq
      have f10 : f 10 = false := by cases h : f 10 with | false => rfl | true => have := (hC.c10 h).1; rw [f7] at this; cases this
      refine wpOp_step (o := { dst := some 13, op := Go.Op.buildSlice 54 6 #[(0, Go.Operand.const (Go.Value.int Go.IntKind.i64 1)), (1, Go.Operand.const (Go.Value.int Go.IntKind.i64 1)), (2, Go.Operand.const (Go.Value.int Go.IntKind.i64 1)), (3, Go.Operand.const (Go.Value.int Go.IntKind.i64 1)), (4, Go.Operand.const (Go.Value.int Go.IntKind.i64 2)), (5, Go.Operand.const (Go.Value.int Go.IntKind.i64 3))], type := 54, pos := "l20_draw.go:154", after := #[], guard := none }) rfl fun K' hK => ?_
      refine event_step (v := .slice (some ⟨W.heap.size, 0, none⟩) 6 6) (w1 := W.alloc (.cells (cellB_.map (Value.int .i64)).toArray 3 (0, 0))) rfl (by first | (go_simp; done) | (go_simp; rfl)) ?_
      refine hK _ _ ⟨fun _ _ => trivial, ?_⟩
      rw [set_ 7 (by omega), ovl_put]
      have hk := keep_new W g (.cells (cellB_.map (Value.int .i64)).toArray 3 (0, 0))
      refine ih (upd f 7) _ b8 W.heap.size b5 _ (by simp [cellN, upd, f7] at hn ⊢; omega) (CellI.s7 (b13 := W.heap.size) ((hC.move hk hgb (below_alloc hC.B _)).b13' f7 f10) (blk_new W _) (Nat.ne_of_gt hI.lt)) (by simpa [cellP_, upd] using hI.alloc _)
    · simp [readyAt, cellT1, cellL] at hq
    · have ⟨f9, f4⟩ : f 9 = false ∧ f 4 = true := by simpa [readyAt, cellT1, cellL] using hq
      have hI0 : IsS62 w0 W g s0 p2 := by simpa [cellP_, f4, f9] using hI
      refine wpOp_step (o := _) rfl fun K' hK => ?_
      refine goes_ Tryd.func38 (by kernel_rfl) rfl #[.pointer (some ⟨g, 0, none⟩), .int .i64 6] (by rfl) rfl rfl (by simp only [List.map_toArray, List.map_cons, List.map_nil, e14]; rfl) ?_
      refine (spec_l20Rd_pick.calls k g s0 p2 6 j p3 w0 _ hI0 hC.B A9).mono ?_
      rintro e W' ⟨rfl, hi, hb, hk⟩
      refine ⟨_, rfl, hK _ _ ⟨fun _ _ => trivial, ?_⟩⟩
      show wpAnyLast Tryd.prog .any (opsOf Tryd.f43 1) Q (fun _ => True) [] (n + 1) _ ((ovl a ν).put (some 15) _) _
      rw [set_ 9 (by omega), ovl_put]
      exact ih (upd f 9) _ b8 b13 b5 W' (by simp [cellN, upd, f9] at hn ⊢; omega) ((hC.move hk hgb hb).s9 f4) (by simpa [cellP_, upd] using hi)
    · have ⟨f10, f7, f9⟩ : f 10 = false ∧ f 7 = true ∧ f 9 = true := by simpa [readyAt, cellT1, cellL] using hq
      have e13 : (ovl a ν).eval (.tmp 13) = .slice (some ⟨b13, 0, none⟩) 6 6 := by rw [ovl_eval _ _ _ (by omega), (hC.v7 f7).1]; rfl
      have e15 : (ovl a ν).eval (.tmp 15) = .int .i64 j := by rw [ovl_eval _ _ _ (by omega), hC.v9 f9]; rfl
      refine wpOp_step (o := { dst := some 16, op := Go.Op.indexAddr 54 (Go.Operand.tmp 13) (Go.Operand.tmp 15), type := 0, pos := "l20_draw.go:154", after := #[{ on := 7, ground := Go.Ground.data }, { on := 9, ground := Go.Ground.data }], guard := none }) rfl fun K' hK => ?_
      refine event_step (v := .pointer (some (Addr.add ⟨b13, 0, none⟩ j.toNat))) (w1 := W) rfl (idx_run rfl Tryd.underlying54 e13 e15 j0 j1) ?_
      refine hK _ _ ⟨fun _ _ => trivial, ?_⟩
      rw [set_ 10 (by omega), ovl_put]
      exact ih (upd f 10) _ b8 b13 b5 W (by simp [cellN, upd, f10] at hn ⊢; omega) (hC.s10 f7 f9) (by simpa [cellP_, upd] using hI)
    · have ⟨f11, f10⟩ : f 11 = false ∧ f 10 = true := by simpa [readyAt, cellT1, cellL] using hq
      have e16 : (ovl a ν).eval (.tmp 16) = .pointer (some (Addr.add ⟨b13, 0, none⟩ j.toNat)) := by rw [ovl_eval _ _ _ (by omega), hC.v10 f10]; rfl
      have hc := rd_block (hC.v7 (hC.c10 f10).1).2.1 j0 (by simpa [cellB_] using j1)
      refine wpOp_step (o := { dst := some 17, op := Go.Op.load 3 (Go.Operand.tmp 16), type := 3, pos := "l20_draw.go:154", after := #[{ on := 10, ground := Go.Ground.data }], guard := none }) rfl fun K' hK => ?_
      refine event_step (v := .int .i64 (rd cellB_ j)) (w1 := W) rfl (load_run rfl e16 hc) ?_
      refine hK _ _ ⟨fun _ _ => trivial, ?_⟩
      rw [set_ 11 (by omega), ovl_put]
      exact ih (upd f 11) _ b8 b13 b5 W (by simp [cellN, upd, f11] at hn ⊢; omega) (hC.s11 f10) (by simpa [cellP_, upd] using hI)
    · have ⟨f12, f1, f6, f11⟩ : f 12 = false ∧ f 1 = true ∧ f 6 = true ∧ f 11 = true := by simpa [readyAt, cellT1, cellL] using hq
      have e7 : (ovl a ν).eval (.tmp 7) = .string x := by rw [ovl_eval _ _ _ (by omega), hC.v1 f1]; rfl
      have e12 : (ovl a ν).eval (.tmp 12) = .int .i64 (rd cellA i) := by rw [ovl_eval _ _ _ (by omega), hC.v6 f6]; rfl
      have e17 : (ovl a ν).eval (.tmp 17) = .int .i64 (rd cellB_ j) := by rw [ovl_eval _ _ _ (by omega), hC.v11 f11]; rfl
      refine wpOp_step (o := { dst := some 18, op := Go.Op.build 38 #[(0, Go.Operand.tmp 7), (1, Go.Operand.tmp 12), (2, Go.Operand.tmp 17)], type := 38, pos := "l20_draw.go:154", after := #[{ on := 1, ground := Go.Ground.data }, { on := 6, ground := Go.Ground.data }, { on := 11, ground := Go.Ground.data }], guard := none }) rfl fun K' hK => ?_
      refine event_step (v := .agg #[.string x, .int .i64 (rd cellA i), .int .i64 (rd cellB_ j), .int .i64 0, .int .i64 0, .int .i64 0, .int .i64 0, .int .i64 0, .int .i64 0, .int .i64 0, .int .i64 0]) (w1 := W) rfl (build_run rfl e7 e12 e17) ?_
      refine hK _ _ ⟨fun _ _ => trivial, ?_⟩
      rw [set_ 12 (by omega), ovl_put]
      exact ih (upd f 12) _ b8 b13 b5 W (by simp [cellN, upd, f12] at hn ⊢; omega) (hC.s12 f1 f6 f11) (by simpa [cellP_, upd] using hI)
    · have f13 : f 13 = false := by simpa [readyAt, cellT1, cellL] using hq
      refine wpOp_step (o := { dst := some 5, op := Go.Op.alloc 38, type := 0, pos := "l20_draw.go:154", after := #[], guard := none }) rfl fun K' hK => ?_
      refine event_step (v := .pointer (some ⟨W.heap.size, 0, none⟩)) (w1 := W.alloc cellZ) rfl (by first | (go_simp; done) | (go_simp; rfl)) ?_
      refine hK _ _ ⟨fun _ _ => trivial, ?_⟩
      rw [set_ 13 (by omega), ovl_put]
      have hk := keep_new W g cellZ
      refine ih (upd f 13) _ b8 b13 W.heap.size _ (by simp [cellN, upd, f13] at hn ⊢; omega) (CellI.s13 (b5 := W.heap.size) ((hC.move hk hgb (below_alloc hC.B _)).b5' f13) (blk_new W _) hC.K.1 (Nat.le_trans hC.B.size (Nat.le_refl _)) (Nat.ne_of_gt hI.lt) (Nat.ne_of_gt (blk_lt hC.z))) (by simpa [cellP_, upd] using hI.alloc _)
    · have : f 1 = true ∧ f 2 = true ∧ f 4 = true ∧ f 5 = true ∧ f 6 = true ∧ f 7 = true ∧ f 9 = true ∧ f 10 = true ∧ f 11 = true ∧ f 12 = true ∧ f 13 = true := by
        simp [readyAt, cellT1, cellL] at hq
        simp [hq]
      obtain ⟨g1, g2, g4, g5, g6, g7, g9, g10, g11, g12, g13⟩ := this
      simp [cellN, g1, g2, g4, g5, g6, g7, g9, g10, g11, g12, g13] at hn
theorem cellFin {g gb : Nat} {x : ByteArray} {i j : Int} {w0 w : World} {f : Nat → Bool} {ν : Nat → Option Value} {b8 b13 b5 : Nat} {W : World} (a : Act) (h : CellI g gb x i j w0 w f ν b8 b13 b5 W) (hn : cellN f = 0) :
    (cellL f).toArray = #[true, true, true, true, true, true, true, true, true, true, true, true, true, true, false] ∧ f 13 = true ∧ f 9 = true ∧
    ovl a ν = putAll a [(7, .string x), (8, .slice (some ⟨b8, 0, none⟩) 6 6), (10, .int .i64 i), (12, .int .i64 (rd cellA i)), (13, .slice (some ⟨b13, 0, none⟩) 6 6), (15, .int .i64 j), (17, .int .i64 (rd cellB_ j)), (5, .pointer (some ⟨b5, 0, none⟩)), (11, .pointer (some (Addr.add ⟨b8, 0, none⟩ i.toNat))), (16, .pointer (some (Addr.add ⟨b13, 0, none⟩ j.toNat))), (18, .agg #[.string x, .int .i64 (rd cellA i), .int .i64 (rd cellB_ j), .int .i64 0, .int .i64 0, .int .i64 0, .int .i64 0, .int .i64 0, .int .i64 0, .int .i64 0, .int .i64 0])] := by
  have hf : ∀ q, q = 1 ∨ q = 2 ∨ q = 4 ∨ q = 5 ∨ q = 6 ∨ q = 7 ∨ q = 9 ∨ q = 10 ∨ q = 11 ∨ q = 12 ∨ q = 13 → f q = true := by
    intro q hq
    cases hfq : f q with
    | true => rfl
    | false =>
      unfold cellN at hn
      rcases hq with rfl | rfl | rfl | rfl | rfl | rfl | rfl | rfl | rfl | rfl | rfl <;> simp [hfq] at hn
  have h1 := hf 1 (by omega)
  have h2 := hf 2 (by omega)
  have h4 := hf 4 (by omega)
  have h5 := hf 5 (by omega)
  have h6 := hf 6 (by omega)
  have h7 := hf 7 (by omega)
  have h9 := hf 9 (by omega)
  have h10 := hf 10 (by omega)
  have h11 := hf 11 (by omega)
  have h12 := hf 12 (by omega)
  have h13 := hf 13 (by omega)
  refine ⟨by simp [cellL, h1, h2, h4, h5, h6, h7, h9, h10, h11, h12, h13], h13, h9, ?_⟩
  rw [putAll_ovl]
  congr 1
  funext q
  by_cases hq : q = 5 ∨ q = 7 ∨ q = 8 ∨ q = 10 ∨ q = 11 ∨ q = 12 ∨ q = 13 ∨ q = 15 ∨ q = 16 ∨ q = 17 ∨ q = 18
  · rcases hq with rfl | rfl | rfl | rfl | rfl | rfl | rfl | rfl | rfl | rfl | rfl
    · rw [(h.v13 h13).1]; rfl
    · rw [h.v1 h1]; rfl
    · rw [(h.v2 h2).1]; rfl
    · rw [h.v4 h4]; rfl
    · rw [h.v5 h5]; rfl
    · rw [h.v6 h6]; rfl
    · rw [(h.v7 h7).1]; rfl
    · rw [h.v9 h9]; rfl
    · rw [h.v10 h10]; rfl
    · rw [h.v11 h11]; rfl
    · rw [h.v12 h12]; rfl
  · rw [h.n q hq]
    simp only [not_or] at hq
    simp [lkp, hq]
theorem cellGo {Q : Exit → Act → World → Prop} {k g gb : Nat} {s0 : List Int} {p0 p1 p2 p3 : Int} {x : ByteArray} {i j : Int} {w0 w W : World} {a : Act}
    (HT : rtab .any (opsOf Tryd.f43 1) = cellT1) (ha : 18 < a.tmps.size) (h6 : a.eval (.tmp 6) = .pointer (some ⟨g, 0, none⟩)) (h9 : a.eval (.tmp 9) = .pointer (some ⟨g, 0, none⟩)) (h14 : a.eval (.tmp 14) = .pointer (some ⟨g, 0, none⟩)) (hgb : gb ≠ g)
    (A1 : spec_l20Text.f k s0 p0 = some (x, p1)) (A4 : spec_l20Rd_pick.f k s0 p1 6 = some (i, p2)) (A9 : spec_l20Rd_pick.f k s0 p2 6 = some (j, p3)) (i0 : 0 ≤ i) (i1 : i < 6) (j0 : 0 ≤ j) (j1 : j < 6)
    (hz : W.heap[gb]? = some cellZ) (hI : IsS62 w0 W g s0 p0) (hK : KeepBut w W g none) (hB : Below w0.heap.size w0 W)
    (hJ : ∀ b8 b13 b5 W', W'.heap[gb]? = some cellZ → W'.heap[b5]? = some cellZ → w.heap.size ≤ b5 → w0.heap.size ≤ b5 → b5 ≠ g → b5 ≠ gb → IsS62 w0 W' g s0 p3 → KeepBut w W' g none → Below w0.heap.size w0 W' → wpAnyLast Tryd.prog .any (opsOf Tryd.f43 1) Q (fun _ => True) [] 1 #[true, true, true, true, true, true, true, true, true, true, true, true, true, true, false] (putAll a [(7, .string x), (8, .slice (some ⟨b8, 0, none⟩) 6 6), (10, .int .i64 i), (12, .int .i64 (rd cellA i)), (13, .slice (some ⟨b13, 0, none⟩) 6 6), (15, .int .i64 j), (17, .int .i64 (rd cellB_ j)), (5, .pointer (some ⟨b5, 0, none⟩)), (11, .pointer (some (Addr.add ⟨b8, 0, none⟩ i.toNat))), (16, .pointer (some (Addr.add ⟨b13, 0, none⟩ j.toNat))), (18, .agg #[.string x, .int .i64 (rd cellA i), .int .i64 (rd cellB_ j), .int .i64 0, .int .i64 0, .int .i64 0, .int .i64 0, .int .i64 0, .int .i64 0, .int .i64 0, .int .i64 0])]) W') :
    wpAnyLast Tryd.prog .any (opsOf Tryd.f43 1) Q (fun _ => True) [] 12 #[true, false, false, true, false, false, false, false, true, false, false, false, false, false, false] a W := by
  have H := cellReg (Q := Q) (w := w) HT ha h6 h9 h14 hgb A1 A4 A9 i0 i1 j0 j1 (fun f ν b8 b13 b5 W' hn hC hI' => by
    obtain ⟨e1, f13, f9, e2⟩ := cellFin a hC hn
    rw [e1, e2]
    obtain ⟨_, m2, m3, m4, m5, m6⟩ := hC.v13 f13
    exact hJ b8 b13 b5 W' hC.z m2 m3 m4 m5 m6 (by simpa [cellP_, f9] using hI') hC.K hC.B) 11 (fun _ => false) (fun _ => none) 0 0 0 W rfl
    { n := fun _ _ => rfl, v1 := fun e => (by cases e), v2 := fun e => (by cases e), v4 := fun e => (by cases e), v5 := fun e => (by cases e), v6 := fun e => (by cases e), v7 := fun e => (by cases e), v9 := fun e => (by cases e), v10 := fun e => (by cases e), v11 := fun e => (by cases e), v12 := fun e => (by cases e), v13 := fun e => (by cases e), c4 := fun e => (by cases e), c5 := fun e => (by cases e), c6 := fun e => (by cases e), c9 := fun e => (by cases e), c10 := fun e => (by cases e), c11 := fun e => (by cases e), c12 := fun e => (by cases e), z := hz, K := hK, B := hB } (by simpa [cellP_] using hI)
  rw [ovl_none] at H
  exact H
set_option maxHeartbeats 8000000 in
set_option maxRecDepth 100000 in
theorem spec_l20Cell.calls (k : Nat) (g : Nat) (s0_0 : List Int) (s0_1 : Int) (a1 : Int) (r1 : ByteArray) (r2 : Int) (r3 : Int) (r4 : Int) (r5 : Int) (r6 : Int) (r7 : Int) (r8 : Int) (r9 : Int) (r10 : Int) (r11 : Int) (r12 : Int) (w0 w : World) (hI : IsS62 w0 w g s0_0 s0_1) (hB : Below w0.heap.size w0 w) (h : spec_l20Cell.f k s0_0 s0_1 a1 = some (r1, r2, r3, r4, r5, r6, r7, r8, r9, r10, r11, r12)) :
    Calls Tryd.prog 43 #[.pointer (some ⟨g, 0, none⟩), .int .i64 a1] w fun e w' => e = .returned (.agg #[.string r1, .int .i64 r2, .int .i64 r3, .int .i64 r4, .int .i64 r5, .int .i64 r6, .int .i64 r7, .int .i64 r8, .int .i64 r9, .int .i64 r10, .int .i64 r11]) ∧ IsS62 w0 w' g s0_0 r12 ∧ Below w0.heap.size w0 w' ∧ KeepBut w w' g none := by
  have hu38 := Tryd.underlying38
  have hu36 := Tryd.underlying36
  have HI0 := Aside0.mk hI
  have HK := Aside0.mk (KeepBut.refl w g none)
  have HL := Aside0.mk hB.size
  clear hI
  have HW0 := Aside0.mk hB.size
  have HB := Aside0.mk hB
  clear hB
  have H : ((spec_l20Text.f k s0_0 s0_1).bind fun bt385 => ((some (([1, 1, 1, 2, 3, 4] : List Int) : List Int)).bind fun y387 => ((spec_l20Rd_pick.f k s0_0 bt385.2 6).bind fun bt390 => (if 0 ≤ bt390.1 then (if bt390.1 < (y387.length : Int) then ((some (([1, 1, 1, 1, 2, 3] : List Int) : List Int)).bind fun y393 => ((spec_l20Rd_pick.f k s0_0 bt390.2 6).bind fun bt396 => (if 0 ≤ bt396.1 then (if bt396.1 < (y393.length : Int) then ((spec_l20Brd.f k s0_0 bt396.2 999).bind fun bt400 => ((spec_l20Brd.f k s0_0 bt400.2.2 999).bind fun bt403 => ((spec_l20Brd.f k s0_0 bt403.2.2 999).bind fun bt406 => ((spec_l20Brd.f k s0_0 bt406.2.2 999).bind fun bt409 => (if (s0_0.length : Int) = 0 then (spec_l20Cell.j0 k a1 s0_0 bt409.2.2 (⟨#[]⟩ : ByteArray) 1 1 0 0 0 0 0 0 0 0) else (spec_l20Cell.j0 k a1 s0_0 bt409.2.2 bt385.1 (rd y387 bt390.1) (rd y393 bt396.1) bt400.1 bt400.2.1 bt403.1 bt403.2.1 bt406.1 bt406.2.1 bt409.1 bt409.2.1)))))) else (none)) else (none)))) else (none)) else (none))))) = some (r1, r2, r3, r4, r5, r6, r7, r8, r9, r10, r11, r12) := h
  clear h
  replace H := Option.bind_eq_some_iff.mp H
  obtain ⟨⟨t385, t386⟩, A30, H⟩ := H
  replace H : ((some (([1, 1, 1, 2, 3, 4] : List Int) : List Int)).bind fun y387 => ((spec_l20Rd_pick.f k s0_0 t386 6).bind fun bt390 => (if 0 ≤ bt390.1 then (if bt390.1 < (y387.length : Int) then ((some (([1, 1, 1, 1, 2, 3] : List Int) : List Int)).bind fun y393 => ((spec_l20Rd_pick.f k s0_0 bt390.2 6).bind fun bt396 => (if 0 ≤ bt396.1 then (if bt396.1 < (y393.length : Int) then ((spec_l20Brd.f k s0_0 bt396.2 999).bind fun bt400 => ((spec_l20Brd.f k s0_0 bt400.2.2 999).bind fun bt403 => ((spec_l20Brd.f k s0_0 bt403.2.2 999).bind fun bt406 => ((spec_l20Brd.f k s0_0 bt406.2.2 999).bind fun bt409 => (if (s0_0.length : Int) = 0 then (spec_l20Cell.j0 k a1 s0_0 bt409.2.2 (⟨#[]⟩ : ByteArray) 1 1 0 0 0 0 0 0 0 0) else (spec_l20Cell.j0 k a1 s0_0 bt409.2.2 t385 (rd y387 bt390.1) (rd y393 bt396.1) bt400.1 bt400.2.1 bt403.1 bt403.2.1 bt406.1 bt406.2.1 bt409.1 bt409.2.1)))))) else (none)) else (none)))) else (none)) else (none)))) = some (r1, r2, r3, r4, r5, r6, r7, r8, r9, r10, r11, r12) := H
  have A3 := Aside0.mk A30
  clear A30
  obtain ⟨y387, hy387⟩ : ∃ y_ : List Int, y_ = (([1, 1, 1, 2, 3, 4] : List Int)) := ⟨_, rfl⟩
  replace H : ((spec_l20Rd_pick.f k s0_0 t386 6).bind fun bt390 => (if 0 ≤ bt390.1 then (if bt390.1 < (y387.length : Int) then ((some (([1, 1, 1, 1, 2, 3] : List Int) : List Int)).bind fun y393 => ((spec_l20Rd_pick.f k s0_0 bt390.2 6).bind fun bt396 => (if 0 ≤ bt396.1 then (if bt396.1 < (y393.length : Int) then ((spec_l20Brd.f k s0_0 bt396.2 999).bind fun bt400 => ((spec_l20Brd.f k s0_0 bt400.2.2 999).bind fun bt403 => ((spec_l20Brd.f k s0_0 bt403.2.2 999).bind fun bt406 => ((spec_l20Brd.f k s0_0 bt406.2.2 999).bind fun bt409 => (if (s0_0.length : Int) = 0 then (spec_l20Cell.j0 k a1 s0_0 bt409.2.2 (⟨#[]⟩ : ByteArray) 1 1 0 0 0 0 0 0 0 0) else (spec_l20Cell.j0 k a1 s0_0 bt409.2.2 t385 (rd y387 bt390.1) (rd y393 bt396.1) bt400.1 bt400.2.1 bt403.1 bt403.2.1 bt406.1 bt406.2.1 bt409.1 bt409.2.1)))))) else (none)) else (none)))) else (none)) else (none))) = some (r1, r2, r3, r4, r5, r6, r7, r8, r9, r10, r11, r12) := by first | (rw [hy387]; with_reducible exact H) | (have H2_ := (Option.bind_some _ _).symm.trans H; rw [hy387]; with_reducible exact H2_) | (have H2_ := (Option.bind_some _ _).symm.trans H; with_reducible exact H2_) | with_reducible exact H | (rw [hy387]; exact H) | exact H
  have Ny387 := Aside0.mk hy387
  clear hy387
  replace H := Option.bind_eq_some_iff.mp H
  obtain ⟨⟨t390, t391⟩, A40, H⟩ := H
  replace H : (if 0 ≤ t390 then (if t390 < (y387.length : Int) then ((some (([1, 1, 1, 1, 2, 3] : List Int) : List Int)).bind fun y393 => ((spec_l20Rd_pick.f k s0_0 t391 6).bind fun bt396 => (if 0 ≤ bt396.1 then (if bt396.1 < (y393.length : Int) then ((spec_l20Brd.f k s0_0 bt396.2 999).bind fun bt400 => ((spec_l20Brd.f k s0_0 bt400.2.2 999).bind fun bt403 => ((spec_l20Brd.f k s0_0 bt403.2.2 999).bind fun bt406 => ((spec_l20Brd.f k s0_0 bt406.2.2 999).bind fun bt409 => (if (s0_0.length : Int) = 0 then (spec_l20Cell.j0 k a1 s0_0 bt409.2.2 (⟨#[]⟩ : ByteArray) 1 1 0 0 0 0 0 0 0 0) else (spec_l20Cell.j0 k a1 s0_0 bt409.2.2 t385 (rd y387 t390) (rd y393 bt396.1) bt400.1 bt400.2.1 bt403.1 bt403.2.1 bt406.1 bt406.2.1 bt409.1 bt409.2.1)))))) else (none)) else (none)))) else (none)) else (none)) = some (r1, r2, r3, r4, r5, r6, r7, r8, r9, r10, r11, r12) := H
  have A4 := Aside0.mk A40
  clear A40
  by_cases c5 : 0 ≤ t390
  · rw [if_pos c5] at H
    have c5b0 : decide (0 ≤ t390) = true := decide_eq_true c5
    clear c5
    by_cases c6 : t390 < (y387.length : Int)
    · rw [if_pos c6] at H
      have c6b0 : decide (t390 < (y387.length : Int)) = true := decide_eq_true c6
      clear c6
      obtain ⟨y393, hy393⟩ : ∃ y_ : List Int, y_ = (([1, 1, 1, 1, 2, 3] : List Int)) := ⟨_, rfl⟩
      replace H : ((spec_l20Rd_pick.f k s0_0 t391 6).bind fun bt396 => (if 0 ≤ bt396.1 then (if bt396.1 < (y393.length : Int) then ((spec_l20Brd.f k s0_0 bt396.2 999).bind fun bt400 => ((spec_l20Brd.f k s0_0 bt400.2.2 999).bind fun bt403 => ((spec_l20Brd.f k s0_0 bt403.2.2 999).bind fun bt406 => ((spec_l20Brd.f k s0_0 bt406.2.2 999).bind fun bt409 => (if (s0_0.length : Int) = 0 then (spec_l20Cell.j0 k a1 s0_0 bt409.2.2 (⟨#[]⟩ : ByteArray) 1 1 0 0 0 0 0 0 0 0) else (spec_l20Cell.j0 k a1 s0_0 bt409.2.2 t385 (rd y387 t390) (rd y393 bt396.1) bt400.1 bt400.2.1 bt403.1 bt403.2.1 bt406.1 bt406.2.1 bt409.1 bt409.2.1)))))) else (none)) else (none))) = some (r1, r2, r3, r4, r5, r6, r7, r8, r9, r10, r11, r12) := by first | (rw [hy393]; with_reducible exact H) | (have H2_ := (Option.bind_some _ _).symm.trans H; rw [hy393]; with_reducible exact H2_) | (have H2_ := (Option.bind_some _ _).symm.trans H; with_reducible exact H2_) | with_reducible exact H | (rw [hy393]; exact H) | exact H
      have Ny393 := Aside0.mk hy393
      clear hy393
      replace H := Option.bind_eq_some_iff.mp H
      obtain ⟨⟨t396, t397⟩, A70, H⟩ := H
      replace H : (if 0 ≤ t396 then (if t396 < (y393.length : Int) then ((spec_l20Brd.f k s0_0 t397 999).bind fun bt400 => ((spec_l20Brd.f k s0_0 bt400.2.2 999).bind fun bt403 => ((spec_l20Brd.f k s0_0 bt403.2.2 999).bind fun bt406 => ((spec_l20Brd.f k s0_0 bt406.2.2 999).bind fun bt409 => (if (s0_0.length : Int) = 0 then (spec_l20Cell.j0 k a1 s0_0 bt409.2.2 (⟨#[]⟩ : ByteArray) 1 1 0 0 0 0 0 0 0 0) else (spec_l20Cell.j0 k a1 s0_0 bt409.2.2 t385 (rd y387 t390) (rd y393 t396) bt400.1 bt400.2.1 bt403.1 bt403.2.1 bt406.1 bt406.2.1 bt409.1 bt409.2.1)))))) else (none)) else (none)) = some (r1, r2, r3, r4, r5, r6, r7, r8, r9, r10, r11, r12) := H
      have A7 := Aside0.mk A70
      clear A70
      by_cases c8 : 0 ≤ t396
      · rw [if_pos c8] at H
        have c8b0 : decide (0 ≤ t396) = true := decide_eq_true c8
        clear c8
        by_cases c9 : t396 < (y393.length : Int)
        · rw [if_pos c9] at H
          have c9b0 : decide (t396 < (y393.length : Int)) = true := decide_eq_true c9
          clear c9
          replace H := Option.bind_eq_some_iff.mp H
          obtain ⟨⟨t400, t401, t402⟩, A100, H⟩ := H
          replace H : ((spec_l20Brd.f k s0_0 t402 999).bind fun bt403 => ((spec_l20Brd.f k s0_0 bt403.2.2 999).bind fun bt406 => ((spec_l20Brd.f k s0_0 bt406.2.2 999).bind fun bt409 => (if (s0_0.length : Int) = 0 then (spec_l20Cell.j0 k a1 s0_0 bt409.2.2 (⟨#[]⟩ : ByteArray) 1 1 0 0 0 0 0 0 0 0) else (spec_l20Cell.j0 k a1 s0_0 bt409.2.2 t385 (rd y387 t390) (rd y393 t396) t400 t401 bt403.1 bt403.2.1 bt406.1 bt406.2.1 bt409.1 bt409.2.1))))) = some (r1, r2, r3, r4, r5, r6, r7, r8, r9, r10, r11, r12) := H
          have A10 := Aside0.mk A100
          clear A100
          replace H := Option.bind_eq_some_iff.mp H
          obtain ⟨⟨t403, t404, t405⟩, A110, H⟩ := H
          replace H : ((spec_l20Brd.f k s0_0 t405 999).bind fun bt406 => ((spec_l20Brd.f k s0_0 bt406.2.2 999).bind fun bt409 => (if (s0_0.length : Int) = 0 then (spec_l20Cell.j0 k a1 s0_0 bt409.2.2 (⟨#[]⟩ : ByteArray) 1 1 0 0 0 0 0 0 0 0) else (spec_l20Cell.j0 k a1 s0_0 bt409.2.2 t385 (rd y387 t390) (rd y393 t396) t400 t401 t403 t404 bt406.1 bt406.2.1 bt409.1 bt409.2.1)))) = some (r1, r2, r3, r4, r5, r6, r7, r8, r9, r10, r11, r12) := H
          have A11 := Aside0.mk A110
          clear A110
          replace H := Option.bind_eq_some_iff.mp H
          obtain ⟨⟨t406, t407, t408⟩, A120, H⟩ := H
          replace H : ((spec_l20Brd.f k s0_0 t408 999).bind fun bt409 => (if (s0_0.length : Int) = 0 then (spec_l20Cell.j0 k a1 s0_0 bt409.2.2 (⟨#[]⟩ : ByteArray) 1 1 0 0 0 0 0 0 0 0) else (spec_l20Cell.j0 k a1 s0_0 bt409.2.2 t385 (rd y387 t390) (rd y393 t396) t400 t401 t403 t404 t406 t407 bt409.1 bt409.2.1))) = some (r1, r2, r3, r4, r5, r6, r7, r8, r9, r10, r11, r12) := H
          have A12 := Aside0.mk A120
          clear A120
          replace H := Option.bind_eq_some_iff.mp H
          obtain ⟨⟨t409, t410, t411⟩, A130, H⟩ := H
          replace H : (if (s0_0.length : Int) = 0 then (spec_l20Cell.j0 k a1 s0_0 t411 (⟨#[]⟩ : ByteArray) 1 1 0 0 0 0 0 0 0 0) else (spec_l20Cell.j0 k a1 s0_0 t411 t385 (rd y387 t390) (rd y393 t396) t400 t401 t403 t404 t406 t407 t409 t410)) = some (r1, r2, r3, r4, r5, r6, r7, r8, r9, r10, r11, r12) := H
          have A13 := Aside0.mk A130
          clear A130
          have HC14 := Aside0.mk H
          clear H
          go_enter Tryd.func43, Tryd.ntmps43
          try go_wp2_with (first | ((with_reducible refine gate_dst (N := 4) rfl ?_); refine box_event ?hg (N := 4) ?hd (cs := #[.string (⟨#[]⟩ : ByteArray), .int .i64 0, .int .i64 0, .int .i64 0, .int .i64 0, .int .i64 0, .int .i64 0, .int .i64 0, .int .i64 0, .int .i64 0, .int .i64 0]) (t := 38) ?hr ?_; (case hd => rfl); (case hg => rfl); (case hr => first | (go_simp; done) | (go_simp; rfl)); intro gb384 hg w15 hbox hb; have n0_ := Aside0.mk (IsS62.below (by repeat (first | (with_reducible first | exact HI0.out | apply IsS62.alloc | apply IsS62.drewN | apply IsS62.drew | apply IsS62.set_1) | exact HI0.out)) hb); have n1_ := Aside0.mk (KeepBut.trans (by repeat (first | (with_reducible first | exact HK.out | apply KeepBut.set_ | apply keep_drewN | apply keep_drew | apply keep_alloc) | exact HK.out)) (KeepBut.of_below hb g none) (.inl rfl)); have n2_ := Aside0.mk (below_step (by repeat (first | (with_reducible first | exact HB.out | apply below_alloc | apply pw_below_drewN | apply below_drew1 | refine below_set ?_ (IsS62.ge HI0.out)) | exact HB.out)) hb); have n3_ := Aside0.mk (hbox); have n4_ := Aside0.mk ((by rw [hg]; exact (keep_size (w := w) (g := g) (row := none) (by repeat (first | (with_reducible first | exact HK.out | apply KeepBut.set_ | apply keep_drewN | apply keep_drew | apply keep_alloc) | exact HK.out))) : w.heap.size ≤ gb384)); have n5_ := Aside0.mk ((Nat.le_trans HW0.out (by rw [hg]; exact (keep_size (w := w) (g := g) (row := none) (by repeat (first | (with_reducible first | exact HK.out | apply KeepBut.set_ | apply keep_drewN | apply keep_drew | apply keep_alloc) | exact HK.out))) : w.heap.size ≤ gb384) : w0.heap.size ≤ gb384)); have n6_ := Aside0.mk ((by rw [hg]; exact Nat.ne_of_lt (IsS62.lt (show IsS62 w0 _ g s0_0 s0_1 from by repeat (first | (with_reducible first | exact HI0.out | apply IsS62.alloc | apply IsS62.drewN | apply IsS62.drew | apply IsS62.set_1) | exact HI0.out))) : g ≠ gb384)); have n7_ := Aside0.mk ((by rw [hg]; exact Nat.ne_of_gt (IsS62.lt (show IsS62 w0 _ g s0_0 s0_1 from by repeat (first | (with_reducible first | exact HI0.out | apply IsS62.alloc | apply IsS62.drewN | apply IsS62.drew | apply IsS62.set_1) | exact HI0.out))) : gb384 ≠ g)); clear HI0; clear HK; clear HB; have HI0 := n0_; have HK := n1_; have HB := n2_; have BK384 := n3_; have GW384 := n4_; have GE384 := n5_; have NB0_384 := n6_; have NB384_0 := n7_; clear n0_ n1_ n2_ n3_ n4_ n5_ n6_ n7_; clear hb hbox hg))
          have pi392 : (0 ≤ (t390 : Int)) = True := eq_true (of_decide_eq_true (by first | (with_reducible assumption) | assumption))
          have qi392 : (t390 < (y387.length : Int)) = True := eq_true (of_decide_eq_true (by first | (with_reducible assumption) | assumption))
          have pi398 : (0 ≤ (t396 : Int)) = True := eq_true (of_decide_eq_true (by first | (with_reducible assumption) | assumption))
          have qi398 : (t396 < (y393.length : Int)) = True := eq_true (of_decide_eq_true (by first | (with_reducible assumption) | assumption))
          have n0_ := Aside0.mk (blk_drew BK384.out)
          have n1_ := Aside0.mk (IsS62.drew HI0.out)
          have n2_ := Aside0.mk (keep_drew HK.out)
          have n3_ := Aside0.mk (below_drew1 HB.out)
          clear BK384
          clear HI0
          clear HK
          clear HB
          have BK384 := n0_
          have HI0 := n1_
          have HK := n2_
          have HB := n3_
          clear n0_ n1_ n2_ n3_
          refine start_ (n := 15) (S := fun w' => True) (ds := []) #[false, false, false, false, false, false, false, false, false, false, false, false, false, false, false] (by kernel_rfl) rfl rfl trivial (fun hHeld => ?_); refine with_tabW spec_l20Cell.tab1 spec_l20Cell.bits1 (fun HT_ HW_ => ?_)
          generalize w15.drew = w16 at BK384 HI0 HK HB hHeld ⊢
          refine pure_ (i := 0) (N := some 6) (v := ?_) (a' := ?_) #[true, false, false, false, false, false, false, false, false, false, false, false, false, false, false] rfl rfl (any_of HT_.out (by kernel_rfl)) (fun _ _ _ h => h) (Or.inl ⟨by rfl, ?_⟩) ?_ ?_
          rotate_left
          · intro w'
            go_simp
            with_reducible rfl
          rotate_left
          · simp only [Act.put, List.setIfInBounds_toArray, List.set_cons_zero, List.set_cons_succ, i64_w, i32_w]
            rfl
          refine pure_ (i := 3) (N := some 9) (v := ?_) (a' := ?_) #[true, false, false, true, false, false, false, false, false, false, false, false, false, false, false] rfl rfl (any_of HT_.out (by kernel_rfl)) (fun _ _ _ h => h) (Or.inl ⟨by rfl, ?_⟩) ?_ ?_
          rotate_left
          · intro w'
            go_simp
            with_reducible rfl
          rotate_left
          · simp only [Act.put, List.setIfInBounds_toArray, List.set_cons_zero, List.set_cons_succ, i64_w, i32_w]
            rfl
          refine pure_ (i := 8) (N := some 14) (v := ?_) (a' := ?_) #[true, false, false, true, false, false, false, false, true, false, false, false, false, false, false] rfl rfl (any_of HT_.out (by kernel_rfl)) (fun _ _ _ h => h) (Or.inl ⟨by rfl, ?_⟩) ?_ ?_
          rotate_left
          · intro w'
            go_simp
            with_reducible rfl
          rotate_left
          · simp only [Act.put, List.setIfInBounds_toArray, List.set_cons_zero, List.set_cons_succ, i64_w, i32_w]
            rfl
          refine join_ (σ := Value × Addr × Value × Addr × Nat) 1 #[true, true, true, true, true, true, true, true, true, true, true, true, true, true, false] (fun s_ => [(7, .string t385), (8, s_.1), (10, .int .i64 t390), (12, .int .i64 (rd y387 t390)), (13, s_.2.2.1), (15, .int .i64 t396), (17, .int .i64 (rd y393 t396)), (5, .pointer (some ⟨s_.2.2.2.2, 0, none⟩)), (11, .pointer (some (s_.2.1.add (t390).toNat))), (16, .pointer (some (s_.2.2.2.1.add (t396).toNat))), (18, .agg #[.string t385, .int .i64 (rd y387 t390), .int .i64 (rd y393 t396), .int .i64 0, .int .i64 0, .int .i64 0, .int .i64 0, .int .i64 0, .int .i64 0, .int .i64 0, .int .i64 0])]) (fun s_ w' => (w'.heap[gb384]? = some (.cells #[.string (⟨#[]⟩ : ByteArray), .int .i64 0, .int .i64 0, .int .i64 0, .int .i64 0, .int .i64 0, .int .i64 0, .int .i64 0, .int .i64 0, .int .i64 0, .int .i64 0] 38 (0, 0))) ∧ (w'.heap[s_.2.2.2.2]? = some (.cells #[.string (⟨#[]⟩ : ByteArray), .int .i64 0, .int .i64 0, .int .i64 0, .int .i64 0, .int .i64 0, .int .i64 0, .int .i64 0, .int .i64 0, .int .i64 0, .int .i64 0] 38 (0, 0))) ∧ (w.heap.size ≤ s_.2.2.2.2) ∧ (w0.heap.size ≤ s_.2.2.2.2) ∧ (g ≠ s_.2.2.2.2) ∧ (s_.2.2.2.2 ≠ g) ∧ (gb384 ≠ s_.2.2.2.2) ∧ (s_.2.2.2.2 ≠ gb384) ∧ (IsS62 w0 w' g s0_0 t397) ∧ (KeepBut w w' g none) ∧ (Below w0.heap.size w0 w')) ?_ ?_
          rotate_left
          · intro hJ_
            refine cellGo (k := k) (w := w) HT_.out ?_ rfl rfl rfl NB384_0.out A3.out A4.out A7.out (of_eq_true pi392) ?_ (of_eq_true pi398) ?_ BK384.out HI0.out HK.out HB.out (fun b8 b13 b5 W' h1 h2 h3 h4 h5 h6 h7 h8 h9 => ?_)
            · show 18 < 70; omega
            · have h_ := of_eq_true qi392; rw [Ny387.out] at h_; simpa using h_
            · have h_ := of_eq_true qi398; rw [Ny393.out] at h_; simpa using h_
            · have H_ := hJ_ (.slice (some ⟨b8, 0, none⟩) 6 6, ⟨b8, 0, none⟩, .slice (some ⟨b13, 0, none⟩) 6 6, ⟨b13, 0, none⟩, b5) W' ⟨h1, h2, h3, h4, Ne.symm h5, h5, Ne.symm h6, h6, h7, h8, h9⟩
              rw [Ny387.out, Ny393.out] at H_
              exact H_
          rintro ⟨v388, adz_v388, v394, adz_v394, gb399⟩ w27 ⟨h4_, h5_, h6_, h7_, h8_, h9_, h10_, h11_, h12_, h13_, h14_⟩
          have n4_ : Aside0 (w27.heap[gb384]? = some (.cells #[.string (⟨#[]⟩ : ByteArray), .int .i64 0, .int .i64 0, .int .i64 0, .int .i64 0, .int .i64 0, .int .i64 0, .int .i64 0, .int .i64 0, .int .i64 0, .int .i64 0] 38 (0, 0))) := ⟨h4_⟩
          have n5_ : Aside0 (w27.heap[gb399]? = some (.cells #[.string (⟨#[]⟩ : ByteArray), .int .i64 0, .int .i64 0, .int .i64 0, .int .i64 0, .int .i64 0, .int .i64 0, .int .i64 0, .int .i64 0, .int .i64 0, .int .i64 0] 38 (0, 0))) := ⟨h5_⟩
          have n6_ : Aside0 (w.heap.size ≤ gb399) := ⟨h6_⟩
          have n7_ : Aside0 (w0.heap.size ≤ gb399) := ⟨h7_⟩
          have n8_ : Aside0 (g ≠ gb399) := ⟨h8_⟩
          have n9_ : Aside0 (gb399 ≠ g) := ⟨h9_⟩
          have n10_ : Aside0 (gb384 ≠ gb399) := ⟨h10_⟩
          have n11_ : Aside0 (gb399 ≠ gb384) := ⟨h11_⟩
          have n12_ : Aside0 (IsS62 w0 w27 g s0_0 t397) := ⟨h12_⟩
          have n13_ : Aside0 (KeepBut w w27 g none) := ⟨h13_⟩
          have n14_ : Aside0 (Below w0.heap.size w0 w27) := ⟨h14_⟩
          clear BK384
          clear HI0
          clear HK
          clear HB
          clear h4_ h5_ h6_ h7_ h8_ h9_ h10_ h11_ h12_ h13_ h14_
          have BK384 := n4_
          have BK399 := n5_
          have GW399 := n6_
          have GE399 := n7_
          have NB0_399 := n8_
          have NB399_0 := n9_
          have NB384_399 := n10_
          have NB399_384 := n11_
          have HI0 := n12_
          have HK := n13_
          have HB := n14_
          clear n4_ n5_ n6_ n7_ n8_ n9_ n10_ n11_ n12_ n13_ n14_
          have hHeld := trivial
          refine norm_ (a' := ?_) ?_ ?_
          rotate_left
          · simp only [putAll, Act.put, List.setIfInBounds_toArray, List.set_cons_zero, List.set_cons_succ]
            rfl
          refine one_ (i := 14) (N := none) #[true, true, true, true, true, true, true, true, true, true, true, true, true, true, true] rfl rfl (one_of HT_.out (by kernel_rfl)) (by decide) (fun K hK => ?_)
          have hs30 : w27.cell? ⟨gb399, 0, none⟩ = some (.string (⟨#[]⟩ : ByteArray)) := (blk_cell BK399.out 0).trans rfl
          have hfs30 := blk_frozen BK399.out 0
          have hns30_0 := NB384_399.out
          have hms30_0 := NB399_384.out
          have hs31 : w27.cell? ⟨gb399, 1, none⟩ = some (.int .i64 0) := (blk_cell BK399.out 1).trans rfl
          have hfs31 := blk_frozen BK399.out 1
          have hns31_0 := NB384_399.out
          have hms31_0 := NB399_384.out
          have hs32 : w27.cell? ⟨gb399, 2, none⟩ = some (.int .i64 0) := (blk_cell BK399.out 2).trans rfl
          have hfs32 := blk_frozen BK399.out 2
          have hns32_0 := NB384_399.out
          have hms32_0 := NB399_384.out
          have hs33 : w27.cell? ⟨gb399, 3, none⟩ = some (.int .i64 0) := (blk_cell BK399.out 3).trans rfl
          have hfs33 := blk_frozen BK399.out 3
          have hns33_0 := NB384_399.out
          have hms33_0 := NB399_384.out
          have hs34 : w27.cell? ⟨gb399, 4, none⟩ = some (.int .i64 0) := (blk_cell BK399.out 4).trans rfl
          have hfs34 := blk_frozen BK399.out 4
          have hns34_0 := NB384_399.out
          have hms34_0 := NB399_384.out
          have hs35 : w27.cell? ⟨gb399, 5, none⟩ = some (.int .i64 0) := (blk_cell BK399.out 5).trans rfl
          have hfs35 := blk_frozen BK399.out 5
          have hns35_0 := NB384_399.out
          have hms35_0 := NB399_384.out
          have hs36 : w27.cell? ⟨gb399, 6, none⟩ = some (.int .i64 0) := (blk_cell BK399.out 6).trans rfl
          have hfs36 := blk_frozen BK399.out 6
          have hns36_0 := NB384_399.out
          have hms36_0 := NB399_384.out
          have hs37 : w27.cell? ⟨gb399, 7, none⟩ = some (.int .i64 0) := (blk_cell BK399.out 7).trans rfl
          have hfs37 := blk_frozen BK399.out 7
          have hns37_0 := NB384_399.out
          have hms37_0 := NB399_384.out
          have hs38 : w27.cell? ⟨gb399, 8, none⟩ = some (.int .i64 0) := (blk_cell BK399.out 8).trans rfl
          have hfs38 := blk_frozen BK399.out 8
          have hns38_0 := NB384_399.out
          have hms38_0 := NB399_384.out
          have hs39 : w27.cell? ⟨gb399, 9, none⟩ = some (.int .i64 0) := (blk_cell BK399.out 9).trans rfl
          have hfs39 := blk_frozen BK399.out 9
          have hns39_0 := NB384_399.out
          have hms39_0 := NB399_384.out
          have hs40 : w27.cell? ⟨gb399, 10, none⟩ = some (.int .i64 0) := (blk_cell BK399.out 10).trans rfl
          have hfs40 := blk_frozen BK399.out 10
          have hns40_0 := NB384_399.out
          have hms40_0 := NB399_384.out
          refine skip_ (w1 := ?_) (by rfl) rfl ?_ ?_
          rotate_left
          · go_simp
            rfl
          refine hK.out _ _ trivial (fun hHeld => ?_)
          clear hK K
          refine done_ (done_of HT_.out (by kernel_rfl)) ?_
          go_upto_if 36 with (first | ((with_reducible refine gate_callee (f := 60) rfl ?_); refine goesL_ (some 20) rfl rfl Tryd.func60 (by kernel_rfl) rfl #[.pointer (some ⟨g, 0, none⟩), .int .i64 999] rfl (by (try simp only [List.map_toArray, List.map_cons, List.map_nil]); first | done | rfl | (simp only [List.length_drop, List.length_take]; rfl)) ?_; (with_reducible refine (spec_l20Brd.calls k g s0_0 t397 999 t400 t401 t402 w0 _ ?side1 ?side2 A10.out).mono ?_); (case side1 => repeat (first | (with_reducible first | exact HI0.out | apply IsS62.alloc | apply IsS62.drewN | apply IsS62.drew | apply IsS62.set_1 | refine IsS62.far ?_ NB0_384.out _ | refine IsS62.far ?_ NB0_399.out _) | exact HI0.out)); (case side2 => repeat (first | (with_reducible first | exact HB.out | apply below_alloc | apply pw_below_drewN | apply below_drew1 | refine below_set ?_ (IsS62.ge HI0.out) | refine below_set ?_ GE384.out | refine below_set ?_ GE399.out) | exact HB.out)); rintro e w41 ⟨rfl, hi, hb, hk⟩; refine ⟨_, rfl, ?_⟩; have n0_ := Aside0.mk (KeepBut.blk hk (g' := gb384) (o := .cells #[.string (⟨#[]⟩ : ByteArray), .int .i64 0, .int .i64 0, .int .i64 0, .int .i64 0, .int .i64 0, .int .i64 0, .int .i64 0, .int .i64 0, .int .i64 0, .int .i64 0] 38 (0, 0)) (by (with_reducible repeat (first | refine blk_drewN ?_ _ | refine blk_drew ?_ | refine blk_alloc ?_ _)); refine blk_far ?_ NB384_399.out _; (with_reducible repeat (first | refine blk_drewN ?_ _ | refine blk_drew ?_ | refine blk_alloc ?_ _)); refine blk_far ?_ NB384_399.out _; (with_reducible repeat (first | refine blk_drewN ?_ _ | refine blk_drew ?_ | refine blk_alloc ?_ _)); refine blk_far ?_ NB384_399.out _; (with_reducible repeat (first | refine blk_drewN ?_ _ | refine blk_drew ?_ | refine blk_alloc ?_ _)); refine blk_far ?_ NB384_399.out _; (with_reducible repeat (first | refine blk_drewN ?_ _ | refine blk_drew ?_ | refine blk_alloc ?_ _)); refine blk_far ?_ NB384_399.out _; (with_reducible repeat (first | refine blk_drewN ?_ _ | refine blk_drew ?_ | refine blk_alloc ?_ _)); refine blk_far ?_ NB384_399.out _; (with_reducible repeat (first | refine blk_drewN ?_ _ | refine blk_drew ?_ | refine blk_alloc ?_ _)); refine blk_far ?_ NB384_399.out _; (with_reducible repeat (first | refine blk_drewN ?_ _ | refine blk_drew ?_ | refine blk_alloc ?_ _)); refine blk_far ?_ NB384_399.out _; (with_reducible repeat (first | refine blk_drewN ?_ _ | refine blk_drew ?_ | refine blk_alloc ?_ _)); refine blk_far ?_ NB384_399.out _; (with_reducible repeat (first | refine blk_drewN ?_ _ | refine blk_drew ?_ | refine blk_alloc ?_ _)); refine blk_far ?_ NB384_399.out _; (with_reducible repeat (first | refine blk_drewN ?_ _ | refine blk_drew ?_ | refine blk_alloc ?_ _)); refine blk_far ?_ NB384_399.out _; (with_reducible repeat (first | refine blk_drewN ?_ _ | refine blk_drew ?_ | refine blk_alloc ?_ _)); exact BK384.out) NB384_0.out (by simp)); have n3_ := Aside0.mk (KeepBut.blk hk (g' := gb399) (o := .cells #[.string t385, .int .i64 (rd y387 t390), .int .i64 (rd y393 t396), .int .i64 0, .int .i64 0, .int .i64 0, .int .i64 0, .int .i64 0, .int .i64 0, .int .i64 0, .int .i64 0] 38 (0, 0)) (by (with_reducible repeat (first | refine blk_drewN ?_ _ | refine blk_drew ?_ | refine blk_alloc ?_ _)); refine blk_put (cs := #[.string t385, .int .i64 (rd y387 t390), .int .i64 (rd y393 t396), .int .i64 0, .int .i64 0, .int .i64 0, .int .i64 0, .int .i64 0, .int .i64 0, .int .i64 0, .int .i64 0]) ?_ 10 _ rfl; (with_reducible repeat (first | refine blk_drewN ?_ _ | refine blk_drew ?_ | refine blk_alloc ?_ _)); refine blk_put (cs := #[.string t385, .int .i64 (rd y387 t390), .int .i64 (rd y393 t396), .int .i64 0, .int .i64 0, .int .i64 0, .int .i64 0, .int .i64 0, .int .i64 0, .int .i64 0, .int .i64 0]) ?_ 9 _ rfl; (with_reducible repeat (first | refine blk_drewN ?_ _ | refine blk_drew ?_ | refine blk_alloc ?_ _)); refine blk_put (cs := #[.string t385, .int .i64 (rd y387 t390), .int .i64 (rd y393 t396), .int .i64 0, .int .i64 0, .int .i64 0, .int .i64 0, .int .i64 0, .int .i64 0, .int .i64 0, .int .i64 0]) ?_ 8 _ rfl; (with_reducible repeat (first | refine blk_drewN ?_ _ | refine blk_drew ?_ | refine blk_alloc ?_ _)); refine blk_put (cs := #[.string t385, .int .i64 (rd y387 t390), .int .i64 (rd y393 t396), .int .i64 0, .int .i64 0, .int .i64 0, .int .i64 0, .int .i64 0, .int .i64 0, .int .i64 0, .int .i64 0]) ?_ 7 _ rfl; (with_reducible repeat (first | refine blk_drewN ?_ _ | refine blk_drew ?_ | refine blk_alloc ?_ _)); refine blk_put (cs := #[.string t385, .int .i64 (rd y387 t390), .int .i64 (rd y393 t396), .int .i64 0, .int .i64 0, .int .i64 0, .int .i64 0, .int .i64 0, .int .i64 0, .int .i64 0, .int .i64 0]) ?_ 6 _ rfl; (with_reducible repeat (first | refine blk_drewN ?_ _ | refine blk_drew ?_ | refine blk_alloc ?_ _)); refine blk_put (cs := #[.string t385, .int .i64 (rd y387 t390), .int .i64 (rd y393 t396), .int .i64 0, .int .i64 0, .int .i64 0, .int .i64 0, .int .i64 0, .int .i64 0, .int .i64 0, .int .i64 0]) ?_ 5 _ rfl; (with_reducible repeat (first | refine blk_drewN ?_ _ | refine blk_drew ?_ | refine blk_alloc ?_ _)); refine blk_put (cs := #[.string t385, .int .i64 (rd y387 t390), .int .i64 (rd y393 t396), .int .i64 0, .int .i64 0, .int .i64 0, .int .i64 0, .int .i64 0, .int .i64 0, .int .i64 0, .int .i64 0]) ?_ 4 _ rfl; (with_reducible repeat (first | refine blk_drewN ?_ _ | refine blk_drew ?_ | refine blk_alloc ?_ _)); refine blk_put (cs := #[.string t385, .int .i64 (rd y387 t390), .int .i64 (rd y393 t396), .int .i64 0, .int .i64 0, .int .i64 0, .int .i64 0, .int .i64 0, .int .i64 0, .int .i64 0, .int .i64 0]) ?_ 3 _ rfl; (with_reducible repeat (first | refine blk_drewN ?_ _ | refine blk_drew ?_ | refine blk_alloc ?_ _)); refine blk_put (cs := #[.string t385, .int .i64 (rd y387 t390), .int .i64 0, .int .i64 0, .int .i64 0, .int .i64 0, .int .i64 0, .int .i64 0, .int .i64 0, .int .i64 0, .int .i64 0]) ?_ 2 _ rfl; (with_reducible repeat (first | refine blk_drewN ?_ _ | refine blk_drew ?_ | refine blk_alloc ?_ _)); refine blk_put (cs := #[.string t385, .int .i64 0, .int .i64 0, .int .i64 0, .int .i64 0, .int .i64 0, .int .i64 0, .int .i64 0, .int .i64 0, .int .i64 0, .int .i64 0]) ?_ 1 _ rfl; (with_reducible repeat (first | refine blk_drewN ?_ _ | refine blk_drew ?_ | refine blk_alloc ?_ _)); refine blk_put (cs := #[.string (⟨#[]⟩ : ByteArray), .int .i64 0, .int .i64 0, .int .i64 0, .int .i64 0, .int .i64 0, .int .i64 0, .int .i64 0, .int .i64 0, .int .i64 0, .int .i64 0]) ?_ 0 _ rfl; (with_reducible repeat (first | refine blk_drewN ?_ _ | refine blk_drew ?_ | refine blk_alloc ?_ _)); exact BK399.out) NB399_0.out (by simp)); have n4_ := Aside0.mk (KeepBut.trans (by repeat (first | (with_reducible first | exact HK.out | apply KeepBut.set_ | apply keep_drewN | apply keep_drew | apply keep_alloc | refine keep_far ?_ GW384.out _ | refine keep_far ?_ GW399.out _) | exact HK.out)) hk (.inl rfl)); have n5_ := Aside0.mk (hb); have n6_ := Aside0.mk (hi); clear BK384; clear BK399; clear HK; clear HB; clear HI0; have BK384 := n0_; have BK399 := n3_; have HK := n4_; have HB := n5_; have HI0 := n6_; clear n0_ n3_ n4_ n5_ n6_; (try clear hb); (try clear hb2); (try clear hk); (try clear hi); have hnb42 := NB399_384.out; have hnc42 := NB384_399.out; have hnb43 := NB399_0.out; have hnc43 := NB0_399.out; have hcz44_0 : w41.cell? ⟨gb399, 0, none⟩ = some (.string t385) := (blk_cell BK399.out 0).trans rfl; have hcz44_1 : w41.cell? ⟨gb399, 1, none⟩ = some (.int .i64 (rd y387 t390)) := (blk_cell BK399.out 1).trans rfl; have hcz44_2 : w41.cell? ⟨gb399, 2, none⟩ = some (.int .i64 (rd y393 t396)) := (blk_cell BK399.out 2).trans rfl; have hcz44_3 : w41.cell? ⟨gb399, 3, none⟩ = some (.int .i64 0) := (blk_cell BK399.out 3).trans rfl; have hcz44_4 : w41.cell? ⟨gb399, 4, none⟩ = some (.int .i64 0) := (blk_cell BK399.out 4).trans rfl; have hcz44_5 : w41.cell? ⟨gb399, 5, none⟩ = some (.int .i64 0) := (blk_cell BK399.out 5).trans rfl; have hcz44_6 : w41.cell? ⟨gb399, 6, none⟩ = some (.int .i64 0) := (blk_cell BK399.out 6).trans rfl; have hcz44_7 : w41.cell? ⟨gb399, 7, none⟩ = some (.int .i64 0) := (blk_cell BK399.out 7).trans rfl; have hcz44_8 : w41.cell? ⟨gb399, 8, none⟩ = some (.int .i64 0) := (blk_cell BK399.out 8).trans rfl; have hcz44_9 : w41.cell? ⟨gb399, 9, none⟩ = some (.int .i64 0) := (blk_cell BK399.out 9).trans rfl; have hcz44_10 : w41.cell? ⟨gb399, 10, none⟩ = some (.int .i64 0) := (blk_cell BK399.out 10).trans rfl; have hfz44_0 := blk_frozen BK399.out 0; have hfz44_1 := blk_frozen BK399.out 1; have hfz44_2 := blk_frozen BK399.out 2; have hfz44_3 := blk_frozen BK399.out 3; have hfz44_4 := blk_frozen BK399.out 4; have hfz44_5 := blk_frozen BK399.out 5; have hfz44_6 := blk_frozen BK399.out 6; have hfz44_7 := blk_frozen BK399.out 7; have hfz44_8 := blk_frozen BK399.out 8; have hfz44_9 := blk_frozen BK399.out 9; have hfz44_10 := blk_frozen BK399.out 10) | ((with_reducible refine gate_callee (f := 60) rfl ?_); refine goesL_ (some 23) rfl rfl Tryd.func60 (by kernel_rfl) rfl #[.pointer (some ⟨g, 0, none⟩), .int .i64 999] rfl (by (try simp only [List.map_toArray, List.map_cons, List.map_nil]); first | done | rfl | (simp only [List.length_drop, List.length_take]; rfl)) ?_; (with_reducible refine (spec_l20Brd.calls k g s0_0 t402 999 t403 t404 t405 w0 _ ?side1 ?side2 A11.out).mono ?_); (case side1 => repeat (first | (with_reducible first | exact HI0.out | apply IsS62.alloc | apply IsS62.drewN | apply IsS62.drew | apply IsS62.set_1 | refine IsS62.far ?_ NB0_384.out _ | refine IsS62.far ?_ NB0_399.out _) | exact HI0.out)); (case side2 => repeat (first | (with_reducible first | exact HB.out | apply below_alloc | apply pw_below_drewN | apply below_drew1 | refine below_set ?_ (IsS62.ge HI0.out) | refine below_set ?_ GE384.out | refine below_set ?_ GE399.out) | exact HB.out)); rintro e w45 ⟨rfl, hi, hb, hk⟩; refine ⟨_, rfl, ?_⟩; have n0_ := Aside0.mk (KeepBut.blk hk (g' := gb384) (o := .cells #[.string (⟨#[]⟩ : ByteArray), .int .i64 0, .int .i64 0, .int .i64 0, .int .i64 0, .int .i64 0, .int .i64 0, .int .i64 0, .int .i64 0, .int .i64 0, .int .i64 0] 38 (0, 0)) (by (with_reducible repeat (first | refine blk_drewN ?_ _ | refine blk_drew ?_ | refine blk_alloc ?_ _)); refine blk_far ?_ NB384_399.out _; (with_reducible repeat (first | refine blk_drewN ?_ _ | refine blk_drew ?_ | refine blk_alloc ?_ _)); refine blk_far ?_ NB384_399.out _; (with_reducible repeat (first | refine blk_drewN ?_ _ | refine blk_drew ?_ | refine blk_alloc ?_ _)); exact BK384.out) NB384_0.out (by simp)); have n3_ := Aside0.mk (KeepBut.blk hk (g' := gb399) (o := .cells #[.string t385, .int .i64 (rd y387 t390), .int .i64 (rd y393 t396), .int .i64 t400, .int .i64 t401, .int .i64 0, .int .i64 0, .int .i64 0, .int .i64 0, .int .i64 0, .int .i64 0] 38 (0, 0)) (by (with_reducible repeat (first | refine blk_drewN ?_ _ | refine blk_drew ?_ | refine blk_alloc ?_ _)); refine blk_put (cs := #[.string t385, .int .i64 (rd y387 t390), .int .i64 (rd y393 t396), .int .i64 t400, .int .i64 0, .int .i64 0, .int .i64 0, .int .i64 0, .int .i64 0, .int .i64 0, .int .i64 0]) ?_ 4 _ rfl; (with_reducible repeat (first | refine blk_drewN ?_ _ | refine blk_drew ?_ | refine blk_alloc ?_ _)); refine blk_put (cs := #[.string t385, .int .i64 (rd y387 t390), .int .i64 (rd y393 t396), .int .i64 0, .int .i64 0, .int .i64 0, .int .i64 0, .int .i64 0, .int .i64 0, .int .i64 0, .int .i64 0]) ?_ 3 _ rfl; (with_reducible repeat (first | refine blk_drewN ?_ _ | refine blk_drew ?_ | refine blk_alloc ?_ _)); exact BK399.out) NB399_0.out (by simp)); have n4_ := Aside0.mk (KeepBut.trans (by repeat (first | (with_reducible first | exact HK.out | apply KeepBut.set_ | apply keep_drewN | apply keep_drew | apply keep_alloc | refine keep_far ?_ GW384.out _ | refine keep_far ?_ GW399.out _) | exact HK.out)) hk (.inl rfl)); have n5_ := Aside0.mk (hb); have n6_ := Aside0.mk (hi); clear BK384; clear BK399; clear HK; clear HB; clear HI0; have BK384 := n0_; have BK399 := n3_; have HK := n4_; have HB := n5_; have HI0 := n6_; clear n0_ n3_ n4_ n5_ n6_; (try clear hb); (try clear hb2); (try clear hk); (try clear hi); have hcz46_0 : w45.cell? ⟨gb399, 0, none⟩ = some (.string t385) := (blk_cell BK399.out 0).trans rfl; have hcz46_1 : w45.cell? ⟨gb399, 1, none⟩ = some (.int .i64 (rd y387 t390)) := (blk_cell BK399.out 1).trans rfl; have hcz46_2 : w45.cell? ⟨gb399, 2, none⟩ = some (.int .i64 (rd y393 t396)) := (blk_cell BK399.out 2).trans rfl; have hcz46_3 : w45.cell? ⟨gb399, 3, none⟩ = some (.int .i64 t400) := (blk_cell BK399.out 3).trans rfl; have hcz46_4 : w45.cell? ⟨gb399, 4, none⟩ = some (.int .i64 t401) := (blk_cell BK399.out 4).trans rfl; have hcz46_5 : w45.cell? ⟨gb399, 5, none⟩ = some (.int .i64 0) := (blk_cell BK399.out 5).trans rfl; have hcz46_6 : w45.cell? ⟨gb399, 6, none⟩ = some (.int .i64 0) := (blk_cell BK399.out 6).trans rfl; have hcz46_7 : w45.cell? ⟨gb399, 7, none⟩ = some (.int .i64 0) := (blk_cell BK399.out 7).trans rfl; have hcz46_8 : w45.cell? ⟨gb399, 8, none⟩ = some (.int .i64 0) := (blk_cell BK399.out 8).trans rfl; have hcz46_9 : w45.cell? ⟨gb399, 9, none⟩ = some (.int .i64 0) := (blk_cell BK399.out 9).trans rfl; have hcz46_10 : w45.cell? ⟨gb399, 10, none⟩ = some (.int .i64 0) := (blk_cell BK399.out 10).trans rfl; have hfz46_0 := blk_frozen BK399.out 0; have hfz46_1 := blk_frozen BK399.out 1; have hfz46_2 := blk_frozen BK399.out 2; have hfz46_3 := blk_frozen BK399.out 3; have hfz46_4 := blk_frozen BK399.out 4; have hfz46_5 := blk_frozen BK399.out 5; have hfz46_6 := blk_frozen BK399.out 6; have hfz46_7 := blk_frozen BK399.out 7; have hfz46_8 := blk_frozen BK399.out 8; have hfz46_9 := blk_frozen BK399.out 9; have hfz46_10 := blk_frozen BK399.out 10) | ((with_reducible refine gate_callee (f := 60) rfl ?_); refine goesL_ (some 26) rfl rfl Tryd.func60 (by kernel_rfl) rfl #[.pointer (some ⟨g, 0, none⟩), .int .i64 999] rfl (by (try simp only [List.map_toArray, List.map_cons, List.map_nil]); first | done | rfl | (simp only [List.length_drop, List.length_take]; rfl)) ?_; (with_reducible refine (spec_l20Brd.calls k g s0_0 t405 999 t406 t407 t408 w0 _ ?side1 ?side2 A12.out).mono ?_); (case side1 => repeat (first | (with_reducible first | exact HI0.out | apply IsS62.alloc | apply IsS62.drewN | apply IsS62.drew | apply IsS62.set_1 | refine IsS62.far ?_ NB0_384.out _ | refine IsS62.far ?_ NB0_399.out _) | exact HI0.out)); (case side2 => repeat (first | (with_reducible first | exact HB.out | apply below_alloc | apply pw_below_drewN | apply below_drew1 | refine below_set ?_ (IsS62.ge HI0.out) | refine below_set ?_ GE384.out | refine below_set ?_ GE399.out) | exact HB.out)); rintro e w47 ⟨rfl, hi, hb, hk⟩; refine ⟨_, rfl, ?_⟩; have n0_ := Aside0.mk (KeepBut.blk hk (g' := gb384) (o := .cells #[.string (⟨#[]⟩ : ByteArray), .int .i64 0, .int .i64 0, .int .i64 0, .int .i64 0, .int .i64 0, .int .i64 0, .int .i64 0, .int .i64 0, .int .i64 0, .int .i64 0] 38 (0, 0)) (by (with_reducible repeat (first | refine blk_drewN ?_ _ | refine blk_drew ?_ | refine blk_alloc ?_ _)); refine blk_far ?_ NB384_399.out _; (with_reducible repeat (first | refine blk_drewN ?_ _ | refine blk_drew ?_ | refine blk_alloc ?_ _)); refine blk_far ?_ NB384_399.out _; (with_reducible repeat (first | refine blk_drewN ?_ _ | refine blk_drew ?_ | refine blk_alloc ?_ _)); exact BK384.out) NB384_0.out (by simp)); have n3_ := Aside0.mk (KeepBut.blk hk (g' := gb399) (o := .cells #[.string t385, .int .i64 (rd y387 t390), .int .i64 (rd y393 t396), .int .i64 t400, .int .i64 t401, .int .i64 t403, .int .i64 t404, .int .i64 0, .int .i64 0, .int .i64 0, .int .i64 0] 38 (0, 0)) (by (with_reducible repeat (first | refine blk_drewN ?_ _ | refine blk_drew ?_ | refine blk_alloc ?_ _)); refine blk_put (cs := #[.string t385, .int .i64 (rd y387 t390), .int .i64 (rd y393 t396), .int .i64 t400, .int .i64 t401, .int .i64 t403, .int .i64 0, .int .i64 0, .int .i64 0, .int .i64 0, .int .i64 0]) ?_ 6 _ rfl; (with_reducible repeat (first | refine blk_drewN ?_ _ | refine blk_drew ?_ | refine blk_alloc ?_ _)); refine blk_put (cs := #[.string t385, .int .i64 (rd y387 t390), .int .i64 (rd y393 t396), .int .i64 t400, .int .i64 t401, .int .i64 0, .int .i64 0, .int .i64 0, .int .i64 0, .int .i64 0, .int .i64 0]) ?_ 5 _ rfl; (with_reducible repeat (first | refine blk_drewN ?_ _ | refine blk_drew ?_ | refine blk_alloc ?_ _)); exact BK399.out) NB399_0.out (by simp)); have n4_ := Aside0.mk (KeepBut.trans (by repeat (first | (with_reducible first | exact HK.out | apply KeepBut.set_ | apply keep_drewN | apply keep_drew | apply keep_alloc | refine keep_far ?_ GW384.out _ | refine keep_far ?_ GW399.out _) | exact HK.out)) hk (.inl rfl)); have n5_ := Aside0.mk (hb); have n6_ := Aside0.mk (hi); clear BK384; clear BK399; clear HK; clear HB; clear HI0; have BK384 := n0_; have BK399 := n3_; have HK := n4_; have HB := n5_; have HI0 := n6_; clear n0_ n3_ n4_ n5_ n6_; (try clear hb); (try clear hb2); (try clear hk); (try clear hi); have hcz48_0 : w47.cell? ⟨gb399, 0, none⟩ = some (.string t385) := (blk_cell BK399.out 0).trans rfl; have hcz48_1 : w47.cell? ⟨gb399, 1, none⟩ = some (.int .i64 (rd y387 t390)) := (blk_cell BK399.out 1).trans rfl; have hcz48_2 : w47.cell? ⟨gb399, 2, none⟩ = some (.int .i64 (rd y393 t396)) := (blk_cell BK399.out 2).trans rfl; have hcz48_3 : w47.cell? ⟨gb399, 3, none⟩ = some (.int .i64 t400) := (blk_cell BK399.out 3).trans rfl; have hcz48_4 : w47.cell? ⟨gb399, 4, none⟩ = some (.int .i64 t401) := (blk_cell BK399.out 4).trans rfl; have hcz48_5 : w47.cell? ⟨gb399, 5, none⟩ = some (.int .i64 t403) := (blk_cell BK399.out 5).trans rfl; have hcz48_6 : w47.cell? ⟨gb399, 6, none⟩ = some (.int .i64 t404) := (blk_cell BK399.out 6).trans rfl; have hcz48_7 : w47.cell? ⟨gb399, 7, none⟩ = some (.int .i64 0) := (blk_cell BK399.out 7).trans rfl; have hcz48_8 : w47.cell? ⟨gb399, 8, none⟩ = some (.int .i64 0) := (blk_cell BK399.out 8).trans rfl; have hcz48_9 : w47.cell? ⟨gb399, 9, none⟩ = some (.int .i64 0) := (blk_cell BK399.out 9).trans rfl; have hcz48_10 : w47.cell? ⟨gb399, 10, none⟩ = some (.int .i64 0) := (blk_cell BK399.out 10).trans rfl; have hfz48_0 := blk_frozen BK399.out 0; have hfz48_1 := blk_frozen BK399.out 1; have hfz48_2 := blk_frozen BK399.out 2; have hfz48_3 := blk_frozen BK399.out 3; have hfz48_4 := blk_frozen BK399.out 4; have hfz48_5 := blk_frozen BK399.out 5; have hfz48_6 := blk_frozen BK399.out 6; have hfz48_7 := blk_frozen BK399.out 7; have hfz48_8 := blk_frozen BK399.out 8; have hfz48_9 := blk_frozen BK399.out 9; have hfz48_10 := blk_frozen BK399.out 10) | ((with_reducible refine gate_callee (f := 60) rfl ?_); refine goesL_ (some 29) rfl rfl Tryd.func60 (by kernel_rfl) rfl #[.pointer (some ⟨g, 0, none⟩), .int .i64 999] rfl (by (try simp only [List.map_toArray, List.map_cons, List.map_nil]); first | done | rfl | (simp only [List.length_drop, List.length_take]; rfl)) ?_; (with_reducible refine (spec_l20Brd.calls k g s0_0 t408 999 t409 t410 t411 w0 _ ?side1 ?side2 A13.out).mono ?_); (case side1 => repeat (first | (with_reducible first | exact HI0.out | apply IsS62.alloc | apply IsS62.drewN | apply IsS62.drew | apply IsS62.set_1 | refine IsS62.far ?_ NB0_384.out _ | refine IsS62.far ?_ NB0_399.out _) | exact HI0.out)); (case side2 => repeat (first | (with_reducible first | exact HB.out | apply below_alloc | apply pw_below_drewN | apply below_drew1 | refine below_set ?_ (IsS62.ge HI0.out) | refine below_set ?_ GE384.out | refine below_set ?_ GE399.out) | exact HB.out)); rintro e w49 ⟨rfl, hi, hb, hk⟩; refine ⟨_, rfl, ?_⟩; have n0_ := Aside0.mk (KeepBut.blk hk (g' := gb384) (o := .cells #[.string (⟨#[]⟩ : ByteArray), .int .i64 0, .int .i64 0, .int .i64 0, .int .i64 0, .int .i64 0, .int .i64 0, .int .i64 0, .int .i64 0, .int .i64 0, .int .i64 0] 38 (0, 0)) (by (with_reducible repeat (first | refine blk_drewN ?_ _ | refine blk_drew ?_ | refine blk_alloc ?_ _)); refine blk_far ?_ NB384_399.out _; (with_reducible repeat (first | refine blk_drewN ?_ _ | refine blk_drew ?_ | refine blk_alloc ?_ _)); refine blk_far ?_ NB384_399.out _; (with_reducible repeat (first | refine blk_drewN ?_ _ | refine blk_drew ?_ | refine blk_alloc ?_ _)); exact BK384.out) NB384_0.out (by simp)); have n3_ := Aside0.mk (KeepBut.blk hk (g' := gb399) (o := .cells #[.string t385, .int .i64 (rd y387 t390), .int .i64 (rd y393 t396), .int .i64 t400, .int .i64 t401, .int .i64 t403, .int .i64 t404, .int .i64 t406, .int .i64 t407, .int .i64 0, .int .i64 0] 38 (0, 0)) (by (with_reducible repeat (first | refine blk_drewN ?_ _ | refine blk_drew ?_ | refine blk_alloc ?_ _)); refine blk_put (cs := #[.string t385, .int .i64 (rd y387 t390), .int .i64 (rd y393 t396), .int .i64 t400, .int .i64 t401, .int .i64 t403, .int .i64 t404, .int .i64 t406, .int .i64 0, .int .i64 0, .int .i64 0]) ?_ 8 _ rfl; (with_reducible repeat (first | refine blk_drewN ?_ _ | refine blk_drew ?_ | refine blk_alloc ?_ _)); refine blk_put (cs := #[.string t385, .int .i64 (rd y387 t390), .int .i64 (rd y393 t396), .int .i64 t400, .int .i64 t401, .int .i64 t403, .int .i64 t404, .int .i64 0, .int .i64 0, .int .i64 0, .int .i64 0]) ?_ 7 _ rfl; (with_reducible repeat (first | refine blk_drewN ?_ _ | refine blk_drew ?_ | refine blk_alloc ?_ _)); exact BK399.out) NB399_0.out (by simp)); have n4_ := Aside0.mk (KeepBut.trans (by repeat (first | (with_reducible first | exact HK.out | apply KeepBut.set_ | apply keep_drewN | apply keep_drew | apply keep_alloc | refine keep_far ?_ GW384.out _ | refine keep_far ?_ GW399.out _) | exact HK.out)) hk (.inl rfl)); have n5_ := Aside0.mk (hb); have n6_ := Aside0.mk (hi); clear BK384; clear BK399; clear HK; clear HB; clear HI0; have BK384 := n0_; have BK399 := n3_; have HK := n4_; have HB := n5_; have HI0 := n6_; clear n0_ n3_ n4_ n5_ n6_; (try clear hb); (try clear hb2); (try clear hk); (try clear hi); have hcz50_0 : w49.cell? ⟨gb399, 0, none⟩ = some (.string t385) := (blk_cell BK399.out 0).trans rfl; have hcz50_1 : w49.cell? ⟨gb399, 1, none⟩ = some (.int .i64 (rd y387 t390)) := (blk_cell BK399.out 1).trans rfl; have hcz50_2 : w49.cell? ⟨gb399, 2, none⟩ = some (.int .i64 (rd y393 t396)) := (blk_cell BK399.out 2).trans rfl; have hcz50_3 : w49.cell? ⟨gb399, 3, none⟩ = some (.int .i64 t400) := (blk_cell BK399.out 3).trans rfl; have hcz50_4 : w49.cell? ⟨gb399, 4, none⟩ = some (.int .i64 t401) := (blk_cell BK399.out 4).trans rfl; have hcz50_5 : w49.cell? ⟨gb399, 5, none⟩ = some (.int .i64 t403) := (blk_cell BK399.out 5).trans rfl; have hcz50_6 : w49.cell? ⟨gb399, 6, none⟩ = some (.int .i64 t404) := (blk_cell BK399.out 6).trans rfl; have hcz50_7 : w49.cell? ⟨gb399, 7, none⟩ = some (.int .i64 t406) := (blk_cell BK399.out 7).trans rfl; have hcz50_8 : w49.cell? ⟨gb399, 8, none⟩ = some (.int .i64 t407) := (blk_cell BK399.out 8).trans rfl; have hcz50_9 : w49.cell? ⟨gb399, 9, none⟩ = some (.int .i64 0) := (blk_cell BK399.out 9).trans rfl; have hcz50_10 : w49.cell? ⟨gb399, 10, none⟩ = some (.int .i64 0) := (blk_cell BK399.out 10).trans rfl; have hfz50_0 := blk_frozen BK399.out 0; have hfz50_1 := blk_frozen BK399.out 1; have hfz50_2 := blk_frozen BK399.out 2; have hfz50_3 := blk_frozen BK399.out 3; have hfz50_4 := blk_frozen BK399.out 4; have hfz50_5 := blk_frozen BK399.out 5; have hfz50_6 := blk_frozen BK399.out 6; have hfz50_7 := blk_frozen BK399.out 7; have hfz50_8 := blk_frozen BK399.out 8; have hfz50_9 := blk_frozen BK399.out 9; have hfz50_10 := blk_frozen BK399.out 10; obtain ⟨ASz51_0, cSz51_0, HGz51, hgz51, HSz51_0⟩ := HI0.out; have hcz51_0 := cellS62_0 HGz51; have hcz51_1 := cellS62_1 HGz51; have hfz51_1 := blk_frozen HGz51 1; clear HGz51 hgz51))
          (try simp only [Act.put, List.setIfInBounds_toArray, List.set_cons_zero, List.set_cons_succ])
          go_cut [] (fun wc => ∃ (kq : Nat) (x400000_13 : ByteArray) (x400001_13 : Int) (x400002_13 : Int) (x400003_13 : Int) (x400004_13 : Int) (x400005_13 : Int) (x400006_13 : Int) (x400007_13 : Int) (x400008_13 : Int) (x400009_13 : Int) (x400010_13 : Int), Aside0 (spec_l20Cell.j0 kq a1 s0_0 t411 x400000_13 x400001_13 x400002_13 x400003_13 x400004_13 x400005_13 x400006_13 x400007_13 x400008_13 x400009_13 x400010_13 = some (r1, r2, r3, r4, r5, r6, r7, r8, r9, r10, r11, r12)) ∧ Aside0 (kq ≤ k) ∧ Aside0 (wc.heap[gb384]? = some (.cells #[.string (⟨#[]⟩ : ByteArray), .int .i64 0, .int .i64 0, .int .i64 0, .int .i64 0, .int .i64 0, .int .i64 0, .int .i64 0, .int .i64 0, .int .i64 0, .int .i64 0] 38 (0, 0))) ∧ Aside0 (wc.heap[gb399]? = some (.cells #[.string x400000_13, .int .i64 x400001_13, .int .i64 x400002_13, .int .i64 x400003_13, .int .i64 x400004_13, .int .i64 x400005_13, .int .i64 x400006_13, .int .i64 x400007_13, .int .i64 x400008_13, .int .i64 x400009_13, .int .i64 x400010_13] 38 (0, 0))) ∧ Aside0 (IsS62 w0 wc g s0_0 t411) ∧ Aside0 (KeepBut w wc g none) ∧ Aside0 (Below w0.heap.size w0 wc))
          case first =>
            have H := HC14.out
            clear HC14
            by_cases c52 : (s0_0.length : Int) = 0
            · rw [if_pos c52] at H
              have c52b0 : ((s0_0.length : Int) == 0) = true := beq_iff_eq.mpr c52
              have c52b1 : ((s0_0.length : Int) != 0) = false := bne_eq_false_iff_eq.mpr c52
              clear c52
              (first | rw [c52b0] | (simp only [i64_w, i32_w]; rw [c52b0]) | skip)
              have H' := Aside0.mk H
              clear H
              have hnb53 := NB399_384.out
              have hnc53 := NB384_399.out
              have hnb54 := NB399_0.out
              have hnc54 := NB0_399.out
              have hcz55_0 : w49.cell? ⟨gb399, 0, none⟩ = some (.string t385) := (blk_cell BK399.out 0).trans rfl
              have hcz55_1 : w49.cell? ⟨gb399, 1, none⟩ = some (.int .i64 (rd y387 t390)) := (blk_cell BK399.out 1).trans rfl
              have hcz55_2 : w49.cell? ⟨gb399, 2, none⟩ = some (.int .i64 (rd y393 t396)) := (blk_cell BK399.out 2).trans rfl
              have hcz55_3 : w49.cell? ⟨gb399, 3, none⟩ = some (.int .i64 t400) := (blk_cell BK399.out 3).trans rfl
              have hcz55_4 : w49.cell? ⟨gb399, 4, none⟩ = some (.int .i64 t401) := (blk_cell BK399.out 4).trans rfl
              have hcz55_5 : w49.cell? ⟨gb399, 5, none⟩ = some (.int .i64 t403) := (blk_cell BK399.out 5).trans rfl
              have hcz55_6 : w49.cell? ⟨gb399, 6, none⟩ = some (.int .i64 t404) := (blk_cell BK399.out 6).trans rfl
              have hcz55_7 : w49.cell? ⟨gb399, 7, none⟩ = some (.int .i64 t406) := (blk_cell BK399.out 7).trans rfl
              have hcz55_8 : w49.cell? ⟨gb399, 8, none⟩ = some (.int .i64 t407) := (blk_cell BK399.out 8).trans rfl
              have hcz55_9 : w49.cell? ⟨gb399, 9, none⟩ = some (.int .i64 0) := (blk_cell BK399.out 9).trans rfl
              have hcz55_10 : w49.cell? ⟨gb399, 10, none⟩ = some (.int .i64 0) := (blk_cell BK399.out 10).trans rfl
              have hfz55_0 := blk_frozen BK399.out 0
              have hfz55_1 := blk_frozen BK399.out 1
              have hfz55_2 := blk_frozen BK399.out 2
              have hfz55_3 := blk_frozen BK399.out 3
              have hfz55_4 := blk_frozen BK399.out 4
              have hfz55_5 := blk_frozen BK399.out 5
              have hfz55_6 := blk_frozen BK399.out 6
              have hfz55_7 := blk_frozen BK399.out 7
              have hfz55_8 := blk_frozen BK399.out 8
              have hfz55_9 := blk_frozen BK399.out 9
              have hfz55_10 := blk_frozen BK399.out 10
              go_wp2
              go_meet
              case rel => exact ⟨_, ((⟨#[]⟩ : ByteArray)), (1), (1), (0), (0), (0), (0), (0), (0), (0), (0), H', ⟨by first | omega | exact Nat.le_refl _⟩, ⟨by (with_reducible repeat (first | refine blk_drewN ?_ _ | refine blk_drew ?_ | refine blk_alloc ?_ _)); refine blk_far ?_ NB384_399.out _; (with_reducible repeat (first | refine blk_drewN ?_ _ | refine blk_drew ?_ | refine blk_alloc ?_ _)); refine blk_far ?_ NB384_399.out _; (with_reducible repeat (first | refine blk_drewN ?_ _ | refine blk_drew ?_ | refine blk_alloc ?_ _)); refine blk_far ?_ NB384_399.out _; (with_reducible repeat (first | refine blk_drewN ?_ _ | refine blk_drew ?_ | refine blk_alloc ?_ _)); refine blk_far ?_ NB384_399.out _; (with_reducible repeat (first | refine blk_drewN ?_ _ | refine blk_drew ?_ | refine blk_alloc ?_ _)); refine blk_far ?_ NB384_399.out _; (with_reducible repeat (first | refine blk_drewN ?_ _ | refine blk_drew ?_ | refine blk_alloc ?_ _)); refine blk_far ?_ NB384_399.out _; (with_reducible repeat (first | refine blk_drewN ?_ _ | refine blk_drew ?_ | refine blk_alloc ?_ _)); refine blk_far ?_ NB384_399.out _; (with_reducible repeat (first | refine blk_drewN ?_ _ | refine blk_drew ?_ | refine blk_alloc ?_ _)); refine blk_far ?_ NB384_399.out _; (with_reducible repeat (first | refine blk_drewN ?_ _ | refine blk_drew ?_ | refine blk_alloc ?_ _)); refine blk_far ?_ NB384_399.out _; (with_reducible repeat (first | refine blk_drewN ?_ _ | refine blk_drew ?_ | refine blk_alloc ?_ _)); refine blk_far ?_ NB384_399.out _; (with_reducible repeat (first | refine blk_drewN ?_ _ | refine blk_drew ?_ | refine blk_alloc ?_ _)); refine blk_far ?_ NB384_399.out _; (with_reducible repeat (first | refine blk_drewN ?_ _ | refine blk_drew ?_ | refine blk_alloc ?_ _)); refine blk_far ?_ NB384_399.out _; (with_reducible repeat (first | refine blk_drewN ?_ _ | refine blk_drew ?_ | refine blk_alloc ?_ _)); refine blk_far ?_ NB384_399.out _; (with_reducible repeat (first | refine blk_drewN ?_ _ | refine blk_drew ?_ | refine blk_alloc ?_ _)); exact BK384.out⟩, ⟨by (with_reducible repeat (first | refine blk_drewN ?_ _ | refine blk_drew ?_ | refine blk_alloc ?_ _)); refine blk_put (cs := #[.string (⟨#[]⟩ : ByteArray), .int .i64 1, .int .i64 1, .int .i64 0, .int .i64 0, .int .i64 0, .int .i64 0, .int .i64 0, .int .i64 0, .int .i64 0, .int .i64 t410]) ?_ 10 _ rfl; (with_reducible repeat (first | refine blk_drewN ?_ _ | refine blk_drew ?_ | refine blk_alloc ?_ _)); refine blk_put (cs := #[.string (⟨#[]⟩ : ByteArray), .int .i64 1, .int .i64 1, .int .i64 0, .int .i64 0, .int .i64 0, .int .i64 0, .int .i64 0, .int .i64 0, .int .i64 t409, .int .i64 t410]) ?_ 9 _ rfl; (with_reducible repeat (first | refine blk_drewN ?_ _ | refine blk_drew ?_ | refine blk_alloc ?_ _)); refine blk_put (cs := #[.string (⟨#[]⟩ : ByteArray), .int .i64 1, .int .i64 1, .int .i64 0, .int .i64 0, .int .i64 0, .int .i64 0, .int .i64 0, .int .i64 t407, .int .i64 t409, .int .i64 t410]) ?_ 8 _ rfl; (with_reducible repeat (first | refine blk_drewN ?_ _ | refine blk_drew ?_ | refine blk_alloc ?_ _)); refine blk_put (cs := #[.string (⟨#[]⟩ : ByteArray), .int .i64 1, .int .i64 1, .int .i64 0, .int .i64 0, .int .i64 0, .int .i64 0, .int .i64 t406, .int .i64 t407, .int .i64 t409, .int .i64 t410]) ?_ 7 _ rfl; (with_reducible repeat (first | refine blk_drewN ?_ _ | refine blk_drew ?_ | refine blk_alloc ?_ _)); refine blk_put (cs := #[.string (⟨#[]⟩ : ByteArray), .int .i64 1, .int .i64 1, .int .i64 0, .int .i64 0, .int .i64 0, .int .i64 t404, .int .i64 t406, .int .i64 t407, .int .i64 t409, .int .i64 t410]) ?_ 6 _ rfl; (with_reducible repeat (first | refine blk_drewN ?_ _ | refine blk_drew ?_ | refine blk_alloc ?_ _)); refine blk_put (cs := #[.string (⟨#[]⟩ : ByteArray), .int .i64 1, .int .i64 1, .int .i64 0, .int .i64 0, .int .i64 t403, .int .i64 t404, .int .i64 t406, .int .i64 t407, .int .i64 t409, .int .i64 t410]) ?_ 5 _ rfl; (with_reducible repeat (first | refine blk_drewN ?_ _ | refine blk_drew ?_ | refine blk_alloc ?_ _)); refine blk_put (cs := #[.string (⟨#[]⟩ : ByteArray), .int .i64 1, .int .i64 1, .int .i64 0, .int .i64 t401, .int .i64 t403, .int .i64 t404, .int .i64 t406, .int .i64 t407, .int .i64 t409, .int .i64 t410]) ?_ 4 _ rfl; (with_reducible repeat (first | refine blk_drewN ?_ _ | refine blk_drew ?_ | refine blk_alloc ?_ _)); refine blk_put (cs := #[.string (⟨#[]⟩ : ByteArray), .int .i64 1, .int .i64 1, .int .i64 t400, .int .i64 t401, .int .i64 t403, .int .i64 t404, .int .i64 t406, .int .i64 t407, .int .i64 t409, .int .i64 t410]) ?_ 3 _ rfl; (with_reducible repeat (first | refine blk_drewN ?_ _ | refine blk_drew ?_ | refine blk_alloc ?_ _)); refine blk_put (cs := #[.string (⟨#[]⟩ : ByteArray), .int .i64 1, .int .i64 (rd y393 t396), .int .i64 t400, .int .i64 t401, .int .i64 t403, .int .i64 t404, .int .i64 t406, .int .i64 t407, .int .i64 t409, .int .i64 t410]) ?_ 2 _ rfl; (with_reducible repeat (first | refine blk_drewN ?_ _ | refine blk_drew ?_ | refine blk_alloc ?_ _)); refine blk_put (cs := #[.string (⟨#[]⟩ : ByteArray), .int .i64 (rd y387 t390), .int .i64 (rd y393 t396), .int .i64 t400, .int .i64 t401, .int .i64 t403, .int .i64 t404, .int .i64 t406, .int .i64 t407, .int .i64 t409, .int .i64 t410]) ?_ 1 _ rfl; (with_reducible repeat (first | refine blk_drewN ?_ _ | refine blk_drew ?_ | refine blk_alloc ?_ _)); refine blk_put (cs := #[.string t385, .int .i64 (rd y387 t390), .int .i64 (rd y393 t396), .int .i64 t400, .int .i64 t401, .int .i64 t403, .int .i64 t404, .int .i64 t406, .int .i64 t407, .int .i64 t409, .int .i64 t410]) ?_ 0 _ rfl; (with_reducible repeat (first | refine blk_drewN ?_ _ | refine blk_drew ?_ | refine blk_alloc ?_ _)); refine blk_put (cs := #[.string t385, .int .i64 (rd y387 t390), .int .i64 (rd y393 t396), .int .i64 t400, .int .i64 t401, .int .i64 t403, .int .i64 t404, .int .i64 t406, .int .i64 t407, .int .i64 t409, .int .i64 0]) ?_ 10 _ rfl; (with_reducible repeat (first | refine blk_drewN ?_ _ | refine blk_drew ?_ | refine blk_alloc ?_ _)); refine blk_put (cs := #[.string t385, .int .i64 (rd y387 t390), .int .i64 (rd y393 t396), .int .i64 t400, .int .i64 t401, .int .i64 t403, .int .i64 t404, .int .i64 t406, .int .i64 t407, .int .i64 0, .int .i64 0]) ?_ 9 _ rfl; (with_reducible repeat (first | refine blk_drewN ?_ _ | refine blk_drew ?_ | refine blk_alloc ?_ _)); exact BK399.out⟩, ⟨by repeat (first | (with_reducible first | exact HI0.out | apply IsS62.alloc | apply IsS62.drewN | apply IsS62.drew | apply IsS62.set_1 | refine IsS62.far ?_ NB0_384.out _ | refine IsS62.far ?_ NB0_399.out _) | exact HI0.out)⟩, ⟨by repeat (first | (with_reducible first | exact HK.out | apply KeepBut.set_ | apply keep_drewN | apply keep_drew | apply keep_alloc | refine keep_far ?_ GW384.out _ | refine keep_far ?_ GW399.out _) | exact HK.out)⟩, ⟨by repeat (first | (with_reducible first | exact HB.out | apply below_alloc | apply pw_below_drewN | apply below_drew1 | refine below_set ?_ (IsS62.ge HI0.out) | refine below_set ?_ GE384.out | refine below_set ?_ GE399.out) | exact HB.out)⟩⟩
            · rw [if_neg c52] at H
              have c52b0 : ((s0_0.length : Int) == 0) = false := beq_eq_false_iff_ne.mpr c52
              have c52b1 : ((s0_0.length : Int) != 0) = true := bne_iff_ne.mpr c52
              have c52b2 : ¬ (s0_0 = []) := fun h_ => c52 (by rw [h_]; rfl)
              (first | rw [c52b0] | (simp only [i64_w, i32_w]; rw [c52b0]) | skip)
              have H' := Aside0.mk H
              clear H
              go_wp2
              go_meet
              case rel => exact ⟨_, (t385), (rd y387 t390), (rd y393 t396), (t400), (t401), (t403), (t404), (t406), (t407), (t409), (t410), H', ⟨by first | omega | exact Nat.le_refl _⟩, ⟨by (with_reducible repeat (first | refine blk_drewN ?_ _ | refine blk_drew ?_ | refine blk_alloc ?_ _)); refine blk_far ?_ NB384_399.out _; (with_reducible repeat (first | refine blk_drewN ?_ _ | refine blk_drew ?_ | refine blk_alloc ?_ _)); refine blk_far ?_ NB384_399.out _; (with_reducible repeat (first | refine blk_drewN ?_ _ | refine blk_drew ?_ | refine blk_alloc ?_ _)); exact BK384.out⟩, ⟨by (with_reducible repeat (first | refine blk_drewN ?_ _ | refine blk_drew ?_ | refine blk_alloc ?_ _)); refine blk_put (cs := #[.string t385, .int .i64 (rd y387 t390), .int .i64 (rd y393 t396), .int .i64 t400, .int .i64 t401, .int .i64 t403, .int .i64 t404, .int .i64 t406, .int .i64 t407, .int .i64 t409, .int .i64 0]) ?_ 10 _ rfl; (with_reducible repeat (first | refine blk_drewN ?_ _ | refine blk_drew ?_ | refine blk_alloc ?_ _)); refine blk_put (cs := #[.string t385, .int .i64 (rd y387 t390), .int .i64 (rd y393 t396), .int .i64 t400, .int .i64 t401, .int .i64 t403, .int .i64 t404, .int .i64 t406, .int .i64 t407, .int .i64 0, .int .i64 0]) ?_ 9 _ rfl; (with_reducible repeat (first | refine blk_drewN ?_ _ | refine blk_drew ?_ | refine blk_alloc ?_ _)); exact BK399.out⟩, ⟨by repeat (first | (with_reducible first | exact HI0.out | apply IsS62.alloc | apply IsS62.drewN | apply IsS62.drew | apply IsS62.set_1 | refine IsS62.far ?_ NB0_384.out _ | refine IsS62.far ?_ NB0_399.out _) | exact HI0.out)⟩, ⟨by repeat (first | (with_reducible first | exact HK.out | apply KeepBut.set_ | apply keep_drewN | apply keep_drew | apply keep_alloc | refine keep_far ?_ GW384.out _ | refine keep_far ?_ GW399.out _) | exact HK.out)⟩, ⟨by repeat (first | (with_reducible first | exact HB.out | apply below_alloc | apply pw_below_drewN | apply below_drew1 | refine below_set ?_ (IsS62.ge HI0.out) | refine below_set ?_ GE384.out | refine below_set ?_ GE399.out) | exact HB.out)⟩⟩
          case rest =>
            clear HC14
            try clear p2
            try clear c3
            try clear p3
            try clear q3
            try clear hx3
            try clear c4
            try clear c5
            try clear c6
            try clear c38
            try clear p39
            try clear q39
            try clear hx39
            try clear c42
            try clear c43
            try clear c52
            try clear c52b0
            try clear c52b1
            try clear c52b2
            try clear c53
            try clear c54
            try clear hcz44_0
            try clear hcz44_1
            try clear hcz44_10
            try clear hcz44_2
            try clear hcz44_3
            try clear hcz44_4
            try clear hcz44_5
            try clear hcz44_6
            try clear hcz44_7
            try clear hcz44_8
            try clear hcz44_9
            try clear hcz46_0
            try clear hcz46_1
            try clear hcz46_10
            try clear hcz46_2
            try clear hcz46_3
            try clear hcz46_4
            try clear hcz46_5
            try clear hcz46_6
            try clear hcz46_7
            try clear hcz46_8
            try clear hcz46_9
            try clear hcz48_0
            try clear hcz48_1
            try clear hcz48_10
            try clear hcz48_2
            try clear hcz48_3
            try clear hcz48_4
            try clear hcz48_5
            try clear hcz48_6
            try clear hcz48_7
            try clear hcz48_8
            try clear hcz48_9
            try clear hcz50_0
            try clear hcz50_1
            try clear hcz50_10
            try clear hcz50_2
            try clear hcz50_3
            try clear hcz50_4
            try clear hcz50_5
            try clear hcz50_6
            try clear hcz50_7
            try clear hcz50_8
            try clear hcz50_9
            try clear hcz51_0
            try clear hcz51_1
            try clear hcz55_0
            try clear hcz55_1
            try clear hcz55_10
            try clear hcz55_2
            try clear hcz55_3
            try clear hcz55_4
            try clear hcz55_5
            try clear hcz55_6
            try clear hcz55_7
            try clear hcz55_8
            try clear hcz55_9
            try clear hfz44_0
            try clear hfz44_1
            try clear hfz44_10
            try clear hfz44_2
            try clear hfz44_3
            try clear hfz44_4
            try clear hfz44_5
            try clear hfz44_6
            try clear hfz44_7
            try clear hfz44_8
            try clear hfz44_9
            try clear hfz46_0
            try clear hfz46_1
            try clear hfz46_10
            try clear hfz46_2
            try clear hfz46_3
            try clear hfz46_4
            try clear hfz46_5
            try clear hfz46_6
            try clear hfz46_7
            try clear hfz46_8
            try clear hfz46_9
            try clear hfz48_0
            try clear hfz48_1
            try clear hfz48_10
            try clear hfz48_2
            try clear hfz48_3
            try clear hfz48_4
            try clear hfz48_5
            try clear hfz48_6
            try clear hfz48_7
            try clear hfz48_8
            try clear hfz48_9
            try clear hfz50_0
            try clear hfz50_1
            try clear hfz50_10
            try clear hfz50_2
            try clear hfz50_3
            try clear hfz50_4
            try clear hfz50_5
            try clear hfz50_6
            try clear hfz50_7
            try clear hfz50_8
            try clear hfz50_9
            try clear hfz51_1
            try clear hfz55_0
            try clear hfz55_1
            try clear hfz55_10
            try clear hfz55_2
            try clear hfz55_3
            try clear hfz55_4
            try clear hfz55_5
            try clear hfz55_6
            try clear hfz55_7
            try clear hfz55_8
            try clear hfz55_9
            try clear hx392_0
            try clear hx398_0
            try clear p392
            try clear p398
            try clear q392
            try clear q398
            obtain ⟨kq, x400000_13, x400001_13, x400002_13, x400003_13, x400004_13, x400005_13, x400006_13, x400007_13, x400008_13, x400009_13, x400010_13, HA, HJ13, BK384, BK399, HI0, HK, HB⟩ := hcut
            cases kq with
            | zero => exact absurd HA.out (by simp [spec_l20Cell.j0])
            | succ kj13 =>
              have H := HA.out
              clear HA
              simp only [spec_l20Cell.j0] at H
              replace H := Option.bind_eq_some_iff.mp H
              obtain ⟨⟨t412, t413⟩, A560, H⟩ := H
              replace H : (if t412 > 0 then (some (x400000_13, x400001_13, x400002_13, x400003_13, x400004_13, x400005_13, x400006_13, x400007_13, x400008_13, x400009_13, x400010_13, t413)) else ((spec_l20Rd_pick.f kj13 s0_0 t413 4).bind fun bt414 => (if bt414.1 = 0 then ((spec_l20AnyText.f kj13 s0_0 bt414.2 1).bind fun bt416 => (some (bt416.1, x400001_13, x400002_13, x400003_13, x400004_13, x400005_13, x400006_13, x400007_13, x400008_13, x400009_13, x400010_13, bt416.2))) else (if bt414.1 = 1 then ((some (([0, 5, (-1)] : List Int) : List Int)).bind fun y418 => ((spec_l20Rd_pick.f kj13 s0_0 bt414.2 3).bind fun bt421 => (if 0 ≤ bt421.1 then (if bt421.1 < (y418.length : Int) then (some (x400000_13, rd y418 bt421.1, x400002_13, x400003_13, x400004_13, x400005_13, x400006_13, x400007_13, x400008_13, x400009_13, x400010_13, bt421.2)) else (none)) else (none)))) else (if bt414.1 = 2 then ((some (([0, 5, (-1)] : List Int) : List Int)).bind fun y424 => ((spec_l20Rd_pick.f kj13 s0_0 bt414.2 3).bind fun bt427 => (if 0 ≤ bt427.1 then (if bt427.1 < (y424.length : Int) then (some (x400000_13, x400001_13, rd y424 bt427.1, x400003_13, x400004_13, x400005_13, x400006_13, x400007_13, x400008_13, x400009_13, x400010_13, bt427.2)) else (none)) else (none)))) else ((spec_l20Brd.f kj13 s0_0 bt414.2 1).bind fun bt430 => (some (x400000_13, x400001_13, x400002_13, x400003_13, x400004_13, x400005_13, x400006_13, x400007_13, x400008_13, bt430.1, bt430.2.1, bt430.2.2)))))))) = some (r1, r2, r3, r4, r5, r6, r7, r8, r9, r10, r11, r12) := H
              have A56 := Aside0.mk A560
              clear A560
              by_cases c57 : t412 > 0
              · rw [if_pos c57] at H
                have c57b0 : decide (0 < t412) = true := decide_eq_true c57
                clear c57
                simp only [Option.some.injEq, Prod.mk.injEq] at H
                obtain ⟨rfl, rfl, rfl, rfl, rfl, rfl, rfl, rfl, rfl, rfl, rfl, rfl⟩ := H
                go_wp2_with (first | ((with_reducible refine gate_callee (f := 38) rfl ?_); refine goesL_ (some 40) rfl rfl Tryd.func38 (by kernel_rfl) rfl #[.pointer (some ⟨g, 0, none⟩), .int .i64 a1] rfl (by (try simp only [List.map_toArray, List.map_cons, List.map_nil]); first | done | rfl | (simp only [List.length_drop, List.length_take]; rfl)) ?_; (with_reducible refine (spec_l20Rd_pick.calls kj13 g s0_0 t411 a1 t412 t413 w0 _ ?side1 ?side2 A56.out).mono ?_); (case side1 => repeat (first | (with_reducible first | exact HI0.out | apply IsS62.alloc | apply IsS62.drewN | apply IsS62.drew | apply IsS62.set_1 | refine IsS62.far ?_ NB0_384.out _ | refine IsS62.far ?_ NB0_399.out _) | exact HI0.out)); (case side2 => repeat (first | (with_reducible first | exact HB.out | apply below_alloc | apply pw_below_drewN | apply below_drew1 | refine below_set ?_ (IsS62.ge HI0.out) | refine below_set ?_ GE384.out | refine below_set ?_ GE399.out) | exact HB.out)); rintro e w58 ⟨rfl, hi, hb, hk⟩; refine ⟨_, rfl, ?_⟩; have n0_ := Aside0.mk (KeepBut.blk hk (g' := gb384) (o := .cells #[.string (⟨#[]⟩ : ByteArray), .int .i64 0, .int .i64 0, .int .i64 0, .int .i64 0, .int .i64 0, .int .i64 0, .int .i64 0, .int .i64 0, .int .i64 0, .int .i64 0] 38 (0, 0)) (by (with_reducible repeat (first | refine blk_drewN ?_ _ | refine blk_drew ?_ | refine blk_alloc ?_ _)); exact BK384.out) NB384_0.out (by simp)); have n1_ := Aside0.mk (KeepBut.blk hk (g' := gb399) (o := .cells #[.string x400000_13, .int .i64 x400001_13, .int .i64 x400002_13, .int .i64 x400003_13, .int .i64 x400004_13, .int .i64 x400005_13, .int .i64 x400006_13, .int .i64 x400007_13, .int .i64 x400008_13, .int .i64 x400009_13, .int .i64 x400010_13] 38 (0, 0)) (by (with_reducible repeat (first | refine blk_drewN ?_ _ | refine blk_drew ?_ | refine blk_alloc ?_ _)); exact BK399.out) NB399_0.out (by simp)); have n2_ := Aside0.mk (KeepBut.trans (by repeat (first | (with_reducible first | exact HK.out | apply KeepBut.set_ | apply keep_drewN | apply keep_drew | apply keep_alloc | refine keep_far ?_ GW384.out _ | refine keep_far ?_ GW399.out _) | exact HK.out)) hk (.inl rfl)); have n3_ := Aside0.mk (hb); have n4_ := Aside0.mk (hi); clear BK384; clear BK399; clear HK; clear HB; clear HI0; have BK384 := n0_; have BK399 := n1_; have HK := n2_; have HB := n3_; have HI0 := n4_; clear n0_ n1_ n2_ n3_ n4_; (try clear hb); (try clear hb2); (try clear hk); (try clear hi); have hnb59 := NB399_384.out; have hnc59 := NB384_399.out; have hnb60 := NB399_0.out; have hnc60 := NB0_399.out; have hcz61_0 : w58.cell? ⟨gb399, 0, none⟩ = some (.string x400000_13) := (blk_cell BK399.out 0).trans rfl; have hcz61_1 : w58.cell? ⟨gb399, 1, none⟩ = some (.int .i64 x400001_13) := (blk_cell BK399.out 1).trans rfl; have hcz61_2 : w58.cell? ⟨gb399, 2, none⟩ = some (.int .i64 x400002_13) := (blk_cell BK399.out 2).trans rfl; have hcz61_3 : w58.cell? ⟨gb399, 3, none⟩ = some (.int .i64 x400003_13) := (blk_cell BK399.out 3).trans rfl; have hcz61_4 : w58.cell? ⟨gb399, 4, none⟩ = some (.int .i64 x400004_13) := (blk_cell BK399.out 4).trans rfl; have hcz61_5 : w58.cell? ⟨gb399, 5, none⟩ = some (.int .i64 x400005_13) := (blk_cell BK399.out 5).trans rfl; have hcz61_6 : w58.cell? ⟨gb399, 6, none⟩ = some (.int .i64 x400006_13) := (blk_cell BK399.out 6).trans rfl; have hcz61_7 : w58.cell? ⟨gb399, 7, none⟩ = some (.int .i64 x400007_13) := (blk_cell BK399.out 7).trans rfl; have hcz61_8 : w58.cell? ⟨gb399, 8, none⟩ = some (.int .i64 x400008_13) := (blk_cell BK399.out 8).trans rfl; have hcz61_9 : w58.cell? ⟨gb399, 9, none⟩ = some (.int .i64 x400009_13) := (blk_cell BK399.out 9).trans rfl; have hcz61_10 : w58.cell? ⟨gb399, 10, none⟩ = some (.int .i64 x400010_13) := (blk_cell BK399.out 10).trans rfl; have hfz61_0 := blk_frozen BK399.out 0; have hfz61_1 := blk_frozen BK399.out 1; have hfz61_2 := blk_frozen BK399.out 2; have hfz61_3 := blk_frozen BK399.out 3; have hfz61_4 := blk_frozen BK399.out 4; have hfz61_5 := blk_frozen BK399.out 5; have hfz61_6 := blk_frozen BK399.out 6; have hfz61_7 := blk_frozen BK399.out 7; have hfz61_8 := blk_frozen BK399.out 8; have hfz61_9 := blk_frozen BK399.out 9; have hfz61_10 := blk_frozen BK399.out 10; have hnb62 := NB384_0.out; have hnc62 := NB0_384.out; have hcz63_0 : w58.cell? ⟨gb384, 0, none⟩ = some (.string (⟨#[]⟩ : ByteArray)) := (blk_cell BK384.out 0).trans rfl; have hcz63_1 : w58.cell? ⟨gb384, 1, none⟩ = some (.int .i64 0) := (blk_cell BK384.out 1).trans rfl; have hcz63_2 : w58.cell? ⟨gb384, 2, none⟩ = some (.int .i64 0) := (blk_cell BK384.out 2).trans rfl; have hcz63_3 : w58.cell? ⟨gb384, 3, none⟩ = some (.int .i64 0) := (blk_cell BK384.out 3).trans rfl; have hcz63_4 : w58.cell? ⟨gb384, 4, none⟩ = some (.int .i64 0) := (blk_cell BK384.out 4).trans rfl; have hcz63_5 : w58.cell? ⟨gb384, 5, none⟩ = some (.int .i64 0) := (blk_cell BK384.out 5).trans rfl; have hcz63_6 : w58.cell? ⟨gb384, 6, none⟩ = some (.int .i64 0) := (blk_cell BK384.out 6).trans rfl; have hcz63_7 : w58.cell? ⟨gb384, 7, none⟩ = some (.int .i64 0) := (blk_cell BK384.out 7).trans rfl; have hcz63_8 : w58.cell? ⟨gb384, 8, none⟩ = some (.int .i64 0) := (blk_cell BK384.out 8).trans rfl; have hcz63_9 : w58.cell? ⟨gb384, 9, none⟩ = some (.int .i64 0) := (blk_cell BK384.out 9).trans rfl; have hcz63_10 : w58.cell? ⟨gb384, 10, none⟩ = some (.int .i64 0) := (blk_cell BK384.out 10).trans rfl; have hfz63_0 := blk_frozen BK384.out 0; have hfz63_1 := blk_frozen BK384.out 1; have hfz63_2 := blk_frozen BK384.out 2; have hfz63_3 := blk_frozen BK384.out 3; have hfz63_4 := blk_frozen BK384.out 4; have hfz63_5 := blk_frozen BK384.out 5; have hfz63_6 := blk_frozen BK384.out 6; have hfz63_7 := blk_frozen BK384.out 7; have hfz63_8 := blk_frozen BK384.out 8; have hfz63_9 := blk_frozen BK384.out 9; have hfz63_10 := blk_frozen BK384.out 10))
                refine bodyPost_ret (results_cell_row rfl _ _ gb384 38 #[.string x400000_13, .int .i64 x400001_13, .int .i64 x400002_13, .int .i64 x400003_13, .int .i64 x400004_13, .int .i64 x400005_13, .int .i64 x400006_13, .int .i64 x400007_13, .int .i64 x400008_13, .int .i64 x400009_13, .int .i64 x400010_13] (0, 0) _ rfl (by (with_reducible repeat (first | refine blk_drewN ?_ _ | refine blk_drew ?_ | refine blk_alloc ?_ _)); refine blk_put (cs := #[.string x400000_13, .int .i64 x400001_13, .int .i64 x400002_13, .int .i64 x400003_13, .int .i64 x400004_13, .int .i64 x400005_13, .int .i64 x400006_13, .int .i64 x400007_13, .int .i64 x400008_13, .int .i64 x400009_13, .int .i64 0]) ?_ 10 _ rfl; (with_reducible repeat (first | refine blk_drewN ?_ _ | refine blk_drew ?_ | refine blk_alloc ?_ _)); refine blk_put (cs := #[.string x400000_13, .int .i64 x400001_13, .int .i64 x400002_13, .int .i64 x400003_13, .int .i64 x400004_13, .int .i64 x400005_13, .int .i64 x400006_13, .int .i64 x400007_13, .int .i64 x400008_13, .int .i64 0, .int .i64 0]) ?_ 9 _ rfl; (with_reducible repeat (first | refine blk_drewN ?_ _ | refine blk_drew ?_ | refine blk_alloc ?_ _)); refine blk_put (cs := #[.string x400000_13, .int .i64 x400001_13, .int .i64 x400002_13, .int .i64 x400003_13, .int .i64 x400004_13, .int .i64 x400005_13, .int .i64 x400006_13, .int .i64 x400007_13, .int .i64 0, .int .i64 0, .int .i64 0]) ?_ 8 _ rfl; (with_reducible repeat (first | refine blk_drewN ?_ _ | refine blk_drew ?_ | refine blk_alloc ?_ _)); refine blk_put (cs := #[.string x400000_13, .int .i64 x400001_13, .int .i64 x400002_13, .int .i64 x400003_13, .int .i64 x400004_13, .int .i64 x400005_13, .int .i64 x400006_13, .int .i64 0, .int .i64 0, .int .i64 0, .int .i64 0]) ?_ 7 _ rfl; (with_reducible repeat (first | refine blk_drewN ?_ _ | refine blk_drew ?_ | refine blk_alloc ?_ _)); refine blk_put (cs := #[.string x400000_13, .int .i64 x400001_13, .int .i64 x400002_13, .int .i64 x400003_13, .int .i64 x400004_13, .int .i64 x400005_13, .int .i64 0, .int .i64 0, .int .i64 0, .int .i64 0, .int .i64 0]) ?_ 6 _ rfl; (with_reducible repeat (first | refine blk_drewN ?_ _ | refine blk_drew ?_ | refine blk_alloc ?_ _)); refine blk_put (cs := #[.string x400000_13, .int .i64 x400001_13, .int .i64 x400002_13, .int .i64 x400003_13, .int .i64 x400004_13, .int .i64 0, .int .i64 0, .int .i64 0, .int .i64 0, .int .i64 0, .int .i64 0]) ?_ 5 _ rfl; (with_reducible repeat (first | refine blk_drewN ?_ _ | refine blk_drew ?_ | refine blk_alloc ?_ _)); refine blk_put (cs := #[.string x400000_13, .int .i64 x400001_13, .int .i64 x400002_13, .int .i64 x400003_13, .int .i64 0, .int .i64 0, .int .i64 0, .int .i64 0, .int .i64 0, .int .i64 0, .int .i64 0]) ?_ 4 _ rfl; (with_reducible repeat (first | refine blk_drewN ?_ _ | refine blk_drew ?_ | refine blk_alloc ?_ _)); refine blk_put (cs := #[.string x400000_13, .int .i64 x400001_13, .int .i64 x400002_13, .int .i64 0, .int .i64 0, .int .i64 0, .int .i64 0, .int .i64 0, .int .i64 0, .int .i64 0, .int .i64 0]) ?_ 3 _ rfl; (with_reducible repeat (first | refine blk_drewN ?_ _ | refine blk_drew ?_ | refine blk_alloc ?_ _)); refine blk_put (cs := #[.string x400000_13, .int .i64 x400001_13, .int .i64 0, .int .i64 0, .int .i64 0, .int .i64 0, .int .i64 0, .int .i64 0, .int .i64 0, .int .i64 0, .int .i64 0]) ?_ 2 _ rfl; (with_reducible repeat (first | refine blk_drewN ?_ _ | refine blk_drew ?_ | refine blk_alloc ?_ _)); refine blk_put (cs := #[.string x400000_13, .int .i64 0, .int .i64 0, .int .i64 0, .int .i64 0, .int .i64 0, .int .i64 0, .int .i64 0, .int .i64 0, .int .i64 0, .int .i64 0]) ?_ 1 _ rfl; (with_reducible repeat (first | refine blk_drewN ?_ _ | refine blk_drew ?_ | refine blk_alloc ?_ _)); refine blk_put (cs := #[.string (⟨#[]⟩ : ByteArray), .int .i64 0, .int .i64 0, .int .i64 0, .int .i64 0, .int .i64 0, .int .i64 0, .int .i64 0, .int .i64 0, .int .i64 0, .int .i64 0]) ?_ 0 _ rfl; (with_reducible repeat (first | refine blk_drewN ?_ _ | refine blk_drew ?_ | refine blk_alloc ?_ _)); exact BK384.out) Tryd.underlying38 rfl (by kernel_rfl)) rfl ?_
                exact ⟨by first | rfl | (simp [errW_none, errW_some] <;> rfl) | (simp [*, errW_none, errW_some] <;> rfl), by repeat (first | (with_reducible first | exact HI0.out | apply IsS62.alloc | apply IsS62.drewN | apply IsS62.drew | apply IsS62.set_1 | refine IsS62.far ?_ NB0_384.out _ | refine IsS62.far ?_ NB0_399.out _) | exact HI0.out), by repeat (first | (with_reducible first | exact HB.out | apply below_alloc | apply pw_below_drewN | apply below_drew1 | refine below_set ?_ (IsS62.ge HI0.out) | refine below_set ?_ GE384.out | refine below_set ?_ GE399.out) | exact HB.out), by repeat (first | (with_reducible first | exact HK.out | apply KeepBut.set_ | apply keep_drewN | apply keep_drew | apply keep_alloc | refine keep_far ?_ GW384.out _ | refine keep_far ?_ GW399.out _) | exact HK.out)⟩
              · rw [if_neg c57] at H
                have c57b0 : decide (0 < t412) = false := decide_eq_false c57
                clear c57
                replace H := Option.bind_eq_some_iff.mp H
                obtain ⟨⟨t414, t415⟩, A640, H⟩ := H
                replace H : (if t414 = 0 then ((spec_l20AnyText.f kj13 s0_0 t415 1).bind fun bt416 => (some (bt416.1, x400001_13, x400002_13, x400003_13, x400004_13, x400005_13, x400006_13, x400007_13, x400008_13, x400009_13, x400010_13, bt416.2))) else (if t414 = 1 then ((some (([0, 5, (-1)] : List Int) : List Int)).bind fun y418 => ((spec_l20Rd_pick.f kj13 s0_0 t415 3).bind fun bt421 => (if 0 ≤ bt421.1 then (if bt421.1 < (y418.length : Int) then (some (x400000_13, rd y418 bt421.1, x400002_13, x400003_13, x400004_13, x400005_13, x400006_13, x400007_13, x400008_13, x400009_13, x400010_13, bt421.2)) else (none)) else (none)))) else (if t414 = 2 then ((some (([0, 5, (-1)] : List Int) : List Int)).bind fun y424 => ((spec_l20Rd_pick.f kj13 s0_0 t415 3).bind fun bt427 => (if 0 ≤ bt427.1 then (if bt427.1 < (y424.length : Int) then (some (x400000_13, x400001_13, rd y424 bt427.1, x400003_13, x400004_13, x400005_13, x400006_13, x400007_13, x400008_13, x400009_13, x400010_13, bt427.2)) else (none)) else (none)))) else ((spec_l20Brd.f kj13 s0_0 t415 1).bind fun bt430 => (some (x400000_13, x400001_13, x400002_13, x400003_13, x400004_13, x400005_13, x400006_13, x400007_13, x400008_13, bt430.1, bt430.2.1, bt430.2.2)))))) = some (r1, r2, r3, r4, r5, r6, r7, r8, r9, r10, r11, r12) := H
                have A64 := Aside0.mk A640
                clear A640
                by_cases c65 : t414 = 0
                · rw [if_pos c65] at H
                  have c65b0 : (t414 == 0) = true := beq_iff_eq.mpr c65
                  have c65b1 : (t414 != 0) = false := bne_eq_false_iff_eq.mpr c65
                  clear c65
                  replace H := Option.bind_eq_some_iff.mp H
                  obtain ⟨⟨t416, t417⟩, A660, H⟩ := H
                  replace H : (some (t416, x400001_13, x400002_13, x400003_13, x400004_13, x400005_13, x400006_13, x400007_13, x400008_13, x400009_13, x400010_13, t417)) = some (r1, r2, r3, r4, r5, r6, r7, r8, r9, r10, r11, r12) := H
                  have A66 := Aside0.mk A660
                  clear A660
                  simp only [Option.some.injEq, Prod.mk.injEq] at H
                  obtain ⟨rfl, rfl, rfl, rfl, rfl, rfl, rfl, rfl, rfl, rfl, rfl, rfl⟩ := H
                  go_wp2_with (first | ((with_reducible refine gate_callee (f := 38) rfl ?_); refine goesL_ (some 40) rfl rfl Tryd.func38 (by kernel_rfl) rfl #[.pointer (some ⟨g, 0, none⟩), .int .i64 a1] rfl (by (try simp only [List.map_toArray, List.map_cons, List.map_nil]); first | done | rfl | (simp only [List.length_drop, List.length_take]; rfl)) ?_; (with_reducible refine (spec_l20Rd_pick.calls kj13 g s0_0 t411 a1 t412 t413 w0 _ ?side1 ?side2 A56.out).mono ?_); (case side1 => repeat (first | (with_reducible first | exact HI0.out | apply IsS62.alloc | apply IsS62.drewN | apply IsS62.drew | apply IsS62.set_1 | refine IsS62.far ?_ NB0_384.out _ | refine IsS62.far ?_ NB0_399.out _) | exact HI0.out)); (case side2 => repeat (first | (with_reducible first | exact HB.out | apply below_alloc | apply pw_below_drewN | apply below_drew1 | refine below_set ?_ (IsS62.ge HI0.out) | refine below_set ?_ GE384.out | refine below_set ?_ GE399.out) | exact HB.out)); rintro e w67 ⟨rfl, hi, hb, hk⟩; refine ⟨_, rfl, ?_⟩; have n0_ := Aside0.mk (KeepBut.blk hk (g' := gb384) (o := .cells #[.string (⟨#[]⟩ : ByteArray), .int .i64 0, .int .i64 0, .int .i64 0, .int .i64 0, .int .i64 0, .int .i64 0, .int .i64 0, .int .i64 0, .int .i64 0, .int .i64 0] 38 (0, 0)) (by (with_reducible repeat (first | refine blk_drewN ?_ _ | refine blk_drew ?_ | refine blk_alloc ?_ _)); exact BK384.out) NB384_0.out (by simp)); have n1_ := Aside0.mk (KeepBut.blk hk (g' := gb399) (o := .cells #[.string x400000_13, .int .i64 x400001_13, .int .i64 x400002_13, .int .i64 x400003_13, .int .i64 x400004_13, .int .i64 x400005_13, .int .i64 x400006_13, .int .i64 x400007_13, .int .i64 x400008_13, .int .i64 x400009_13, .int .i64 x400010_13] 38 (0, 0)) (by (with_reducible repeat (first | refine blk_drewN ?_ _ | refine blk_drew ?_ | refine blk_alloc ?_ _)); exact BK399.out) NB399_0.out (by simp)); have n2_ := Aside0.mk (KeepBut.trans (by repeat (first | (with_reducible first | exact HK.out | apply KeepBut.set_ | apply keep_drewN | apply keep_drew | apply keep_alloc | refine keep_far ?_ GW384.out _ | refine keep_far ?_ GW399.out _) | exact HK.out)) hk (.inl rfl)); have n3_ := Aside0.mk (hb); have n4_ := Aside0.mk (hi); clear BK384; clear BK399; clear HK; clear HB; clear HI0; have BK384 := n0_; have BK399 := n1_; have HK := n2_; have HB := n3_; have HI0 := n4_; clear n0_ n1_ n2_ n3_ n4_; (try clear hb); (try clear hb2); (try clear hk); (try clear hi)) | ((with_reducible refine gate_callee (f := 38) rfl ?_); refine goesL_ (some 44) rfl rfl Tryd.func38 (by kernel_rfl) rfl #[.pointer (some ⟨g, 0, none⟩), .int .i64 4] rfl (by (try simp only [List.map_toArray, List.map_cons, List.map_nil]); first | done | rfl | (simp only [List.length_drop, List.length_take]; rfl)) ?_; (with_reducible refine (spec_l20Rd_pick.calls kj13 g s0_0 t413 4 t414 t415 w0 _ ?side1 ?side2 A64.out).mono ?_); (case side1 => repeat (first | (with_reducible first | exact HI0.out | apply IsS62.alloc | apply IsS62.drewN | apply IsS62.drew | apply IsS62.set_1 | refine IsS62.far ?_ NB0_384.out _ | refine IsS62.far ?_ NB0_399.out _) | exact HI0.out)); (case side2 => repeat (first | (with_reducible first | exact HB.out | apply below_alloc | apply pw_below_drewN | apply below_drew1 | refine below_set ?_ (IsS62.ge HI0.out) | refine below_set ?_ GE384.out | refine below_set ?_ GE399.out) | exact HB.out)); rintro e w68 ⟨rfl, hi, hb, hk⟩; refine ⟨_, rfl, ?_⟩; have n0_ := Aside0.mk (KeepBut.blk hk (g' := gb384) (o := .cells #[.string (⟨#[]⟩ : ByteArray), .int .i64 0, .int .i64 0, .int .i64 0, .int .i64 0, .int .i64 0, .int .i64 0, .int .i64 0, .int .i64 0, .int .i64 0, .int .i64 0] 38 (0, 0)) (by (with_reducible repeat (first | refine blk_drewN ?_ _ | refine blk_drew ?_ | refine blk_alloc ?_ _)); exact BK384.out) NB384_0.out (by simp)); have n1_ := Aside0.mk (KeepBut.blk hk (g' := gb399) (o := .cells #[.string x400000_13, .int .i64 x400001_13, .int .i64 x400002_13, .int .i64 x400003_13, .int .i64 x400004_13, .int .i64 x400005_13, .int .i64 x400006_13, .int .i64 x400007_13, .int .i64 x400008_13, .int .i64 x400009_13, .int .i64 x400010_13] 38 (0, 0)) (by (with_reducible repeat (first | refine blk_drewN ?_ _ | refine blk_drew ?_ | refine blk_alloc ?_ _)); exact BK399.out) NB399_0.out (by simp)); have n2_ := Aside0.mk (KeepBut.trans (by repeat (first | (with_reducible first | exact HK.out | apply KeepBut.set_ | apply keep_drewN | apply keep_drew | apply keep_alloc | refine keep_far ?_ GW384.out _ | refine keep_far ?_ GW399.out _) | exact HK.out)) hk (.inl rfl)); have n3_ := Aside0.mk (hb); have n4_ := Aside0.mk (hi); clear BK384; clear BK399; clear HK; clear HB; clear HI0; have BK384 := n0_; have BK399 := n1_; have HK := n2_; have HB := n3_; have HI0 := n4_; clear n0_ n1_ n2_ n3_ n4_; (try clear hb); (try clear hb2); (try clear hk); (try clear hi)) | ((with_reducible refine gate_callee (f := 34) rfl ?_); refine goesL_ (some 51) rfl rfl Tryd.func34 (by kernel_rfl) rfl #[.pointer (some ⟨g, 0, none⟩), .int .i64 1] rfl (by (try simp only [List.map_toArray, List.map_cons, List.map_nil]); first | done | rfl | (simp only [List.length_drop, List.length_take]; rfl)) ?_; (with_reducible refine (spec_l20AnyText.calls kj13 g s0_0 t415 1 t416 t417 w0 _ ?side1 ?side2 A66.out).mono ?_); (case side1 => repeat (first | (with_reducible first | exact HI0.out | apply IsS62.alloc | apply IsS62.drewN | apply IsS62.drew | apply IsS62.set_1 | refine IsS62.far ?_ NB0_384.out _ | refine IsS62.far ?_ NB0_399.out _) | exact HI0.out)); (case side2 => repeat (first | (with_reducible first | exact HB.out | apply below_alloc | apply pw_below_drewN | apply below_drew1 | refine below_set ?_ (IsS62.ge HI0.out) | refine below_set ?_ GE384.out | refine below_set ?_ GE399.out) | exact HB.out)); rintro e w69 ⟨rfl, hi, hb, hk⟩; refine ⟨_, rfl, ?_⟩; have n0_ := Aside0.mk (KeepBut.blk hk (g' := gb384) (o := .cells #[.string (⟨#[]⟩ : ByteArray), .int .i64 0, .int .i64 0, .int .i64 0, .int .i64 0, .int .i64 0, .int .i64 0, .int .i64 0, .int .i64 0, .int .i64 0, .int .i64 0] 38 (0, 0)) (by (with_reducible repeat (first | refine blk_drewN ?_ _ | refine blk_drew ?_ | refine blk_alloc ?_ _)); exact BK384.out) NB384_0.out (by simp)); have n1_ := Aside0.mk (KeepBut.blk hk (g' := gb399) (o := .cells #[.string x400000_13, .int .i64 x400001_13, .int .i64 x400002_13, .int .i64 x400003_13, .int .i64 x400004_13, .int .i64 x400005_13, .int .i64 x400006_13, .int .i64 x400007_13, .int .i64 x400008_13, .int .i64 x400009_13, .int .i64 x400010_13] 38 (0, 0)) (by (with_reducible repeat (first | refine blk_drewN ?_ _ | refine blk_drew ?_ | refine blk_alloc ?_ _)); exact BK399.out) NB399_0.out (by simp)); have n2_ := Aside0.mk (KeepBut.trans (by repeat (first | (with_reducible first | exact HK.out | apply KeepBut.set_ | apply keep_drewN | apply keep_drew | apply keep_alloc | refine keep_far ?_ GW384.out _ | refine keep_far ?_ GW399.out _) | exact HK.out)) hk (.inl rfl)); have n3_ := Aside0.mk (hb); have n4_ := Aside0.mk (hi); clear BK384; clear BK399; clear HK; clear HB; clear HI0; have BK384 := n0_; have BK399 := n1_; have HK := n2_; have HB := n3_; have HI0 := n4_; clear n0_ n1_ n2_ n3_ n4_; (try clear hb); (try clear hb2); (try clear hk); (try clear hi); have hnb70 := NB399_384.out; have hnc70 := NB384_399.out; have hnb71 := NB399_0.out; have hnc71 := NB0_399.out; have hcz72_0 : w69.cell? ⟨gb399, 0, none⟩ = some (.string x400000_13) := (blk_cell BK399.out 0).trans rfl; have hcz72_1 : w69.cell? ⟨gb399, 1, none⟩ = some (.int .i64 x400001_13) := (blk_cell BK399.out 1).trans rfl; have hcz72_2 : w69.cell? ⟨gb399, 2, none⟩ = some (.int .i64 x400002_13) := (blk_cell BK399.out 2).trans rfl; have hcz72_3 : w69.cell? ⟨gb399, 3, none⟩ = some (.int .i64 x400003_13) := (blk_cell BK399.out 3).trans rfl; have hcz72_4 : w69.cell? ⟨gb399, 4, none⟩ = some (.int .i64 x400004_13) := (blk_cell BK399.out 4).trans rfl; have hcz72_5 : w69.cell? ⟨gb399, 5, none⟩ = some (.int .i64 x400005_13) := (blk_cell BK399.out 5).trans rfl; have hcz72_6 : w69.cell? ⟨gb399, 6, none⟩ = some (.int .i64 x400006_13) := (blk_cell BK399.out 6).trans rfl; have hcz72_7 : w69.cell? ⟨gb399, 7, none⟩ = some (.int .i64 x400007_13) := (blk_cell BK399.out 7).trans rfl; have hcz72_8 : w69.cell? ⟨gb399, 8, none⟩ = some (.int .i64 x400008_13) := (blk_cell BK399.out 8).trans rfl; have hcz72_9 : w69.cell? ⟨gb399, 9, none⟩ = some (.int .i64 x400009_13) := (blk_cell BK399.out 9).trans rfl; have hcz72_10 : w69.cell? ⟨gb399, 10, none⟩ = some (.int .i64 x400010_13) := (blk_cell BK399.out 10).trans rfl; have hfz72_0 := blk_frozen BK399.out 0; have hfz72_1 := blk_frozen BK399.out 1; have hfz72_2 := blk_frozen BK399.out 2; have hfz72_3 := blk_frozen BK399.out 3; have hfz72_4 := blk_frozen BK399.out 4; have hfz72_5 := blk_frozen BK399.out 5; have hfz72_6 := blk_frozen BK399.out 6; have hfz72_7 := blk_frozen BK399.out 7; have hfz72_8 := blk_frozen BK399.out 8; have hfz72_9 := blk_frozen BK399.out 9; have hfz72_10 := blk_frozen BK399.out 10; have hnb73 := NB384_0.out; have hnc73 := NB0_384.out; have hcz74_0 : w69.cell? ⟨gb384, 0, none⟩ = some (.string (⟨#[]⟩ : ByteArray)) := (blk_cell BK384.out 0).trans rfl; have hcz74_1 : w69.cell? ⟨gb384, 1, none⟩ = some (.int .i64 0) := (blk_cell BK384.out 1).trans rfl; have hcz74_2 : w69.cell? ⟨gb384, 2, none⟩ = some (.int .i64 0) := (blk_cell BK384.out 2).trans rfl; have hcz74_3 : w69.cell? ⟨gb384, 3, none⟩ = some (.int .i64 0) := (blk_cell BK384.out 3).trans rfl; have hcz74_4 : w69.cell? ⟨gb384, 4, none⟩ = some (.int .i64 0) := (blk_cell BK384.out 4).trans rfl; have hcz74_5 : w69.cell? ⟨gb384, 5, none⟩ = some (.int .i64 0) := (blk_cell BK384.out 5).trans rfl; have hcz74_6 : w69.cell? ⟨gb384, 6, none⟩ = some (.int .i64 0) := (blk_cell BK384.out 6).trans rfl; have hcz74_7 : w69.cell? ⟨gb384, 7, none⟩ = some (.int .i64 0) := (blk_cell BK384.out 7).trans rfl; have hcz74_8 : w69.cell? ⟨gb384, 8, none⟩ = some (.int .i64 0) := (blk_cell BK384.out 8).trans rfl; have hcz74_9 : w69.cell? ⟨gb384, 9, none⟩ = some (.int .i64 0) := (blk_cell BK384.out 9).trans rfl; have hcz74_10 : w69.cell? ⟨gb384, 10, none⟩ = some (.int .i64 0) := (blk_cell BK384.out 10).trans rfl; have hfz74_0 := blk_frozen BK384.out 0; have hfz74_1 := blk_frozen BK384.out 1; have hfz74_2 := blk_frozen BK384.out 2; have hfz74_3 := blk_frozen BK384.out 3; have hfz74_4 := blk_frozen BK384.out 4; have hfz74_5 := blk_frozen BK384.out 5; have hfz74_6 := blk_frozen BK384.out 6; have hfz74_7 := blk_frozen BK384.out 7; have hfz74_8 := blk_frozen BK384.out 8; have hfz74_9 := blk_frozen BK384.out 9; have hfz74_10 := blk_frozen BK384.out 10))
                  refine bodyPost_ret (results_cell_row rfl _ _ gb384 38 #[.string t416, .int .i64 x400001_13, .int .i64 x400002_13, .int .i64 x400003_13, .int .i64 x400004_13, .int .i64 x400005_13, .int .i64 x400006_13, .int .i64 x400007_13, .int .i64 x400008_13, .int .i64 x400009_13, .int .i64 x400010_13] (0, 0) _ rfl (by (with_reducible repeat (first | refine blk_drewN ?_ _ | refine blk_drew ?_ | refine blk_alloc ?_ _)); refine blk_put (cs := #[.string t416, .int .i64 x400001_13, .int .i64 x400002_13, .int .i64 x400003_13, .int .i64 x400004_13, .int .i64 x400005_13, .int .i64 x400006_13, .int .i64 x400007_13, .int .i64 x400008_13, .int .i64 x400009_13, .int .i64 0]) ?_ 10 _ rfl; (with_reducible repeat (first | refine blk_drewN ?_ _ | refine blk_drew ?_ | refine blk_alloc ?_ _)); refine blk_put (cs := #[.string t416, .int .i64 x400001_13, .int .i64 x400002_13, .int .i64 x400003_13, .int .i64 x400004_13, .int .i64 x400005_13, .int .i64 x400006_13, .int .i64 x400007_13, .int .i64 x400008_13, .int .i64 0, .int .i64 0]) ?_ 9 _ rfl; (with_reducible repeat (first | refine blk_drewN ?_ _ | refine blk_drew ?_ | refine blk_alloc ?_ _)); refine blk_put (cs := #[.string t416, .int .i64 x400001_13, .int .i64 x400002_13, .int .i64 x400003_13, .int .i64 x400004_13, .int .i64 x400005_13, .int .i64 x400006_13, .int .i64 x400007_13, .int .i64 0, .int .i64 0, .int .i64 0]) ?_ 8 _ rfl; (with_reducible repeat (first | refine blk_drewN ?_ _ | refine blk_drew ?_ | refine blk_alloc ?_ _)); refine blk_put (cs := #[.string t416, .int .i64 x400001_13, .int .i64 x400002_13, .int .i64 x400003_13, .int .i64 x400004_13, .int .i64 x400005_13, .int .i64 x400006_13, .int .i64 0, .int .i64 0, .int .i64 0, .int .i64 0]) ?_ 7 _ rfl; (with_reducible repeat (first | refine blk_drewN ?_ _ | refine blk_drew ?_ | refine blk_alloc ?_ _)); refine blk_put (cs := #[.string t416, .int .i64 x400001_13, .int .i64 x400002_13, .int .i64 x400003_13, .int .i64 x400004_13, .int .i64 x400005_13, .int .i64 0, .int .i64 0, .int .i64 0, .int .i64 0, .int .i64 0]) ?_ 6 _ rfl; (with_reducible repeat (first | refine blk_drewN ?_ _ | refine blk_drew ?_ | refine blk_alloc ?_ _)); refine blk_put (cs := #[.string t416, .int .i64 x400001_13, .int .i64 x400002_13, .int .i64 x400003_13, .int .i64 x400004_13, .int .i64 0, .int .i64 0, .int .i64 0, .int .i64 0, .int .i64 0, .int .i64 0]) ?_ 5 _ rfl; (with_reducible repeat (first | refine blk_drewN ?_ _ | refine blk_drew ?_ | refine blk_alloc ?_ _)); refine blk_put (cs := #[.string t416, .int .i64 x400001_13, .int .i64 x400002_13, .int .i64 x400003_13, .int .i64 0, .int .i64 0, .int .i64 0, .int .i64 0, .int .i64 0, .int .i64 0, .int .i64 0]) ?_ 4 _ rfl; (with_reducible repeat (first | refine blk_drewN ?_ _ | refine blk_drew ?_ | refine blk_alloc ?_ _)); refine blk_put (cs := #[.string t416, .int .i64 x400001_13, .int .i64 x400002_13, .int .i64 0, .int .i64 0, .int .i64 0, .int .i64 0, .int .i64 0, .int .i64 0, .int .i64 0, .int .i64 0]) ?_ 3 _ rfl; (with_reducible repeat (first | refine blk_drewN ?_ _ | refine blk_drew ?_ | refine blk_alloc ?_ _)); refine blk_put (cs := #[.string t416, .int .i64 x400001_13, .int .i64 0, .int .i64 0, .int .i64 0, .int .i64 0, .int .i64 0, .int .i64 0, .int .i64 0, .int .i64 0, .int .i64 0]) ?_ 2 _ rfl; (with_reducible repeat (first | refine blk_drewN ?_ _ | refine blk_drew ?_ | refine blk_alloc ?_ _)); refine blk_put (cs := #[.string t416, .int .i64 0, .int .i64 0, .int .i64 0, .int .i64 0, .int .i64 0, .int .i64 0, .int .i64 0, .int .i64 0, .int .i64 0, .int .i64 0]) ?_ 1 _ rfl; (with_reducible repeat (first | refine blk_drewN ?_ _ | refine blk_drew ?_ | refine blk_alloc ?_ _)); refine blk_put (cs := #[.string (⟨#[]⟩ : ByteArray), .int .i64 0, .int .i64 0, .int .i64 0, .int .i64 0, .int .i64 0, .int .i64 0, .int .i64 0, .int .i64 0, .int .i64 0, .int .i64 0]) ?_ 0 _ rfl; (with_reducible repeat (first | refine blk_drewN ?_ _ | refine blk_drew ?_ | refine blk_alloc ?_ _)); refine blk_far ?_ NB384_399.out _; (with_reducible repeat (first | refine blk_drewN ?_ _ | refine blk_drew ?_ | refine blk_alloc ?_ _)); exact BK384.out) Tryd.underlying38 rfl (by kernel_rfl)) rfl ?_
                  exact ⟨by first | rfl | (simp [errW_none, errW_some] <;> rfl) | (simp [*, errW_none, errW_some] <;> rfl), by repeat (first | (with_reducible first | exact HI0.out | apply IsS62.alloc | apply IsS62.drewN | apply IsS62.drew | apply IsS62.set_1 | refine IsS62.far ?_ NB0_384.out _ | refine IsS62.far ?_ NB0_399.out _) | exact HI0.out), by repeat (first | (with_reducible first | exact HB.out | apply below_alloc | apply pw_below_drewN | apply below_drew1 | refine below_set ?_ (IsS62.ge HI0.out) | refine below_set ?_ GE384.out | refine below_set ?_ GE399.out) | exact HB.out), by repeat (first | (with_reducible first | exact HK.out | apply KeepBut.set_ | apply keep_drewN | apply keep_drew | apply keep_alloc | refine keep_far ?_ GW384.out _ | refine keep_far ?_ GW399.out _) | exact HK.out)⟩
                · rw [if_neg c65] at H
                  have c65b0 : (t414 == 0) = false := beq_eq_false_iff_ne.mpr c65
                  have c65b1 : (t414 != 0) = true := bne_iff_ne.mpr c65
                  by_cases c75 : t414 = 1
                  · rw [if_pos c75] at H
                    have c75b0 : (t414 == 1) = true := beq_iff_eq.mpr c75
                    have c75b1 : (t414 != 1) = false := bne_eq_false_iff_eq.mpr c75
                    clear c75
                    obtain ⟨y418, hy418⟩ : ∃ y_ : List Int, y_ = (([0, 5, (-1)] : List Int)) := ⟨_, rfl⟩
                    replace H : ((spec_l20Rd_pick.f kj13 s0_0 t415 3).bind fun bt421 => (if 0 ≤ bt421.1 then (if bt421.1 < (y418.length : Int) then (some (x400000_13, rd y418 bt421.1, x400002_13, x400003_13, x400004_13, x400005_13, x400006_13, x400007_13, x400008_13, x400009_13, x400010_13, bt421.2)) else (none)) else (none))) = some (r1, r2, r3, r4, r5, r6, r7, r8, r9, r10, r11, r12) := by first | (rw [hy418]; with_reducible exact H) | (have H2_ := (Option.bind_some _ _).symm.trans H; rw [hy418]; with_reducible exact H2_) | (have H2_ := (Option.bind_some _ _).symm.trans H; with_reducible exact H2_) | with_reducible exact H | (rw [hy418]; exact H) | exact H
                    have Ny418 := Aside0.mk hy418
                    clear hy418
                    replace H := Option.bind_eq_some_iff.mp H
                    obtain ⟨⟨t421, t422⟩, A760, H⟩ := H
                    replace H : (if 0 ≤ t421 then (if t421 < (y418.length : Int) then (some (x400000_13, rd y418 t421, x400002_13, x400003_13, x400004_13, x400005_13, x400006_13, x400007_13, x400008_13, x400009_13, x400010_13, t422)) else (none)) else (none)) = some (r1, r2, r3, r4, r5, r6, r7, r8, r9, r10, r11, r12) := H
                    have A76 := Aside0.mk A760
                    clear A760
                    by_cases c77 : 0 ≤ t421
                    · rw [if_pos c77] at H
                      have c77b0 : decide (0 ≤ t421) = true := decide_eq_true c77
                      clear c77
                      by_cases c78 : t421 < (y418.length : Int)
                      · rw [if_pos c78] at H
                        have c78b0 : decide (t421 < (y418.length : Int)) = true := decide_eq_true c78
                        clear c78
                        simp only [Option.some.injEq, Prod.mk.injEq] at H
                        obtain ⟨rfl, rfl, rfl, rfl, rfl, rfl, rfl, rfl, rfl, rfl, rfl, rfl⟩ := H
                        go_wp2_with (first | ((with_reducible refine gate_callee (f := 38) rfl ?_); refine goesL_ (some 40) rfl rfl Tryd.func38 (by kernel_rfl) rfl #[.pointer (some ⟨g, 0, none⟩), .int .i64 a1] rfl (by (try simp only [List.map_toArray, List.map_cons, List.map_nil]); first | done | rfl | (simp only [List.length_drop, List.length_take]; rfl)) ?_; (with_reducible refine (spec_l20Rd_pick.calls kj13 g s0_0 t411 a1 t412 t413 w0 _ ?side1 ?side2 A56.out).mono ?_); (case side1 => repeat (first | (with_reducible first | exact HI0.out | apply IsS62.alloc | apply IsS62.drewN | apply IsS62.drew | apply IsS62.set_1 | refine IsS62.far ?_ NB0_384.out _ | refine IsS62.far ?_ NB0_399.out _) | exact HI0.out)); (case side2 => repeat (first | (with_reducible first | exact HB.out | apply below_alloc | apply pw_below_drewN | apply below_drew1 | refine below_set ?_ (IsS62.ge HI0.out) | refine below_set ?_ GE384.out | refine below_set ?_ GE399.out) | exact HB.out)); rintro e w79 ⟨rfl, hi, hb, hk⟩; refine ⟨_, rfl, ?_⟩; have n0_ := Aside0.mk (KeepBut.blk hk (g' := gb384) (o := .cells #[.string (⟨#[]⟩ : ByteArray), .int .i64 0, .int .i64 0, .int .i64 0, .int .i64 0, .int .i64 0, .int .i64 0, .int .i64 0, .int .i64 0, .int .i64 0, .int .i64 0] 38 (0, 0)) (by (with_reducible repeat (first | refine blk_drewN ?_ _ | refine blk_drew ?_ | refine blk_alloc ?_ _)); exact BK384.out) NB384_0.out (by simp)); have n1_ := Aside0.mk (KeepBut.blk hk (g' := gb399) (o := .cells #[.string x400000_13, .int .i64 x400001_13, .int .i64 x400002_13, .int .i64 x400003_13, .int .i64 x400004_13, .int .i64 x400005_13, .int .i64 x400006_13, .int .i64 x400007_13, .int .i64 x400008_13, .int .i64 x400009_13, .int .i64 x400010_13] 38 (0, 0)) (by (with_reducible repeat (first | refine blk_drewN ?_ _ | refine blk_drew ?_ | refine blk_alloc ?_ _)); exact BK399.out) NB399_0.out (by simp)); have n2_ := Aside0.mk (KeepBut.trans (by repeat (first | (with_reducible first | exact HK.out | apply KeepBut.set_ | apply keep_drewN | apply keep_drew | apply keep_alloc | refine keep_far ?_ GW384.out _ | refine keep_far ?_ GW399.out _) | exact HK.out)) hk (.inl rfl)); have n3_ := Aside0.mk (hb); have n4_ := Aside0.mk (hi); clear BK384; clear BK399; clear HK; clear HB; clear HI0; have BK384 := n0_; have BK399 := n1_; have HK := n2_; have HB := n3_; have HI0 := n4_; clear n0_ n1_ n2_ n3_ n4_; (try clear hb); (try clear hb2); (try clear hk); (try clear hi)) | ((with_reducible refine gate_callee (f := 38) rfl ?_); refine goesL_ (some 44) rfl rfl Tryd.func38 (by kernel_rfl) rfl #[.pointer (some ⟨g, 0, none⟩), .int .i64 4] rfl (by (try simp only [List.map_toArray, List.map_cons, List.map_nil]); first | done | rfl | (simp only [List.length_drop, List.length_take]; rfl)) ?_; (with_reducible refine (spec_l20Rd_pick.calls kj13 g s0_0 t413 4 t414 t415 w0 _ ?side1 ?side2 A64.out).mono ?_); (case side1 => repeat (first | (with_reducible first | exact HI0.out | apply IsS62.alloc | apply IsS62.drewN | apply IsS62.drew | apply IsS62.set_1 | refine IsS62.far ?_ NB0_384.out _ | refine IsS62.far ?_ NB0_399.out _) | exact HI0.out)); (case side2 => repeat (first | (with_reducible first | exact HB.out | apply below_alloc | apply pw_below_drewN | apply below_drew1 | refine below_set ?_ (IsS62.ge HI0.out) | refine below_set ?_ GE384.out | refine below_set ?_ GE399.out) | exact HB.out)); rintro e w80 ⟨rfl, hi, hb, hk⟩; refine ⟨_, rfl, ?_⟩; have n0_ := Aside0.mk (KeepBut.blk hk (g' := gb384) (o := .cells #[.string (⟨#[]⟩ : ByteArray), .int .i64 0, .int .i64 0, .int .i64 0, .int .i64 0, .int .i64 0, .int .i64 0, .int .i64 0, .int .i64 0, .int .i64 0, .int .i64 0] 38 (0, 0)) (by (with_reducible repeat (first | refine blk_drewN ?_ _ | refine blk_drew ?_ | refine blk_alloc ?_ _)); exact BK384.out) NB384_0.out (by simp)); have n1_ := Aside0.mk (KeepBut.blk hk (g' := gb399) (o := .cells #[.string x400000_13, .int .i64 x400001_13, .int .i64 x400002_13, .int .i64 x400003_13, .int .i64 x400004_13, .int .i64 x400005_13, .int .i64 x400006_13, .int .i64 x400007_13, .int .i64 x400008_13, .int .i64 x400009_13, .int .i64 x400010_13] 38 (0, 0)) (by (with_reducible repeat (first | refine blk_drewN ?_ _ | refine blk_drew ?_ | refine blk_alloc ?_ _)); exact BK399.out) NB399_0.out (by simp)); have n2_ := Aside0.mk (KeepBut.trans (by repeat (first | (with_reducible first | exact HK.out | apply KeepBut.set_ | apply keep_drewN | apply keep_drew | apply keep_alloc | refine keep_far ?_ GW384.out _ | refine keep_far ?_ GW399.out _) | exact HK.out)) hk (.inl rfl)); have n3_ := Aside0.mk (hb); have n4_ := Aside0.mk (hi); clear BK384; clear BK399; clear HK; clear HB; clear HI0; have BK384 := n0_; have BK399 := n1_; have HK := n2_; have HB := n3_; have HI0 := n4_; clear n0_ n1_ n2_ n3_ n4_; (try clear hb); (try clear hb2); (try clear hk); (try clear hi)) | ((with_reducible refine gate_dst (N := 55) rfl ?_); refine Kd.R_lit (Kd.int .i64) _ 3 ?hg (N := 55) ?hd (xs := ([0, 5, (-1)] : List Int)) (inner := [.int .i64 0, .int .i64 5, .int .i64 (-1)]) (ok := fun _ => True) (okp := fun _ => True) ?hr ?hp (fun _ hk => hk) trivial (Below.refl _ _) (Nat.le_refl _) (by simp) ?_; (case hd => rfl); (case hg => rfl); (case hr => first | (go_simp; done) | (go_simp; rfl)); (case hp => exact (Reps.one (show Kd.M (Kd.int .i64) _ _ _ 0 [.int .i64 0] from rfl) (Reps.one (show Kd.M (Kd.int .i64) _ _ _ 5 [.int .i64 5] from rfl) (Reps.one (show Kd.M (Kd.int .i64) _ _ _ (-1) [.int .i64 (-1)] from rfl) (Reps.none _ _))))); intro v419 w81 ho82 hb hg_ hnew_; clear hg_ hnew_; (first | rw [← Ny418.out] at ho82 | (simp only [Int.reduceToNat] at ho82; rw [← Ny418.out] at ho82)); have n0_ := Aside0.mk (Kd.R_lower ho82 (keep_size (w := w) (g := g) (row := none) (by repeat (first | (with_reducible first | exact HK.out | apply KeepBut.set_ | apply keep_drewN | apply keep_drew | apply keep_alloc | refine keep_far ?_ GW384.out _ | refine keep_far ?_ GW399.out _) | exact HK.out)))); have n1_ := Aside0.mk (blk_below (g := gb384) (o := .cells #[.string (⟨#[]⟩ : ByteArray), .int .i64 0, .int .i64 0, .int .i64 0, .int .i64 0, .int .i64 0, .int .i64 0, .int .i64 0, .int .i64 0, .int .i64 0, .int .i64 0] 38 (0, 0)) (by (with_reducible repeat (first | refine blk_drewN ?_ _ | refine blk_drew ?_ | refine blk_alloc ?_ _)); exact BK384.out) hb); have n2_ := Aside0.mk (blk_below (g := gb399) (o := .cells #[.string x400000_13, .int .i64 x400001_13, .int .i64 x400002_13, .int .i64 x400003_13, .int .i64 x400004_13, .int .i64 x400005_13, .int .i64 x400006_13, .int .i64 x400007_13, .int .i64 x400008_13, .int .i64 x400009_13, .int .i64 x400010_13] 38 (0, 0)) (by (with_reducible repeat (first | refine blk_drewN ?_ _ | refine blk_drew ?_ | refine blk_alloc ?_ _)); exact BK399.out) hb); have n3_ := Aside0.mk (IsS62.below (by repeat (first | (with_reducible first | exact HI0.out | apply IsS62.alloc | apply IsS62.drewN | apply IsS62.drew | apply IsS62.set_1 | refine IsS62.far ?_ NB0_384.out _ | refine IsS62.far ?_ NB0_399.out _) | exact HI0.out)) hb); have n4_ := Aside0.mk (KeepBut.trans (by repeat (first | (with_reducible first | exact HK.out | apply KeepBut.set_ | apply keep_drewN | apply keep_drew | apply keep_alloc | refine keep_far ?_ GW384.out _ | refine keep_far ?_ GW399.out _) | exact HK.out)) (KeepBut.of_below hb g none) (.inl rfl)); have n5_ := Aside0.mk (below_step (by repeat (first | (with_reducible first | exact HB.out | apply below_alloc | apply pw_below_drewN | apply below_drew1 | refine below_set ?_ (IsS62.ge HI0.out) | refine below_set ?_ GE384.out | refine below_set ?_ GE399.out) | exact HB.out)) hb); clear BK384; clear BK399; clear HI0; clear HK; clear HB; have HO420 := n0_; have BK384 := n1_; have BK399 := n2_; have HI0 := n3_; have HK := n4_; have HB := n5_; clear n0_ n1_ n2_ n3_ n4_ n5_; clear hb ho82) | ((with_reducible refine gate_callee (f := 38) rfl ?_); refine goesL_ (some 57) rfl rfl Tryd.func38 (by kernel_rfl) rfl #[.pointer (some ⟨g, 0, none⟩), .int .i64 3] rfl (by (try simp only [List.map_toArray, List.map_cons, List.map_nil]); first | done | rfl | (simp only [List.length_drop, List.length_take]; rfl)) ?_; (with_reducible refine (spec_l20Rd_pick.calls kj13 g s0_0 t415 3 t421 t422 w0 _ ?side1 ?side2 A76.out).mono ?_); (case side1 => repeat (first | (with_reducible first | exact HI0.out | apply IsS62.alloc | apply IsS62.drewN | apply IsS62.drew | apply IsS62.set_1 | refine IsS62.far ?_ NB0_384.out _ | refine IsS62.far ?_ NB0_399.out _) | exact HI0.out)); (case side2 => repeat (first | (with_reducible first | exact HB.out | apply below_alloc | apply pw_below_drewN | apply below_drew1 | refine below_set ?_ (IsS62.ge HI0.out) | refine below_set ?_ GE384.out | refine below_set ?_ GE399.out) | exact HB.out)); rintro e w83 ⟨rfl, hi, hb, hk⟩; refine ⟨_, rfl, ?_⟩; have n0_ := Aside0.mk (KeepBut.blk hk (g' := gb384) (o := .cells #[.string (⟨#[]⟩ : ByteArray), .int .i64 0, .int .i64 0, .int .i64 0, .int .i64 0, .int .i64 0, .int .i64 0, .int .i64 0, .int .i64 0, .int .i64 0, .int .i64 0] 38 (0, 0)) (by (with_reducible repeat (first | refine blk_drewN ?_ _ | refine blk_drew ?_ | refine blk_alloc ?_ _)); exact BK384.out) NB384_0.out (by simp)); have n1_ := Aside0.mk (KeepBut.blk hk (g' := gb399) (o := .cells #[.string x400000_13, .int .i64 x400001_13, .int .i64 x400002_13, .int .i64 x400003_13, .int .i64 x400004_13, .int .i64 x400005_13, .int .i64 x400006_13, .int .i64 x400007_13, .int .i64 x400008_13, .int .i64 x400009_13, .int .i64 x400010_13] 38 (0, 0)) (by (with_reducible repeat (first | refine blk_drewN ?_ _ | refine blk_drew ?_ | refine blk_alloc ?_ _)); exact BK399.out) NB399_0.out (by simp)); have n2_ := Aside0.mk (Kd.R_mono (Kd.R_keep (IsS62.apart (show IsS62 w0 _ g s0_0 t415 from by repeat (first | (with_reducible first | exact HI0.out | apply IsS62.alloc | apply IsS62.drewN | apply IsS62.drew | apply IsS62.set_1 | refine IsS62.far ?_ NB0_384.out _ | refine IsS62.far ?_ NB0_399.out _) | exact HI0.out)) (by (with_reducible repeat (first | apply Kd.R_alloc | apply Kd.R_drewN | apply Kd.R_drew)); exact HO420.out) (by decide)) hk (fun _ h => h.2)) (fun _ h => h.1)); have n3_ := Aside0.mk (KeepBut.trans (by repeat (first | (with_reducible first | exact HK.out | apply KeepBut.set_ | apply keep_drewN | apply keep_drew | apply keep_alloc | refine keep_far ?_ GW384.out _ | refine keep_far ?_ GW399.out _) | exact HK.out)) hk (.inl rfl)); have n4_ := Aside0.mk (hb); have n5_ := Aside0.mk (hi); clear BK384; clear BK399; clear HO420; clear HK; clear HB; clear HI0; have BK384 := n0_; have BK399 := n1_; have HO420 := n2_; have HK := n3_; have HB := n4_; have HI0 := n5_; clear n0_ n1_ n2_ n3_ n4_ n5_; (try clear hb); (try clear hb2); (try clear hk); (try clear hi); obtain ⟨Ao84, co84, eo84⟩ := Kd.R_slice HO420.out; subst eo84; have p423 : 0 ≤ (t421 : Int) := of_decide_eq_true (by first | (with_reducible assumption) | assumption); have q423 : t421 < (y418.length : Int) := of_decide_eq_true (by first | (with_reducible assumption) | assumption); obtain ⟨ad423, e423, hx423_0⟩ := Kd.at_int (Kd.R_reads' HO420.out).2.2 t421 p423 q423; cases e423; replace p423 := eq_true p423; replace q423 := eq_true q423; have hnb85 := NB399_384.out; have hnc85 := NB384_399.out; have hnb86 := NB399_0.out; have hnc86 := NB0_399.out; have hcz87_0 : w83.cell? ⟨gb399, 0, none⟩ = some (.string x400000_13) := (blk_cell BK399.out 0).trans rfl; have hcz87_1 : w83.cell? ⟨gb399, 1, none⟩ = some (.int .i64 x400001_13) := (blk_cell BK399.out 1).trans rfl; have hcz87_2 : w83.cell? ⟨gb399, 2, none⟩ = some (.int .i64 x400002_13) := (blk_cell BK399.out 2).trans rfl; have hcz87_3 : w83.cell? ⟨gb399, 3, none⟩ = some (.int .i64 x400003_13) := (blk_cell BK399.out 3).trans rfl; have hcz87_4 : w83.cell? ⟨gb399, 4, none⟩ = some (.int .i64 x400004_13) := (blk_cell BK399.out 4).trans rfl; have hcz87_5 : w83.cell? ⟨gb399, 5, none⟩ = some (.int .i64 x400005_13) := (blk_cell BK399.out 5).trans rfl; have hcz87_6 : w83.cell? ⟨gb399, 6, none⟩ = some (.int .i64 x400006_13) := (blk_cell BK399.out 6).trans rfl; have hcz87_7 : w83.cell? ⟨gb399, 7, none⟩ = some (.int .i64 x400007_13) := (blk_cell BK399.out 7).trans rfl; have hcz87_8 : w83.cell? ⟨gb399, 8, none⟩ = some (.int .i64 x400008_13) := (blk_cell BK399.out 8).trans rfl; have hcz87_9 : w83.cell? ⟨gb399, 9, none⟩ = some (.int .i64 x400009_13) := (blk_cell BK399.out 9).trans rfl; have hcz87_10 : w83.cell? ⟨gb399, 10, none⟩ = some (.int .i64 x400010_13) := (blk_cell BK399.out 10).trans rfl; have hfz87_0 := blk_frozen BK399.out 0; have hfz87_1 := blk_frozen BK399.out 1; have hfz87_2 := blk_frozen BK399.out 2; have hfz87_3 := blk_frozen BK399.out 3; have hfz87_4 := blk_frozen BK399.out 4; have hfz87_5 := blk_frozen BK399.out 5; have hfz87_6 := blk_frozen BK399.out 6; have hfz87_7 := blk_frozen BK399.out 7; have hfz87_8 := blk_frozen BK399.out 8; have hfz87_9 := blk_frozen BK399.out 9; have hfz87_10 := blk_frozen BK399.out 10; have hnb88 := NB384_0.out; have hnc88 := NB0_384.out; have hcz89_0 : w83.cell? ⟨gb384, 0, none⟩ = some (.string (⟨#[]⟩ : ByteArray)) := (blk_cell BK384.out 0).trans rfl; have hcz89_1 : w83.cell? ⟨gb384, 1, none⟩ = some (.int .i64 0) := (blk_cell BK384.out 1).trans rfl; have hcz89_2 : w83.cell? ⟨gb384, 2, none⟩ = some (.int .i64 0) := (blk_cell BK384.out 2).trans rfl; have hcz89_3 : w83.cell? ⟨gb384, 3, none⟩ = some (.int .i64 0) := (blk_cell BK384.out 3).trans rfl; have hcz89_4 : w83.cell? ⟨gb384, 4, none⟩ = some (.int .i64 0) := (blk_cell BK384.out 4).trans rfl; have hcz89_5 : w83.cell? ⟨gb384, 5, none⟩ = some (.int .i64 0) := (blk_cell BK384.out 5).trans rfl; have hcz89_6 : w83.cell? ⟨gb384, 6, none⟩ = some (.int .i64 0) := (blk_cell BK384.out 6).trans rfl; have hcz89_7 : w83.cell? ⟨gb384, 7, none⟩ = some (.int .i64 0) := (blk_cell BK384.out 7).trans rfl; have hcz89_8 : w83.cell? ⟨gb384, 8, none⟩ = some (.int .i64 0) := (blk_cell BK384.out 8).trans rfl; have hcz89_9 : w83.cell? ⟨gb384, 9, none⟩ = some (.int .i64 0) := (blk_cell BK384.out 9).trans rfl; have hcz89_10 : w83.cell? ⟨gb384, 10, none⟩ = some (.int .i64 0) := (blk_cell BK384.out 10).trans rfl; have hfz89_0 := blk_frozen BK384.out 0; have hfz89_1 := blk_frozen BK384.out 1; have hfz89_2 := blk_frozen BK384.out 2; have hfz89_3 := blk_frozen BK384.out 3; have hfz89_4 := blk_frozen BK384.out 4; have hfz89_5 := blk_frozen BK384.out 5; have hfz89_6 := blk_frozen BK384.out 6; have hfz89_7 := blk_frozen BK384.out 7; have hfz89_8 := blk_frozen BK384.out 8; have hfz89_9 := blk_frozen BK384.out 9; have hfz89_10 := blk_frozen BK384.out 10))
                        refine bodyPost_ret (results_cell_row rfl _ _ gb384 38 #[.string x400000_13, .int .i64 (rd y418 t421), .int .i64 x400002_13, .int .i64 x400003_13, .int .i64 x400004_13, .int .i64 x400005_13, .int .i64 x400006_13, .int .i64 x400007_13, .int .i64 x400008_13, .int .i64 x400009_13, .int .i64 x400010_13] (0, 0) _ rfl (by (with_reducible repeat (first | refine blk_drewN ?_ _ | refine blk_drew ?_ | refine blk_alloc ?_ _)); refine blk_put (cs := #[.string x400000_13, .int .i64 (rd y418 t421), .int .i64 x400002_13, .int .i64 x400003_13, .int .i64 x400004_13, .int .i64 x400005_13, .int .i64 x400006_13, .int .i64 x400007_13, .int .i64 x400008_13, .int .i64 x400009_13, .int .i64 0]) ?_ 10 _ rfl; (with_reducible repeat (first | refine blk_drewN ?_ _ | refine blk_drew ?_ | refine blk_alloc ?_ _)); refine blk_put (cs := #[.string x400000_13, .int .i64 (rd y418 t421), .int .i64 x400002_13, .int .i64 x400003_13, .int .i64 x400004_13, .int .i64 x400005_13, .int .i64 x400006_13, .int .i64 x400007_13, .int .i64 x400008_13, .int .i64 0, .int .i64 0]) ?_ 9 _ rfl; (with_reducible repeat (first | refine blk_drewN ?_ _ | refine blk_drew ?_ | refine blk_alloc ?_ _)); refine blk_put (cs := #[.string x400000_13, .int .i64 (rd y418 t421), .int .i64 x400002_13, .int .i64 x400003_13, .int .i64 x400004_13, .int .i64 x400005_13, .int .i64 x400006_13, .int .i64 x400007_13, .int .i64 0, .int .i64 0, .int .i64 0]) ?_ 8 _ rfl; (with_reducible repeat (first | refine blk_drewN ?_ _ | refine blk_drew ?_ | refine blk_alloc ?_ _)); refine blk_put (cs := #[.string x400000_13, .int .i64 (rd y418 t421), .int .i64 x400002_13, .int .i64 x400003_13, .int .i64 x400004_13, .int .i64 x400005_13, .int .i64 x400006_13, .int .i64 0, .int .i64 0, .int .i64 0, .int .i64 0]) ?_ 7 _ rfl; (with_reducible repeat (first | refine blk_drewN ?_ _ | refine blk_drew ?_ | refine blk_alloc ?_ _)); refine blk_put (cs := #[.string x400000_13, .int .i64 (rd y418 t421), .int .i64 x400002_13, .int .i64 x400003_13, .int .i64 x400004_13, .int .i64 x400005_13, .int .i64 0, .int .i64 0, .int .i64 0, .int .i64 0, .int .i64 0]) ?_ 6 _ rfl; (with_reducible repeat (first | refine blk_drewN ?_ _ | refine blk_drew ?_ | refine blk_alloc ?_ _)); refine blk_put (cs := #[.string x400000_13, .int .i64 (rd y418 t421), .int .i64 x400002_13, .int .i64 x400003_13, .int .i64 x400004_13, .int .i64 0, .int .i64 0, .int .i64 0, .int .i64 0, .int .i64 0, .int .i64 0]) ?_ 5 _ rfl; (with_reducible repeat (first | refine blk_drewN ?_ _ | refine blk_drew ?_ | refine blk_alloc ?_ _)); refine blk_put (cs := #[.string x400000_13, .int .i64 (rd y418 t421), .int .i64 x400002_13, .int .i64 x400003_13, .int .i64 0, .int .i64 0, .int .i64 0, .int .i64 0, .int .i64 0, .int .i64 0, .int .i64 0]) ?_ 4 _ rfl; (with_reducible repeat (first | refine blk_drewN ?_ _ | refine blk_drew ?_ | refine blk_alloc ?_ _)); refine blk_put (cs := #[.string x400000_13, .int .i64 (rd y418 t421), .int .i64 x400002_13, .int .i64 0, .int .i64 0, .int .i64 0, .int .i64 0, .int .i64 0, .int .i64 0, .int .i64 0, .int .i64 0]) ?_ 3 _ rfl; (with_reducible repeat (first | refine blk_drewN ?_ _ | refine blk_drew ?_ | refine blk_alloc ?_ _)); refine blk_put (cs := #[.string x400000_13, .int .i64 (rd y418 t421), .int .i64 0, .int .i64 0, .int .i64 0, .int .i64 0, .int .i64 0, .int .i64 0, .int .i64 0, .int .i64 0, .int .i64 0]) ?_ 2 _ rfl; (with_reducible repeat (first | refine blk_drewN ?_ _ | refine blk_drew ?_ | refine blk_alloc ?_ _)); refine blk_put (cs := #[.string x400000_13, .int .i64 0, .int .i64 0, .int .i64 0, .int .i64 0, .int .i64 0, .int .i64 0, .int .i64 0, .int .i64 0, .int .i64 0, .int .i64 0]) ?_ 1 _ rfl; (with_reducible repeat (first | refine blk_drewN ?_ _ | refine blk_drew ?_ | refine blk_alloc ?_ _)); refine blk_put (cs := #[.string (⟨#[]⟩ : ByteArray), .int .i64 0, .int .i64 0, .int .i64 0, .int .i64 0, .int .i64 0, .int .i64 0, .int .i64 0, .int .i64 0, .int .i64 0, .int .i64 0]) ?_ 0 _ rfl; (with_reducible repeat (first | refine blk_drewN ?_ _ | refine blk_drew ?_ | refine blk_alloc ?_ _)); refine blk_far ?_ NB384_399.out _; (with_reducible repeat (first | refine blk_drewN ?_ _ | refine blk_drew ?_ | refine blk_alloc ?_ _)); exact BK384.out) Tryd.underlying38 rfl (by kernel_rfl)) rfl ?_
                        exact ⟨by first | rfl | (simp [errW_none, errW_some] <;> rfl) | (simp [*, errW_none, errW_some] <;> rfl), by repeat (first | (with_reducible first | exact HI0.out | apply IsS62.alloc | apply IsS62.drewN | apply IsS62.drew | apply IsS62.set_1 | refine IsS62.far ?_ NB0_384.out _ | refine IsS62.far ?_ NB0_399.out _) | exact HI0.out), by repeat (first | (with_reducible first | exact HB.out | apply below_alloc | apply pw_below_drewN | apply below_drew1 | refine below_set ?_ (IsS62.ge HI0.out) | refine below_set ?_ GE384.out | refine below_set ?_ GE399.out) | exact HB.out), by repeat (first | (with_reducible first | exact HK.out | apply KeepBut.set_ | apply keep_drewN | apply keep_drew | apply keep_alloc | refine keep_far ?_ GW384.out _ | refine keep_far ?_ GW399.out _) | exact HK.out)⟩
                      · rw [if_neg c78] at H
                        exact absurd H (by simp)
                    · rw [if_neg c77] at H
                      exact absurd H (by simp)
                  · rw [if_neg c75] at H
                    have c75b0 : (t414 == 1) = false := beq_eq_false_iff_ne.mpr c75
                    have c75b1 : (t414 != 1) = true := bne_iff_ne.mpr c75
                    by_cases c90 : t414 = 2
                    · rw [if_pos c90] at H
                      have c90b0 : (t414 == 2) = true := beq_iff_eq.mpr c90
                      have c90b1 : (t414 != 2) = false := bne_eq_false_iff_eq.mpr c90
                      clear c90
                      obtain ⟨y424, hy424⟩ : ∃ y_ : List Int, y_ = (([0, 5, (-1)] : List Int)) := ⟨_, rfl⟩
                      replace H : ((spec_l20Rd_pick.f kj13 s0_0 t415 3).bind fun bt427 => (if 0 ≤ bt427.1 then (if bt427.1 < (y424.length : Int) then (some (x400000_13, x400001_13, rd y424 bt427.1, x400003_13, x400004_13, x400005_13, x400006_13, x400007_13, x400008_13, x400009_13, x400010_13, bt427.2)) else (none)) else (none))) = some (r1, r2, r3, r4, r5, r6, r7, r8, r9, r10, r11, r12) := by first | (rw [hy424]; with_reducible exact H) | (have H2_ := (Option.bind_some _ _).symm.trans H; rw [hy424]; with_reducible exact H2_) | (have H2_ := (Option.bind_some _ _).symm.trans H; with_reducible exact H2_) | with_reducible exact H | (rw [hy424]; exact H) | exact H
                      have Ny424 := Aside0.mk hy424
                      clear hy424
                      replace H := Option.bind_eq_some_iff.mp H
                      obtain ⟨⟨t427, t428⟩, A910, H⟩ := H
                      replace H : (if 0 ≤ t427 then (if t427 < (y424.length : Int) then (some (x400000_13, x400001_13, rd y424 t427, x400003_13, x400004_13, x400005_13, x400006_13, x400007_13, x400008_13, x400009_13, x400010_13, t428)) else (none)) else (none)) = some (r1, r2, r3, r4, r5, r6, r7, r8, r9, r10, r11, r12) := H
                      have A91 := Aside0.mk A910
                      clear A910
                      by_cases c92 : 0 ≤ t427
                      · rw [if_pos c92] at H
                        have c92b0 : decide (0 ≤ t427) = true := decide_eq_true c92
                        clear c92
                        by_cases c93 : t427 < (y424.length : Int)
                        · rw [if_pos c93] at H
                          have c93b0 : decide (t427 < (y424.length : Int)) = true := decide_eq_true c93
                          clear c93
                          simp only [Option.some.injEq, Prod.mk.injEq] at H
                          obtain ⟨rfl, rfl, rfl, rfl, rfl, rfl, rfl, rfl, rfl, rfl, rfl, rfl⟩ := H
                          go_wp2_with (first | ((with_reducible refine gate_callee (f := 38) rfl ?_); refine goesL_ (some 40) rfl rfl Tryd.func38 (by kernel_rfl) rfl #[.pointer (some ⟨g, 0, none⟩), .int .i64 a1] rfl (by (try simp only [List.map_toArray, List.map_cons, List.map_nil]); first | done | rfl | (simp only [List.length_drop, List.length_take]; rfl)) ?_; (with_reducible refine (spec_l20Rd_pick.calls kj13 g s0_0 t411 a1 t412 t413 w0 _ ?side1 ?side2 A56.out).mono ?_); (case side1 => repeat (first | (with_reducible first | exact HI0.out | apply IsS62.alloc | apply IsS62.drewN | apply IsS62.drew | apply IsS62.set_1 | refine IsS62.far ?_ NB0_384.out _ | refine IsS62.far ?_ NB0_399.out _) | exact HI0.out)); (case side2 => repeat (first | (with_reducible first | exact HB.out | apply below_alloc | apply pw_below_drewN | apply below_drew1 | refine below_set ?_ (IsS62.ge HI0.out) | refine below_set ?_ GE384.out | refine below_set ?_ GE399.out) | exact HB.out)); rintro e w94 ⟨rfl, hi, hb, hk⟩; refine ⟨_, rfl, ?_⟩; have n0_ := Aside0.mk (KeepBut.blk hk (g' := gb384) (o := .cells #[.string (⟨#[]⟩ : ByteArray), .int .i64 0, .int .i64 0, .int .i64 0, .int .i64 0, .int .i64 0, .int .i64 0, .int .i64 0, .int .i64 0, .int .i64 0, .int .i64 0] 38 (0, 0)) (by (with_reducible repeat (first | refine blk_drewN ?_ _ | refine blk_drew ?_ | refine blk_alloc ?_ _)); exact BK384.out) NB384_0.out (by simp)); have n1_ := Aside0.mk (KeepBut.blk hk (g' := gb399) (o := .cells #[.string x400000_13, .int .i64 x400001_13, .int .i64 x400002_13, .int .i64 x400003_13, .int .i64 x400004_13, .int .i64 x400005_13, .int .i64 x400006_13, .int .i64 x400007_13, .int .i64 x400008_13, .int .i64 x400009_13, .int .i64 x400010_13] 38 (0, 0)) (by (with_reducible repeat (first | refine blk_drewN ?_ _ | refine blk_drew ?_ | refine blk_alloc ?_ _)); exact BK399.out) NB399_0.out (by simp)); have n2_ := Aside0.mk (KeepBut.trans (by repeat (first | (with_reducible first | exact HK.out | apply KeepBut.set_ | apply keep_drewN | apply keep_drew | apply keep_alloc | refine keep_far ?_ GW384.out _ | refine keep_far ?_ GW399.out _) | exact HK.out)) hk (.inl rfl)); have n3_ := Aside0.mk (hb); have n4_ := Aside0.mk (hi); clear BK384; clear BK399; clear HK; clear HB; clear HI0; have BK384 := n0_; have BK399 := n1_; have HK := n2_; have HB := n3_; have HI0 := n4_; clear n0_ n1_ n2_ n3_ n4_; (try clear hb); (try clear hb2); (try clear hk); (try clear hi)) | ((with_reducible refine gate_callee (f := 38) rfl ?_); refine goesL_ (some 44) rfl rfl Tryd.func38 (by kernel_rfl) rfl #[.pointer (some ⟨g, 0, none⟩), .int .i64 4] rfl (by (try simp only [List.map_toArray, List.map_cons, List.map_nil]); first | done | rfl | (simp only [List.length_drop, List.length_take]; rfl)) ?_; (with_reducible refine (spec_l20Rd_pick.calls kj13 g s0_0 t413 4 t414 t415 w0 _ ?side1 ?side2 A64.out).mono ?_); (case side1 => repeat (first | (with_reducible first | exact HI0.out | apply IsS62.alloc | apply IsS62.drewN | apply IsS62.drew | apply IsS62.set_1 | refine IsS62.far ?_ NB0_384.out _ | refine IsS62.far ?_ NB0_399.out _) | exact HI0.out)); (case side2 => repeat (first | (with_reducible first | exact HB.out | apply below_alloc | apply pw_below_drewN | apply below_drew1 | refine below_set ?_ (IsS62.ge HI0.out) | refine below_set ?_ GE384.out | refine below_set ?_ GE399.out) | exact HB.out)); rintro e w95 ⟨rfl, hi, hb, hk⟩; refine ⟨_, rfl, ?_⟩; have n0_ := Aside0.mk (KeepBut.blk hk (g' := gb384) (o := .cells #[.string (⟨#[]⟩ : ByteArray), .int .i64 0, .int .i64 0, .int .i64 0, .int .i64 0, .int .i64 0, .int .i64 0, .int .i64 0, .int .i64 0, .int .i64 0, .int .i64 0] 38 (0, 0)) (by (with_reducible repeat (first | refine blk_drewN ?_ _ | refine blk_drew ?_ | refine blk_alloc ?_ _)); exact BK384.out) NB384_0.out (by simp)); have n1_ := Aside0.mk (KeepBut.blk hk (g' := gb399) (o := .cells #[.string x400000_13, .int .i64 x400001_13, .int .i64 x400002_13, .int .i64 x400003_13, .int .i64 x400004_13, .int .i64 x400005_13, .int .i64 x400006_13, .int .i64 x400007_13, .int .i64 x400008_13, .int .i64 x400009_13, .int .i64 x400010_13] 38 (0, 0)) (by (with_reducible repeat (first | refine blk_drewN ?_ _ | refine blk_drew ?_ | refine blk_alloc ?_ _)); exact BK399.out) NB399_0.out (by simp)); have n2_ := Aside0.mk (KeepBut.trans (by repeat (first | (with_reducible first | exact HK.out | apply KeepBut.set_ | apply keep_drewN | apply keep_drew | apply keep_alloc | refine keep_far ?_ GW384.out _ | refine keep_far ?_ GW399.out _) | exact HK.out)) hk (.inl rfl)); have n3_ := Aside0.mk (hb); have n4_ := Aside0.mk (hi); clear BK384; clear BK399; clear HK; clear HB; clear HI0; have BK384 := n0_; have BK399 := n1_; have HK := n2_; have HB := n3_; have HI0 := n4_; clear n0_ n1_ n2_ n3_ n4_; (try clear hb); (try clear hb2); (try clear hk); (try clear hi)) | ((with_reducible refine gate_dst (N := 63) rfl ?_); refine Kd.R_lit (Kd.int .i64) _ 3 ?hg (N := 63) ?hd (xs := ([0, 5, (-1)] : List Int)) (inner := [.int .i64 0, .int .i64 5, .int .i64 (-1)]) (ok := fun _ => True) (okp := fun _ => True) ?hr ?hp (fun _ hk => hk) trivial (Below.refl _ _) (Nat.le_refl _) (by simp) ?_; (case hd => rfl); (case hg => rfl); (case hr => first | (go_simp; done) | (go_simp; rfl)); (case hp => exact (Reps.one (show Kd.M (Kd.int .i64) _ _ _ 0 [.int .i64 0] from rfl) (Reps.one (show Kd.M (Kd.int .i64) _ _ _ 5 [.int .i64 5] from rfl) (Reps.one (show Kd.M (Kd.int .i64) _ _ _ (-1) [.int .i64 (-1)] from rfl) (Reps.none _ _))))); intro v425 w96 ho97 hb hg_ hnew_; clear hg_ hnew_; (first | rw [← Ny424.out] at ho97 | (simp only [Int.reduceToNat] at ho97; rw [← Ny424.out] at ho97)); have n0_ := Aside0.mk (Kd.R_lower ho97 (keep_size (w := w) (g := g) (row := none) (by repeat (first | (with_reducible first | exact HK.out | apply KeepBut.set_ | apply keep_drewN | apply keep_drew | apply keep_alloc | refine keep_far ?_ GW384.out _ | refine keep_far ?_ GW399.out _) | exact HK.out)))); have n1_ := Aside0.mk (blk_below (g := gb384) (o := .cells #[.string (⟨#[]⟩ : ByteArray), .int .i64 0, .int .i64 0, .int .i64 0, .int .i64 0, .int .i64 0, .int .i64 0, .int .i64 0, .int .i64 0, .int .i64 0, .int .i64 0] 38 (0, 0)) (by (with_reducible repeat (first | refine blk_drewN ?_ _ | refine blk_drew ?_ | refine blk_alloc ?_ _)); exact BK384.out) hb); have n2_ := Aside0.mk (blk_below (g := gb399) (o := .cells #[.string x400000_13, .int .i64 x400001_13, .int .i64 x400002_13, .int .i64 x400003_13, .int .i64 x400004_13, .int .i64 x400005_13, .int .i64 x400006_13, .int .i64 x400007_13, .int .i64 x400008_13, .int .i64 x400009_13, .int .i64 x400010_13] 38 (0, 0)) (by (with_reducible repeat (first | refine blk_drewN ?_ _ | refine blk_drew ?_ | refine blk_alloc ?_ _)); exact BK399.out) hb); have n3_ := Aside0.mk (IsS62.below (by repeat (first | (with_reducible first | exact HI0.out | apply IsS62.alloc | apply IsS62.drewN | apply IsS62.drew | apply IsS62.set_1 | refine IsS62.far ?_ NB0_384.out _ | refine IsS62.far ?_ NB0_399.out _) | exact HI0.out)) hb); have n4_ := Aside0.mk (KeepBut.trans (by repeat (first | (with_reducible first | exact HK.out | apply KeepBut.set_ | apply keep_drewN | apply keep_drew | apply keep_alloc | refine keep_far ?_ GW384.out _ | refine keep_far ?_ GW399.out _) | exact HK.out)) (KeepBut.of_below hb g none) (.inl rfl)); have n5_ := Aside0.mk (below_step (by repeat (first | (with_reducible first | exact HB.out | apply below_alloc | apply pw_below_drewN | apply below_drew1 | refine below_set ?_ (IsS62.ge HI0.out) | refine below_set ?_ GE384.out | refine below_set ?_ GE399.out) | exact HB.out)) hb); clear BK384; clear BK399; clear HI0; clear HK; clear HB; have HO426 := n0_; have BK384 := n1_; have BK399 := n2_; have HI0 := n3_; have HK := n4_; have HB := n5_; clear n0_ n1_ n2_ n3_ n4_ n5_; clear hb ho97) | ((with_reducible refine gate_callee (f := 38) rfl ?_); refine goesL_ (some 65) rfl rfl Tryd.func38 (by kernel_rfl) rfl #[.pointer (some ⟨g, 0, none⟩), .int .i64 3] rfl (by (try simp only [List.map_toArray, List.map_cons, List.map_nil]); first | done | rfl | (simp only [List.length_drop, List.length_take]; rfl)) ?_; (with_reducible refine (spec_l20Rd_pick.calls kj13 g s0_0 t415 3 t427 t428 w0 _ ?side1 ?side2 A91.out).mono ?_); (case side1 => repeat (first | (with_reducible first | exact HI0.out | apply IsS62.alloc | apply IsS62.drewN | apply IsS62.drew | apply IsS62.set_1 | refine IsS62.far ?_ NB0_384.out _ | refine IsS62.far ?_ NB0_399.out _) | exact HI0.out)); (case side2 => repeat (first | (with_reducible first | exact HB.out | apply below_alloc | apply pw_below_drewN | apply below_drew1 | refine below_set ?_ (IsS62.ge HI0.out) | refine below_set ?_ GE384.out | refine below_set ?_ GE399.out) | exact HB.out)); rintro e w98 ⟨rfl, hi, hb, hk⟩; refine ⟨_, rfl, ?_⟩; have n0_ := Aside0.mk (KeepBut.blk hk (g' := gb384) (o := .cells #[.string (⟨#[]⟩ : ByteArray), .int .i64 0, .int .i64 0, .int .i64 0, .int .i64 0, .int .i64 0, .int .i64 0, .int .i64 0, .int .i64 0, .int .i64 0, .int .i64 0] 38 (0, 0)) (by (with_reducible repeat (first | refine blk_drewN ?_ _ | refine blk_drew ?_ | refine blk_alloc ?_ _)); exact BK384.out) NB384_0.out (by simp)); have n1_ := Aside0.mk (KeepBut.blk hk (g' := gb399) (o := .cells #[.string x400000_13, .int .i64 x400001_13, .int .i64 x400002_13, .int .i64 x400003_13, .int .i64 x400004_13, .int .i64 x400005_13, .int .i64 x400006_13, .int .i64 x400007_13, .int .i64 x400008_13, .int .i64 x400009_13, .int .i64 x400010_13] 38 (0, 0)) (by (with_reducible repeat (first | refine blk_drewN ?_ _ | refine blk_drew ?_ | refine blk_alloc ?_ _)); exact BK399.out) NB399_0.out (by simp)); have n2_ := Aside0.mk (Kd.R_mono (Kd.R_keep (IsS62.apart (show IsS62 w0 _ g s0_0 t415 from by repeat (first | (with_reducible first | exact HI0.out | apply IsS62.alloc | apply IsS62.drewN | apply IsS62.drew | apply IsS62.set_1 | refine IsS62.far ?_ NB0_384.out _ | refine IsS62.far ?_ NB0_399.out _) | exact HI0.out)) (by (with_reducible repeat (first | apply Kd.R_alloc | apply Kd.R_drewN | apply Kd.R_drew)); exact HO426.out) (by decide)) hk (fun _ h => h.2)) (fun _ h => h.1)); have n3_ := Aside0.mk (KeepBut.trans (by repeat (first | (with_reducible first | exact HK.out | apply KeepBut.set_ | apply keep_drewN | apply keep_drew | apply keep_alloc | refine keep_far ?_ GW384.out _ | refine keep_far ?_ GW399.out _) | exact HK.out)) hk (.inl rfl)); have n4_ := Aside0.mk (hb); have n5_ := Aside0.mk (hi); clear BK384; clear BK399; clear HO426; clear HK; clear HB; clear HI0; have BK384 := n0_; have BK399 := n1_; have HO426 := n2_; have HK := n3_; have HB := n4_; have HI0 := n5_; clear n0_ n1_ n2_ n3_ n4_ n5_; (try clear hb); (try clear hb2); (try clear hk); (try clear hi); obtain ⟨Ao99, co99, eo99⟩ := Kd.R_slice HO426.out; subst eo99; have p429 : 0 ≤ (t427 : Int) := of_decide_eq_true (by first | (with_reducible assumption) | assumption); have q429 : t427 < (y424.length : Int) := of_decide_eq_true (by first | (with_reducible assumption) | assumption); obtain ⟨ad429, e429, hx429_0⟩ := Kd.at_int (Kd.R_reads' HO426.out).2.2 t427 p429 q429; cases e429; replace p429 := eq_true p429; replace q429 := eq_true q429; have hnb100 := NB399_384.out; have hnc100 := NB384_399.out; have hnb101 := NB399_0.out; have hnc101 := NB0_399.out; have hcz102_0 : w98.cell? ⟨gb399, 0, none⟩ = some (.string x400000_13) := (blk_cell BK399.out 0).trans rfl; have hcz102_1 : w98.cell? ⟨gb399, 1, none⟩ = some (.int .i64 x400001_13) := (blk_cell BK399.out 1).trans rfl; have hcz102_2 : w98.cell? ⟨gb399, 2, none⟩ = some (.int .i64 x400002_13) := (blk_cell BK399.out 2).trans rfl; have hcz102_3 : w98.cell? ⟨gb399, 3, none⟩ = some (.int .i64 x400003_13) := (blk_cell BK399.out 3).trans rfl; have hcz102_4 : w98.cell? ⟨gb399, 4, none⟩ = some (.int .i64 x400004_13) := (blk_cell BK399.out 4).trans rfl; have hcz102_5 : w98.cell? ⟨gb399, 5, none⟩ = some (.int .i64 x400005_13) := (blk_cell BK399.out 5).trans rfl; have hcz102_6 : w98.cell? ⟨gb399, 6, none⟩ = some (.int .i64 x400006_13) := (blk_cell BK399.out 6).trans rfl; have hcz102_7 : w98.cell? ⟨gb399, 7, none⟩ = some (.int .i64 x400007_13) := (blk_cell BK399.out 7).trans rfl; have hcz102_8 : w98.cell? ⟨gb399, 8, none⟩ = some (.int .i64 x400008_13) := (blk_cell BK399.out 8).trans rfl; have hcz102_9 : w98.cell? ⟨gb399, 9, none⟩ = some (.int .i64 x400009_13) := (blk_cell BK399.out 9).trans rfl; have hcz102_10 : w98.cell? ⟨gb399, 10, none⟩ = some (.int .i64 x400010_13) := (blk_cell BK399.out 10).trans rfl; have hfz102_0 := blk_frozen BK399.out 0; have hfz102_1 := blk_frozen BK399.out 1; have hfz102_2 := blk_frozen BK399.out 2; have hfz102_3 := blk_frozen BK399.out 3; have hfz102_4 := blk_frozen BK399.out 4; have hfz102_5 := blk_frozen BK399.out 5; have hfz102_6 := blk_frozen BK399.out 6; have hfz102_7 := blk_frozen BK399.out 7; have hfz102_8 := blk_frozen BK399.out 8; have hfz102_9 := blk_frozen BK399.out 9; have hfz102_10 := blk_frozen BK399.out 10; have hnb103 := NB384_0.out; have hnc103 := NB0_384.out; have hcz104_0 : w98.cell? ⟨gb384, 0, none⟩ = some (.string (⟨#[]⟩ : ByteArray)) := (blk_cell BK384.out 0).trans rfl; have hcz104_1 : w98.cell? ⟨gb384, 1, none⟩ = some (.int .i64 0) := (blk_cell BK384.out 1).trans rfl; have hcz104_2 : w98.cell? ⟨gb384, 2, none⟩ = some (.int .i64 0) := (blk_cell BK384.out 2).trans rfl; have hcz104_3 : w98.cell? ⟨gb384, 3, none⟩ = some (.int .i64 0) := (blk_cell BK384.out 3).trans rfl; have hcz104_4 : w98.cell? ⟨gb384, 4, none⟩ = some (.int .i64 0) := (blk_cell BK384.out 4).trans rfl; have hcz104_5 : w98.cell? ⟨gb384, 5, none⟩ = some (.int .i64 0) := (blk_cell BK384.out 5).trans rfl; have hcz104_6 : w98.cell? ⟨gb384, 6, none⟩ = some (.int .i64 0) := (blk_cell BK384.out 6).trans rfl; have hcz104_7 : w98.cell? ⟨gb384, 7, none⟩ = some (.int .i64 0) := (blk_cell BK384.out 7).trans rfl; have hcz104_8 : w98.cell? ⟨gb384, 8, none⟩ = some (.int .i64 0) := (blk_cell BK384.out 8).trans rfl; have hcz104_9 : w98.cell? ⟨gb384, 9, none⟩ = some (.int .i64 0) := (blk_cell BK384.out 9).trans rfl; have hcz104_10 : w98.cell? ⟨gb384, 10, none⟩ = some (.int .i64 0) := (blk_cell BK384.out 10).trans rfl; have hfz104_0 := blk_frozen BK384.out 0; have hfz104_1 := blk_frozen BK384.out 1; have hfz104_2 := blk_frozen BK384.out 2; have hfz104_3 := blk_frozen BK384.out 3; have hfz104_4 := blk_frozen BK384.out 4; have hfz104_5 := blk_frozen BK384.out 5; have hfz104_6 := blk_frozen BK384.out 6; have hfz104_7 := blk_frozen BK384.out 7; have hfz104_8 := blk_frozen BK384.out 8; have hfz104_9 := blk_frozen BK384.out 9; have hfz104_10 := blk_frozen BK384.out 10))
                          refine bodyPost_ret (results_cell_row rfl _ _ gb384 38 #[.string x400000_13, .int .i64 x400001_13, .int .i64 (rd y424 t427), .int .i64 x400003_13, .int .i64 x400004_13, .int .i64 x400005_13, .int .i64 x400006_13, .int .i64 x400007_13, .int .i64 x400008_13, .int .i64 x400009_13, .int .i64 x400010_13] (0, 0) _ rfl (by (with_reducible repeat (first | refine blk_drewN ?_ _ | refine blk_drew ?_ | refine blk_alloc ?_ _)); refine blk_put (cs := #[.string x400000_13, .int .i64 x400001_13, .int .i64 (rd y424 t427), .int .i64 x400003_13, .int .i64 x400004_13, .int .i64 x400005_13, .int .i64 x400006_13, .int .i64 x400007_13, .int .i64 x400008_13, .int .i64 x400009_13, .int .i64 0]) ?_ 10 _ rfl; (with_reducible repeat (first | refine blk_drewN ?_ _ | refine blk_drew ?_ | refine blk_alloc ?_ _)); refine blk_put (cs := #[.string x400000_13, .int .i64 x400001_13, .int .i64 (rd y424 t427), .int .i64 x400003_13, .int .i64 x400004_13, .int .i64 x400005_13, .int .i64 x400006_13, .int .i64 x400007_13, .int .i64 x400008_13, .int .i64 0, .int .i64 0]) ?_ 9 _ rfl; (with_reducible repeat (first | refine blk_drewN ?_ _ | refine blk_drew ?_ | refine blk_alloc ?_ _)); refine blk_put (cs := #[.string x400000_13, .int .i64 x400001_13, .int .i64 (rd y424 t427), .int .i64 x400003_13, .int .i64 x400004_13, .int .i64 x400005_13, .int .i64 x400006_13, .int .i64 x400007_13, .int .i64 0, .int .i64 0, .int .i64 0]) ?_ 8 _ rfl; (with_reducible repeat (first | refine blk_drewN ?_ _ | refine blk_drew ?_ | refine blk_alloc ?_ _)); refine blk_put (cs := #[.string x400000_13, .int .i64 x400001_13, .int .i64 (rd y424 t427), .int .i64 x400003_13, .int .i64 x400004_13, .int .i64 x400005_13, .int .i64 x400006_13, .int .i64 0, .int .i64 0, .int .i64 0, .int .i64 0]) ?_ 7 _ rfl; (with_reducible repeat (first | refine blk_drewN ?_ _ | refine blk_drew ?_ | refine blk_alloc ?_ _)); refine blk_put (cs := #[.string x400000_13, .int .i64 x400001_13, .int .i64 (rd y424 t427), .int .i64 x400003_13, .int .i64 x400004_13, .int .i64 x400005_13, .int .i64 0, .int .i64 0, .int .i64 0, .int .i64 0, .int .i64 0]) ?_ 6 _ rfl; (with_reducible repeat (first | refine blk_drewN ?_ _ | refine blk_drew ?_ | refine blk_alloc ?_ _)); refine blk_put (cs := #[.string x400000_13, .int .i64 x400001_13, .int .i64 (rd y424 t427), .int .i64 x400003_13, .int .i64 x400004_13, .int .i64 0, .int .i64 0, .int .i64 0, .int .i64 0, .int .i64 0, .int .i64 0]) ?_ 5 _ rfl; (with_reducible repeat (first | refine blk_drewN ?_ _ | refine blk_drew ?_ | refine blk_alloc ?_ _)); refine blk_put (cs := #[.string x400000_13, .int .i64 x400001_13, .int .i64 (rd y424 t427), .int .i64 x400003_13, .int .i64 0, .int .i64 0, .int .i64 0, .int .i64 0, .int .i64 0, .int .i64 0, .int .i64 0]) ?_ 4 _ rfl; (with_reducible repeat (first | refine blk_drewN ?_ _ | refine blk_drew ?_ | refine blk_alloc ?_ _)); refine blk_put (cs := #[.string x400000_13, .int .i64 x400001_13, .int .i64 (rd y424 t427), .int .i64 0, .int .i64 0, .int .i64 0, .int .i64 0, .int .i64 0, .int .i64 0, .int .i64 0, .int .i64 0]) ?_ 3 _ rfl; (with_reducible repeat (first | refine blk_drewN ?_ _ | refine blk_drew ?_ | refine blk_alloc ?_ _)); refine blk_put (cs := #[.string x400000_13, .int .i64 x400001_13, .int .i64 0, .int .i64 0, .int .i64 0, .int .i64 0, .int .i64 0, .int .i64 0, .int .i64 0, .int .i64 0, .int .i64 0]) ?_ 2 _ rfl; (with_reducible repeat (first | refine blk_drewN ?_ _ | refine blk_drew ?_ | refine blk_alloc ?_ _)); refine blk_put (cs := #[.string x400000_13, .int .i64 0, .int .i64 0, .int .i64 0, .int .i64 0, .int .i64 0, .int .i64 0, .int .i64 0, .int .i64 0, .int .i64 0, .int .i64 0]) ?_ 1 _ rfl; (with_reducible repeat (first | refine blk_drewN ?_ _ | refine blk_drew ?_ | refine blk_alloc ?_ _)); refine blk_put (cs := #[.string (⟨#[]⟩ : ByteArray), .int .i64 0, .int .i64 0, .int .i64 0, .int .i64 0, .int .i64 0, .int .i64 0, .int .i64 0, .int .i64 0, .int .i64 0, .int .i64 0]) ?_ 0 _ rfl; (with_reducible repeat (first | refine blk_drewN ?_ _ | refine blk_drew ?_ | refine blk_alloc ?_ _)); refine blk_far ?_ NB384_399.out _; (with_reducible repeat (first | refine blk_drewN ?_ _ | refine blk_drew ?_ | refine blk_alloc ?_ _)); exact BK384.out) Tryd.underlying38 rfl (by kernel_rfl)) rfl ?_
                          exact ⟨by first | rfl | (simp [errW_none, errW_some] <;> rfl) | (simp [*, errW_none, errW_some] <;> rfl), by repeat (first | (with_reducible first | exact HI0.out | apply IsS62.alloc | apply IsS62.drewN | apply IsS62.drew | apply IsS62.set_1 | refine IsS62.far ?_ NB0_384.out _ | refine IsS62.far ?_ NB0_399.out _) | exact HI0.out), by repeat (first | (with_reducible first | exact HB.out | apply below_alloc | apply pw_below_drewN | apply below_drew1 | refine below_set ?_ (IsS62.ge HI0.out) | refine below_set ?_ GE384.out | refine below_set ?_ GE399.out) | exact HB.out), by repeat (first | (with_reducible first | exact HK.out | apply KeepBut.set_ | apply keep_drewN | apply keep_drew | apply keep_alloc | refine keep_far ?_ GW384.out _ | refine keep_far ?_ GW399.out _) | exact HK.out)⟩
                        · rw [if_neg c93] at H
                          exact absurd H (by simp)
                      · rw [if_neg c92] at H
                        exact absurd H (by simp)
                    · rw [if_neg c90] at H
                      have c90b0 : (t414 == 2) = false := beq_eq_false_iff_ne.mpr c90
                      have c90b1 : (t414 != 2) = true := bne_iff_ne.mpr c90
                      replace H := Option.bind_eq_some_iff.mp H
                      obtain ⟨⟨t430, t431, t432⟩, A1050, H⟩ := H
                      replace H : (some (x400000_13, x400001_13, x400002_13, x400003_13, x400004_13, x400005_13, x400006_13, x400007_13, x400008_13, t430, t431, t432)) = some (r1, r2, r3, r4, r5, r6, r7, r8, r9, r10, r11, r12) := H
                      have A105 := Aside0.mk A1050
                      clear A1050
                      simp only [Option.some.injEq, Prod.mk.injEq] at H
                      obtain ⟨rfl, rfl, rfl, rfl, rfl, rfl, rfl, rfl, rfl, rfl, rfl, rfl⟩ := H
                      go_wp2_with (first | ((with_reducible refine gate_callee (f := 38) rfl ?_); refine goesL_ (some 40) rfl rfl Tryd.func38 (by kernel_rfl) rfl #[.pointer (some ⟨g, 0, none⟩), .int .i64 a1] rfl (by (try simp only [List.map_toArray, List.map_cons, List.map_nil]); first | done | rfl | (simp only [List.length_drop, List.length_take]; rfl)) ?_; (with_reducible refine (spec_l20Rd_pick.calls kj13 g s0_0 t411 a1 t412 t413 w0 _ ?side1 ?side2 A56.out).mono ?_); (case side1 => repeat (first | (with_reducible first | exact HI0.out | apply IsS62.alloc | apply IsS62.drewN | apply IsS62.drew | apply IsS62.set_1 | refine IsS62.far ?_ NB0_384.out _ | refine IsS62.far ?_ NB0_399.out _) | exact HI0.out)); (case side2 => repeat (first | (with_reducible first | exact HB.out | apply below_alloc | apply pw_below_drewN | apply below_drew1 | refine below_set ?_ (IsS62.ge HI0.out) | refine below_set ?_ GE384.out | refine below_set ?_ GE399.out) | exact HB.out)); rintro e w106 ⟨rfl, hi, hb, hk⟩; refine ⟨_, rfl, ?_⟩; have n0_ := Aside0.mk (KeepBut.blk hk (g' := gb384) (o := .cells #[.string (⟨#[]⟩ : ByteArray), .int .i64 0, .int .i64 0, .int .i64 0, .int .i64 0, .int .i64 0, .int .i64 0, .int .i64 0, .int .i64 0, .int .i64 0, .int .i64 0] 38 (0, 0)) (by (with_reducible repeat (first | refine blk_drewN ?_ _ | refine blk_drew ?_ | refine blk_alloc ?_ _)); exact BK384.out) NB384_0.out (by simp)); have n1_ := Aside0.mk (KeepBut.blk hk (g' := gb399) (o := .cells #[.string x400000_13, .int .i64 x400001_13, .int .i64 x400002_13, .int .i64 x400003_13, .int .i64 x400004_13, .int .i64 x400005_13, .int .i64 x400006_13, .int .i64 x400007_13, .int .i64 x400008_13, .int .i64 x400009_13, .int .i64 x400010_13] 38 (0, 0)) (by (with_reducible repeat (first | refine blk_drewN ?_ _ | refine blk_drew ?_ | refine blk_alloc ?_ _)); exact BK399.out) NB399_0.out (by simp)); have n2_ := Aside0.mk (KeepBut.trans (by repeat (first | (with_reducible first | exact HK.out | apply KeepBut.set_ | apply keep_drewN | apply keep_drew | apply keep_alloc | refine keep_far ?_ GW384.out _ | refine keep_far ?_ GW399.out _) | exact HK.out)) hk (.inl rfl)); have n3_ := Aside0.mk (hb); have n4_ := Aside0.mk (hi); clear BK384; clear BK399; clear HK; clear HB; clear HI0; have BK384 := n0_; have BK399 := n1_; have HK := n2_; have HB := n3_; have HI0 := n4_; clear n0_ n1_ n2_ n3_ n4_; (try clear hb); (try clear hb2); (try clear hk); (try clear hi)) | ((with_reducible refine gate_callee (f := 38) rfl ?_); refine goesL_ (some 44) rfl rfl Tryd.func38 (by kernel_rfl) rfl #[.pointer (some ⟨g, 0, none⟩), .int .i64 4] rfl (by (try simp only [List.map_toArray, List.map_cons, List.map_nil]); first | done | rfl | (simp only [List.length_drop, List.length_take]; rfl)) ?_; (with_reducible refine (spec_l20Rd_pick.calls kj13 g s0_0 t413 4 t414 t415 w0 _ ?side1 ?side2 A64.out).mono ?_); (case side1 => repeat (first | (with_reducible first | exact HI0.out | apply IsS62.alloc | apply IsS62.drewN | apply IsS62.drew | apply IsS62.set_1 | refine IsS62.far ?_ NB0_384.out _ | refine IsS62.far ?_ NB0_399.out _) | exact HI0.out)); (case side2 => repeat (first | (with_reducible first | exact HB.out | apply below_alloc | apply pw_below_drewN | apply below_drew1 | refine below_set ?_ (IsS62.ge HI0.out) | refine below_set ?_ GE384.out | refine below_set ?_ GE399.out) | exact HB.out)); rintro e w107 ⟨rfl, hi, hb, hk⟩; refine ⟨_, rfl, ?_⟩; have n0_ := Aside0.mk (KeepBut.blk hk (g' := gb384) (o := .cells #[.string (⟨#[]⟩ : ByteArray), .int .i64 0, .int .i64 0, .int .i64 0, .int .i64 0, .int .i64 0, .int .i64 0, .int .i64 0, .int .i64 0, .int .i64 0, .int .i64 0] 38 (0, 0)) (by (with_reducible repeat (first | refine blk_drewN ?_ _ | refine blk_drew ?_ | refine blk_alloc ?_ _)); exact BK384.out) NB384_0.out (by simp)); have n1_ := Aside0.mk (KeepBut.blk hk (g' := gb399) (o := .cells #[.string x400000_13, .int .i64 x400001_13, .int .i64 x400002_13, .int .i64 x400003_13, .int .i64 x400004_13, .int .i64 x400005_13, .int .i64 x400006_13, .int .i64 x400007_13, .int .i64 x400008_13, .int .i64 x400009_13, .int .i64 x400010_13] 38 (0, 0)) (by (with_reducible repeat (first | refine blk_drewN ?_ _ | refine blk_drew ?_ | refine blk_alloc ?_ _)); exact BK399.out) NB399_0.out (by simp)); have n2_ := Aside0.mk (KeepBut.trans (by repeat (first | (with_reducible first | exact HK.out | apply KeepBut.set_ | apply keep_drewN | apply keep_drew | apply keep_alloc | refine keep_far ?_ GW384.out _ | refine keep_far ?_ GW399.out _) | exact HK.out)) hk (.inl rfl)); have n3_ := Aside0.mk (hb); have n4_ := Aside0.mk (hi); clear BK384; clear BK399; clear HK; clear HB; clear HI0; have BK384 := n0_; have BK399 := n1_; have HK := n2_; have HB := n3_; have HI0 := n4_; clear n0_ n1_ n2_ n3_ n4_; (try clear hb); (try clear hb2); (try clear hk); (try clear hi)) | ((with_reducible refine gate_callee (f := 60) rfl ?_); refine goesL_ (some 46) rfl rfl Tryd.func60 (by kernel_rfl) rfl #[.pointer (some ⟨g, 0, none⟩), .int .i64 1] rfl (by (try simp only [List.map_toArray, List.map_cons, List.map_nil]); first | done | rfl | (simp only [List.length_drop, List.length_take]; rfl)) ?_; (with_reducible refine (spec_l20Brd.calls kj13 g s0_0 t415 1 t430 t431 t432 w0 _ ?side1 ?side2 A105.out).mono ?_); (case side1 => repeat (first | (with_reducible first | exact HI0.out | apply IsS62.alloc | apply IsS62.drewN | apply IsS62.drew | apply IsS62.set_1 | refine IsS62.far ?_ NB0_384.out _ | refine IsS62.far ?_ NB0_399.out _) | exact HI0.out)); (case side2 => repeat (first | (with_reducible first | exact HB.out | apply below_alloc | apply pw_below_drewN | apply below_drew1 | refine below_set ?_ (IsS62.ge HI0.out) | refine below_set ?_ GE384.out | refine below_set ?_ GE399.out) | exact HB.out)); rintro e w108 ⟨rfl, hi, hb, hk⟩; refine ⟨_, rfl, ?_⟩; have n0_ := Aside0.mk (KeepBut.blk hk (g' := gb384) (o := .cells #[.string (⟨#[]⟩ : ByteArray), .int .i64 0, .int .i64 0, .int .i64 0, .int .i64 0, .int .i64 0, .int .i64 0, .int .i64 0, .int .i64 0, .int .i64 0, .int .i64 0] 38 (0, 0)) (by (with_reducible repeat (first | refine blk_drewN ?_ _ | refine blk_drew ?_ | refine blk_alloc ?_ _)); exact BK384.out) NB384_0.out (by simp)); have n1_ := Aside0.mk (KeepBut.blk hk (g' := gb399) (o := .cells #[.string x400000_13, .int .i64 x400001_13, .int .i64 x400002_13, .int .i64 x400003_13, .int .i64 x400004_13, .int .i64 x400005_13, .int .i64 x400006_13, .int .i64 x400007_13, .int .i64 x400008_13, .int .i64 x400009_13, .int .i64 x400010_13] 38 (0, 0)) (by (with_reducible repeat (first | refine blk_drewN ?_ _ | refine blk_drew ?_ | refine blk_alloc ?_ _)); exact BK399.out) NB399_0.out (by simp)); have n2_ := Aside0.mk (KeepBut.trans (by repeat (first | (with_reducible first | exact HK.out | apply KeepBut.set_ | apply keep_drewN | apply keep_drew | apply keep_alloc | refine keep_far ?_ GW384.out _ | refine keep_far ?_ GW399.out _) | exact HK.out)) hk (.inl rfl)); have n3_ := Aside0.mk (hb); have n4_ := Aside0.mk (hi); clear BK384; clear BK399; clear HK; clear HB; clear HI0; have BK384 := n0_; have BK399 := n1_; have HK := n2_; have HB := n3_; have HI0 := n4_; clear n0_ n1_ n2_ n3_ n4_; (try clear hb); (try clear hb2); (try clear hk); (try clear hi); have hnb109 := NB399_384.out; have hnc109 := NB384_399.out; have hnb110 := NB399_0.out; have hnc110 := NB0_399.out; have hcz111_0 : w108.cell? ⟨gb399, 0, none⟩ = some (.string x400000_13) := (blk_cell BK399.out 0).trans rfl; have hcz111_1 : w108.cell? ⟨gb399, 1, none⟩ = some (.int .i64 x400001_13) := (blk_cell BK399.out 1).trans rfl; have hcz111_2 : w108.cell? ⟨gb399, 2, none⟩ = some (.int .i64 x400002_13) := (blk_cell BK399.out 2).trans rfl; have hcz111_3 : w108.cell? ⟨gb399, 3, none⟩ = some (.int .i64 x400003_13) := (blk_cell BK399.out 3).trans rfl; have hcz111_4 : w108.cell? ⟨gb399, 4, none⟩ = some (.int .i64 x400004_13) := (blk_cell BK399.out 4).trans rfl; have hcz111_5 : w108.cell? ⟨gb399, 5, none⟩ = some (.int .i64 x400005_13) := (blk_cell BK399.out 5).trans rfl; have hcz111_6 : w108.cell? ⟨gb399, 6, none⟩ = some (.int .i64 x400006_13) := (blk_cell BK399.out 6).trans rfl; have hcz111_7 : w108.cell? ⟨gb399, 7, none⟩ = some (.int .i64 x400007_13) := (blk_cell BK399.out 7).trans rfl; have hcz111_8 : w108.cell? ⟨gb399, 8, none⟩ = some (.int .i64 x400008_13) := (blk_cell BK399.out 8).trans rfl; have hcz111_9 : w108.cell? ⟨gb399, 9, none⟩ = some (.int .i64 x400009_13) := (blk_cell BK399.out 9).trans rfl; have hcz111_10 : w108.cell? ⟨gb399, 10, none⟩ = some (.int .i64 x400010_13) := (blk_cell BK399.out 10).trans rfl; have hfz111_0 := blk_frozen BK399.out 0; have hfz111_1 := blk_frozen BK399.out 1; have hfz111_2 := blk_frozen BK399.out 2; have hfz111_3 := blk_frozen BK399.out 3; have hfz111_4 := blk_frozen BK399.out 4; have hfz111_5 := blk_frozen BK399.out 5; have hfz111_6 := blk_frozen BK399.out 6; have hfz111_7 := blk_frozen BK399.out 7; have hfz111_8 := blk_frozen BK399.out 8; have hfz111_9 := blk_frozen BK399.out 9; have hfz111_10 := blk_frozen BK399.out 10; have hnb112 := NB384_0.out; have hnc112 := NB0_384.out; have hcz113_0 : w108.cell? ⟨gb384, 0, none⟩ = some (.string (⟨#[]⟩ : ByteArray)) := (blk_cell BK384.out 0).trans rfl; have hcz113_1 : w108.cell? ⟨gb384, 1, none⟩ = some (.int .i64 0) := (blk_cell BK384.out 1).trans rfl; have hcz113_2 : w108.cell? ⟨gb384, 2, none⟩ = some (.int .i64 0) := (blk_cell BK384.out 2).trans rfl; have hcz113_3 : w108.cell? ⟨gb384, 3, none⟩ = some (.int .i64 0) := (blk_cell BK384.out 3).trans rfl; have hcz113_4 : w108.cell? ⟨gb384, 4, none⟩ = some (.int .i64 0) := (blk_cell BK384.out 4).trans rfl; have hcz113_5 : w108.cell? ⟨gb384, 5, none⟩ = some (.int .i64 0) := (blk_cell BK384.out 5).trans rfl; have hcz113_6 : w108.cell? ⟨gb384, 6, none⟩ = some (.int .i64 0) := (blk_cell BK384.out 6).trans rfl; have hcz113_7 : w108.cell? ⟨gb384, 7, none⟩ = some (.int .i64 0) := (blk_cell BK384.out 7).trans rfl; have hcz113_8 : w108.cell? ⟨gb384, 8, none⟩ = some (.int .i64 0) := (blk_cell BK384.out 8).trans rfl; have hcz113_9 : w108.cell? ⟨gb384, 9, none⟩ = some (.int .i64 0) := (blk_cell BK384.out 9).trans rfl; have hcz113_10 : w108.cell? ⟨gb384, 10, none⟩ = some (.int .i64 0) := (blk_cell BK384.out 10).trans rfl; have hfz113_0 := blk_frozen BK384.out 0; have hfz113_1 := blk_frozen BK384.out 1; have hfz113_2 := blk_frozen BK384.out 2; have hfz113_3 := blk_frozen BK384.out 3; have hfz113_4 := blk_frozen BK384.out 4; have hfz113_5 := blk_frozen BK384.out 5; have hfz113_6 := blk_frozen BK384.out 6; have hfz113_7 := blk_frozen BK384.out 7; have hfz113_8 := blk_frozen BK384.out 8; have hfz113_9 := blk_frozen BK384.out 9; have hfz113_10 := blk_frozen BK384.out 10))
                      refine bodyPost_ret (results_cell_row rfl _ _ gb384 38 #[.string x400000_13, .int .i64 x400001_13, .int .i64 x400002_13, .int .i64 x400003_13, .int .i64 x400004_13, .int .i64 x400005_13, .int .i64 x400006_13, .int .i64 x400007_13, .int .i64 x400008_13, .int .i64 t430, .int .i64 t431] (0, 0) _ rfl (by (with_reducible repeat (first | refine blk_drewN ?_ _ | refine blk_drew ?_ | refine blk_alloc ?_ _)); refine blk_put (cs := #[.string x400000_13, .int .i64 x400001_13, .int .i64 x400002_13, .int .i64 x400003_13, .int .i64 x400004_13, .int .i64 x400005_13, .int .i64 x400006_13, .int .i64 x400007_13, .int .i64 x400008_13, .int .i64 t430, .int .i64 0]) ?_ 10 _ rfl; (with_reducible repeat (first | refine blk_drewN ?_ _ | refine blk_drew ?_ | refine blk_alloc ?_ _)); refine blk_put (cs := #[.string x400000_13, .int .i64 x400001_13, .int .i64 x400002_13, .int .i64 x400003_13, .int .i64 x400004_13, .int .i64 x400005_13, .int .i64 x400006_13, .int .i64 x400007_13, .int .i64 x400008_13, .int .i64 0, .int .i64 0]) ?_ 9 _ rfl; (with_reducible repeat (first | refine blk_drewN ?_ _ | refine blk_drew ?_ | refine blk_alloc ?_ _)); refine blk_put (cs := #[.string x400000_13, .int .i64 x400001_13, .int .i64 x400002_13, .int .i64 x400003_13, .int .i64 x400004_13, .int .i64 x400005_13, .int .i64 x400006_13, .int .i64 x400007_13, .int .i64 0, .int .i64 0, .int .i64 0]) ?_ 8 _ rfl; (with_reducible repeat (first | refine blk_drewN ?_ _ | refine blk_drew ?_ | refine blk_alloc ?_ _)); refine blk_put (cs := #[.string x400000_13, .int .i64 x400001_13, .int .i64 x400002_13, .int .i64 x400003_13, .int .i64 x400004_13, .int .i64 x400005_13, .int .i64 x400006_13, .int .i64 0, .int .i64 0, .int .i64 0, .int .i64 0]) ?_ 7 _ rfl; (with_reducible repeat (first | refine blk_drewN ?_ _ | refine blk_drew ?_ | refine blk_alloc ?_ _)); refine blk_put (cs := #[.string x400000_13, .int .i64 x400001_13, .int .i64 x400002_13, .int .i64 x400003_13, .int .i64 x400004_13, .int .i64 x400005_13, .int .i64 0, .int .i64 0, .int .i64 0, .int .i64 0, .int .i64 0]) ?_ 6 _ rfl; (with_reducible repeat (first | refine blk_drewN ?_ _ | refine blk_drew ?_ | refine blk_alloc ?_ _)); refine blk_put (cs := #[.string x400000_13, .int .i64 x400001_13, .int .i64 x400002_13, .int .i64 x400003_13, .int .i64 x400004_13, .int .i64 0, .int .i64 0, .int .i64 0, .int .i64 0, .int .i64 0, .int .i64 0]) ?_ 5 _ rfl; (with_reducible repeat (first | refine blk_drewN ?_ _ | refine blk_drew ?_ | refine blk_alloc ?_ _)); refine blk_put (cs := #[.string x400000_13, .int .i64 x400001_13, .int .i64 x400002_13, .int .i64 x400003_13, .int .i64 0, .int .i64 0, .int .i64 0, .int .i64 0, .int .i64 0, .int .i64 0, .int .i64 0]) ?_ 4 _ rfl; (with_reducible repeat (first | refine blk_drewN ?_ _ | refine blk_drew ?_ | refine blk_alloc ?_ _)); refine blk_put (cs := #[.string x400000_13, .int .i64 x400001_13, .int .i64 x400002_13, .int .i64 0, .int .i64 0, .int .i64 0, .int .i64 0, .int .i64 0, .int .i64 0, .int .i64 0, .int .i64 0]) ?_ 3 _ rfl; (with_reducible repeat (first | refine blk_drewN ?_ _ | refine blk_drew ?_ | refine blk_alloc ?_ _)); refine blk_put (cs := #[.string x400000_13, .int .i64 x400001_13, .int .i64 0, .int .i64 0, .int .i64 0, .int .i64 0, .int .i64 0, .int .i64 0, .int .i64 0, .int .i64 0, .int .i64 0]) ?_ 2 _ rfl; (with_reducible repeat (first | refine blk_drewN ?_ _ | refine blk_drew ?_ | refine blk_alloc ?_ _)); refine blk_put (cs := #[.string x400000_13, .int .i64 0, .int .i64 0, .int .i64 0, .int .i64 0, .int .i64 0, .int .i64 0, .int .i64 0, .int .i64 0, .int .i64 0, .int .i64 0]) ?_ 1 _ rfl; (with_reducible repeat (first | refine blk_drewN ?_ _ | refine blk_drew ?_ | refine blk_alloc ?_ _)); refine blk_put (cs := #[.string (⟨#[]⟩ : ByteArray), .int .i64 0, .int .i64 0, .int .i64 0, .int .i64 0, .int .i64 0, .int .i64 0, .int .i64 0, .int .i64 0, .int .i64 0, .int .i64 0]) ?_ 0 _ rfl; (with_reducible repeat (first | refine blk_drewN ?_ _ | refine blk_drew ?_ | refine blk_alloc ?_ _)); refine blk_far ?_ NB384_399.out _; (with_reducible repeat (first | refine blk_drewN ?_ _ | refine blk_drew ?_ | refine blk_alloc ?_ _)); refine blk_far ?_ NB384_399.out _; (with_reducible repeat (first | refine blk_drewN ?_ _ | refine blk_drew ?_ | refine blk_alloc ?_ _)); exact BK384.out) Tryd.underlying38 rfl (by kernel_rfl)) rfl ?_
                      exact ⟨by first | rfl | (simp [errW_none, errW_some] <;> rfl) | (simp [*, errW_none, errW_some] <;> rfl), by repeat (first | (with_reducible first | exact HI0.out | apply IsS62.alloc | apply IsS62.drewN | apply IsS62.drew | apply IsS62.set_1 | refine IsS62.far ?_ NB0_384.out _ | refine IsS62.far ?_ NB0_399.out _) | exact HI0.out), by repeat (first | (with_reducible first | exact HB.out | apply below_alloc | apply pw_below_drewN | apply below_drew1 | refine below_set ?_ (IsS62.ge HI0.out) | refine below_set ?_ GE384.out | refine below_set ?_ GE399.out) | exact HB.out), by repeat (first | (with_reducible first | exact HK.out | apply KeepBut.set_ | apply keep_drewN | apply keep_drew | apply keep_alloc | refine keep_far ?_ GW384.out _ | refine keep_far ?_ GW399.out _) | exact HK.out)⟩
        · rw [if_neg c9] at H
          exact absurd H (by simp)
      · rw [if_neg c8] at H
        exact absurd H (by simp)
    · rw [if_neg c6] at H
      exact absurd H (by simp)
  · rw [if_neg c5] at H
    exact absurd H (by simp)
end Go.Proofs.YtldmepofbkcmnaaDoor.Pr
