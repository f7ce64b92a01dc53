/- A part of what the claim of 'FnGrdPlain' leans on. -/
import Derived.Test.YtnalfnoebhmijaaDoorFnGrdPlainP0
import Derived.Test.YtnalfnoebhmijaaDoorFnGrdPlainP1
namespace Go.Proofs.YtnalfnoebhmijaaDoor.Pr
open Go.RowKit Go.Proofs.YtnalfnoebhmijaaDoorW.PrintWords Go.Proofs.YtnalfnoebhmijaaDoorW.PrintLast Go.Proofs.YtnalfnoebhmijaaDoorW.PrintMore
attribute [local go_sem] max2_int min2_int max_two min_two max_three min_three max_four min_four
set_option linter.unusedVariables false
set_option linter.unusedSimpArgs false
def spec_l20Cell.j0 : Nat → Int → List Int → Int → ByteArray → Int → Int → Int → Int → Int → Int → Int → Int → Int → Int → Option (ByteArray × Int × Int × Int × Int × Int × Int × Int × Int × Int × Int × Int)
  | 0, _, _, _, _, _, _, _, _, _, _, _, _, _, _ => none
  | k + 1, x1, x1000, x1001, x193000, x193001, x193002, x193003, x193004, x193005, x193006, x193007, x193008, x193009, x193010 => (spec_l20Rd_pick.f k x1000 x1001 x1).bind fun bt205 => (if bt205.1 > 0 then (some (x193000, x193001, x193002, x193003, x193004, x193005, x193006, x193007, x193008, x193009, x193010, bt205.2)) else ((spec_l20Rd_pick.f k x1000 bt205.2 4).bind fun bt207 => (if bt207.1 = 0 then ((spec_l20AnyText.f k x1000 bt207.2 1).bind fun bt209 => (some (bt209.1, x193001, x193002, x193003, x193004, x193005, x193006, x193007, x193008, x193009, x193010, bt209.2))) else (if bt207.1 = 1 then ((some (([0, 5, (-1)] : List Int) : List Int)).bind fun y211 => ((spec_l20Rd_pick.f k x1000 bt207.2 3).bind fun bt214 => (if 0 ≤ bt214.1 then (if bt214.1 < (y211.length : Int) then (some (x193000, rd y211 bt214.1, x193002, x193003, x193004, x193005, x193006, x193007, x193008, x193009, x193010, bt214.2)) else (none)) else (none)))) else (if bt207.1 = 2 then ((some (([0, 5, (-1)] : List Int) : List Int)).bind fun y217 => ((spec_l20Rd_pick.f k x1000 bt207.2 3).bind fun bt220 => (if 0 ≤ bt220.1 then (if bt220.1 < (y217.length : Int) then (some (x193000, x193001, rd y217 bt220.1, x193003, x193004, x193005, x193006, x193007, x193008, x193009, x193010, bt220.2)) else (none)) else (none)))) else ((spec_l20Brd.f k x1000 bt207.2 1).bind fun bt223 => (some (x193000, x193001, x193002, x193003, x193004, x193005, x193006, x193007, x193008, bt223.1, bt223.2.1, bt223.2.2))))))))
def spec_l20Cell.f (k : Nat) (s0_0 : List Int) (s0_1 : Int) (a1 : Int) : Option (ByteArray × Int × Int × Int × Int × Int × Int × Int × Int × Int × Int × Int) := (spec_l20Text.f k s0_0 s0_1).bind fun bt178 => ((some (([1, 1, 1, 2, 3, 4] : List Int) : List Int)).bind fun y180 => ((spec_l20Rd_pick.f k s0_0 bt178.2 6).bind fun bt183 => (if 0 ≤ bt183.1 then (if bt183.1 < (y180.length : Int) then ((some (([1, 1, 1, 1, 2, 3] : List Int) : List Int)).bind fun y186 => ((spec_l20Rd_pick.f k s0_0 bt183.2 6).bind fun bt189 => (if 0 ≤ bt189.1 then (if bt189.1 < (y186.length : Int) then ((spec_l20Brd.f k s0_0 bt189.2 999).bind fun bt193 => ((spec_l20Brd.f k s0_0 bt193.2.2 999).bind fun bt196 => ((spec_l20Brd.f k s0_0 bt196.2.2 999).bind fun bt199 => ((spec_l20Brd.f k s0_0 bt199.2.2 999).bind fun bt202 => (if (s0_0.length : Int) = 0 then (spec_l20Cell.j0 k a1 s0_0 bt202.2.2 (⟨#[]⟩ : ByteArray) 1 1 0 0 0 0 0 0 0 0) else (spec_l20Cell.j0 k a1 s0_0 bt202.2.2 bt178.1 (rd y180 bt183.1) (rd y186 bt189.1) bt193.1 bt193.2.1 bt196.1 bt196.2.1 bt199.1 bt199.2.1 bt202.1 bt202.2.1)))))) else (none)) else (none)))) else (none)) else (none))))
def spec_l20Cell.T1 : Bool × List (List Nat × List Nat) := (true, [([], []), ([0], [0]), ([], []), ([], []), ([3, 1], [3]), ([2, 4], [2, 4]), ([5], [5]), ([], []), ([], []), ([8, 4], [8]), ([7, 9], [7, 9]), ([10], [10]), ([1, 6, 11], [1, 6, 11]), ([], []), ([13, 12, 9, 0, 1, 2, 3, 4, 5, 6, 7, 8, 9, 10, 11, 12, 13], [12, 13])])
def spec_l20Cell.B1 : List Nat := [0, 1, 0, 0, 11, 31, 63, 0, 0, 283, 923, 1947, 4095, 0, 16383]
theorem spec_l20Cell.tab1 : rtab .any (opsOf Tryd.f50 1) = spec_l20Cell.T1 := by kernel_rfl
theorem spec_l20Cell.bits1 : waitsOk spec_l20Cell.T1.2 spec_l20Cell.B1 = true := by kernel_rfl
def ovl (a : Act) (ν : Nat → Option Value) : Act := { a with tmps := a.tmps.mapIdx fun i v => (ν i).getD v }
theorem ovl_none (a : Act) : ovl a (fun _ => none) = a := by
  unfold ovl
  have : (a.tmps.mapIdx fun i v => ((fun _ => none : Nat → Option Value) i).getD v) = a.tmps := by
    apply Array.ext
    · simp
    · intro i h1 h2; simp
  rw [this]
theorem ovl_eval (a : Act) (ν : Nat → Option Value) (n : Nat) (h : n < a.tmps.size) : (ovl a ν).eval (.tmp n) = (ν n).getD (a.eval (.tmp n)) := by
  unfold ovl Act.eval
  simp [Array.getD_eq_getD_getElem?, h]
theorem ovl_put (a : Act) (ν : Nat → Option Value) (n : Nat) (v : Value) : (ovl a ν).put (some n) v = ovl a (fun j => if j = n then some v else ν j) := by
  unfold ovl Act.put
  simp only [Act.mk.injEq, and_true]
  apply Array.ext
  · simp
  · intro i h1 h2
    have h3 : i < (Array.mapIdx (fun i v => (ν i).getD v) a.tmps).size := by simpa using h2
    rw [Array.getElem_setIfInBounds h3, Array.getElem_mapIdx, Array.getElem_mapIdx]
    by_cases e : n = i
    · subst e; simp
    · rw [if_neg e, if_neg (fun q => e q.symm)]
def lkp : List (Tmp × Value) → Nat → Option Value
  | [], _ => none
  | (n, v) :: r, j => (lkp r j).or (if j = n then some v else none)
theorem ovl_putAll (a : Act) : ∀ (L : List (Tmp × Value)) (ν : Nat → Option Value), putAll (ovl a ν) L = ovl a (fun j => (lkp L j).or (ν j))
  | [], ν => by simp [putAll, lkp]
  | (n, v) :: r, ν => by
    rw [putAll, ovl_put, ovl_putAll a r]
    congr 1
    funext j
    rw [lkp]
    cases lkp r j with
    | some x => simp
    | none => by_cases e : j = n <;> simp [e]
theorem putAll_ovl (a : Act) (L : List (Tmp × Value)) : putAll a L = ovl a (lkp L) := by
  have := ovl_putAll a L (fun _ => none)
  rw [ovl_none] at this
  rw [this]; congr 1; funext j; simp
def cellZ : Obj := .cells #[.string (⟨#[]⟩ : ByteArray), .int .i64 0, .int .i64 0, .int .i64 0, .int .i64 0, .int .i64 0, .int .i64 0, .int .i64 0, .int .i64 0, .int .i64 0, .int .i64 0] 61 (0, 0)
def cellA : List Int := [1, 1, 1, 2, 3, 4]
def cellB_ : List Int := [1, 1, 1, 1, 2, 3]
def cellT1 : Bool × List (List Nat × List Nat) := (true, [([], []), ([0], [0]), ([], []), ([], []), ([3, 1], [3]), ([2, 4], [2, 4]), ([5], [5]), ([], []), ([], []), ([8, 4], [8]), ([7, 9], [7, 9]), ([10], [10]), ([1, 6, 11], [1, 6, 11]), ([], []), ([13, 12, 9, 0, 1, 2, 3, 4, 5, 6, 7, 8, 9, 10, 11, 12, 13], [12, 13])])
structure CellI (g gb : Nat) (x : ByteArray) (i j : Int) (w0 w : World) (f : Nat → Bool) (ν : Nat → Option Value) (b8 b13 b5 : Nat) (W : World) : Prop where
  n : ∀ q, ¬ (q = 5 ∨ q = 7 ∨ q = 8 ∨ q = 10 ∨ q = 11 ∨ q = 12 ∨ q = 13 ∨ q = 15 ∨ q = 16 ∨ q = 17 ∨ q = 18) → ν q = none
  v1 : f 1 = true → ν 7 = some (.string x)
  v2 : f 2 = true → ν 8 = some (.slice (some ⟨b8, 0, none⟩) 6 6) ∧ W.heap[b8]? = some (.cells (cellA.map (Value.int .i64)).toArray 3 (0, 0)) ∧ b8 ≠ g
  v4 : f 4 = true → ν 10 = some (.int .i64 i)
  v5 : f 5 = true → ν 11 = some (.pointer (some (Addr.add ⟨b8, 0, none⟩ i.toNat)))
  v6 : f 6 = true → ν 12 = some (.int .i64 (rd cellA i))
  v7 : f 7 = true → ν 13 = some (.slice (some ⟨b13, 0, none⟩) 6 6) ∧ W.heap[b13]? = some (.cells (cellB_.map (Value.int .i64)).toArray 3 (0, 0)) ∧ b13 ≠ g
  v9 : f 9 = true → ν 15 = some (.int .i64 j)
  v10 : f 10 = true → ν 16 = some (.pointer (some (Addr.add ⟨b13, 0, none⟩ j.toNat)))
  v11 : f 11 = true → ν 17 = some (.int .i64 (rd cellB_ j))
  v12 : f 12 = true → ν 18 = some (.agg #[.string x, .int .i64 (rd cellA i), .int .i64 (rd cellB_ j), .int .i64 0, .int .i64 0, .int .i64 0, .int .i64 0, .int .i64 0, .int .i64 0, .int .i64 0, .int .i64 0])
  v13 : f 13 = true → ν 5 = some (.pointer (some ⟨b5, 0, none⟩)) ∧ W.heap[b5]? = some cellZ ∧ w.heap.size ≤ b5 ∧ w0.heap.size ≤ b5 ∧ b5 ≠ g ∧ b5 ≠ gb
  c4 : f 4 = true → f 1 = true
  c5 : f 5 = true → f 2 = true ∧ f 4 = true
  c6 : f 6 = true → f 5 = true
  c9 : f 9 = true → f 4 = true
  c10 : f 10 = true → f 7 = true ∧ f 9 = true
  c11 : f 11 = true → f 10 = true
  c12 : f 12 = true → f 1 = true ∧ f 6 = true ∧ f 11 = true
  z : W.heap[gb]? = some cellZ
  K : KeepBut w W g none
  B : Below w0.heap.size w0 W
def cellL (f : Nat → Bool) : List Bool := [true, f 1, f 2, true, f 4, f 5, f 6, f 7, true, f 9, f 10, f 11, f 12, f 13, false]
def cellN (f : Nat → Bool) : Nat := (if f 1 then 0 else 1) + (if f 2 then 0 else 1) + (if f 4 then 0 else 1) + (if f 5 then 0 else 1) + (if f 6 then 0 else 1) + (if f 7 then 0 else 1) + (if f 9 then 0 else 1) + (if f 10 then 0 else 1) + (if f 11 then 0 else 1) + (if f 12 then 0 else 1) + (if f 13 then 0 else 1)
theorem cell_ready {f : Nat → Bool} (h : readyT cellT1.2 (cellL f) = []) (hc : cellN f ≠ 0) : False := by
  unfold readyT at h
  rw [List.filter_eq_nil_iff] at h
  have hq : ∀ q, q < 15 → ¬ readyAt cellT1.2 (cellL f) q = true := fun q hq => h q (by simpa [cellT1] using hq)
  have h1 : f 1 = true := by have := hq 1 (by omega); simpa [readyAt, cellT1, cellL] using this
  have h2 : f 2 = true := by have := hq 2 (by omega); simpa [readyAt, cellT1, cellL] using this
  have h7 : f 7 = true := by have := hq 7 (by omega); simpa [readyAt, cellT1, cellL] using this
  have h13 : f 13 = true := by have := hq 13 (by omega); simpa [readyAt, cellT1, cellL] using this
  have h4 : f 4 = true := by have := hq 4 (by omega); simpa [readyAt, cellT1, cellL, h1] using this
  have h5 : f 5 = true := by have := hq 5 (by omega); simpa [readyAt, cellT1, cellL, h2, h4] using this
  have h6 : f 6 = true := by have := hq 6 (by omega); simpa [readyAt, cellT1, cellL, h5] using this
  have h9 : f 9 = true := by have := hq 9 (by omega); simpa [readyAt, cellT1, cellL, h4] using this
  have h10 : f 10 = true := by have := hq 10 (by omega); simpa [readyAt, cellT1, cellL, h7, h9] using this
  have h11 : f 11 = true := by have := hq 11 (by omega); simpa [readyAt, cellT1, cellL, h10] using this
  have h12 : f 12 = true := by have := hq 12 (by omega); simpa [readyAt, cellT1, cellL, h1, h6, h11] using this
  exact hc (by simp [cellN, h1, h2, h4, h5, h6, h7, h9, h10, h11, h12, h13])
theorem rd_block {l : List Int} {W : World} {b : Nat} (h : W.heap[b]? = some (.cells (l.map (Value.int .i64)).toArray 3 (0, 0))) {i : Int} (h0 : 0 ≤ i) (h1 : i < (l.length : Int)) : W.cell? (Addr.add ⟨b, 0, none⟩ i.toNat) = some (.int .i64 (rd l i)) := by
  have hc := blk_cell h i.toNat
  have e : (Addr.add ⟨b, 0, none⟩ i.toNat : Addr) = ⟨b, i.toNat, none⟩ := by simp [Addr.add] <;> omega
  rw [e, hc]
  have hl : i.toNat < l.length := by omega
  unfold rd
  simp [hl]
def upd (f : Nat → Bool) (i : Nat) : Nat → Bool := fun q => q == i || f q
def ups (ν : Nat → Option Value) (n : Nat) (v : Value) : Nat → Option Value := fun j => if j = n then some v else ν j
theorem ups_ne {ν : Nat → Option Value} {n j : Nat} {v : Value} (h : j ≠ n) : ups ν n v j = ν j := if_neg h
section
variable {g gb : Nat} {s0 : List Int} {p0 p1 p2 p3 : Int} {x : ByteArray} {i j : Int} {w0 w : World} {f : Nat → Bool} {ν : Nat → Option Value} {b8 b13 b5 : Nat} {W : World}
theorem CellI.move (h : CellI g gb x i j w0 w f ν b8 b13 b5 W) {W' : World} (hk : KeepBut W W' g none) (hg : gb ≠ g) (hB : Below w0.heap.size w0 W') : CellI g gb x i j w0 w f ν b8 b13 b5 W' :=
  { h with
    v2 := fun e => by obtain ⟨a, b, c⟩ := h.v2 e; exact ⟨a, hk.blk b c (by simp), c⟩
    v7 := fun e => by obtain ⟨a, b, c⟩ := h.v7 e; exact ⟨a, hk.blk b c (by simp), c⟩
    v13 := fun e => by obtain ⟨a, b, c, d, e1, e2⟩ := h.v13 e; exact ⟨a, hk.blk b e1 (by simp), c, d, e1, e2⟩
    z := hk.blk h.z hg (by simp)
    K := h.K.trans hk (.inl rfl)
    B := hB }
theorem CellI.s1 (h : CellI g gb x i j w0 w f ν b8 b13 b5 W)   : CellI g gb x i j w0 w (upd f 1) (ups ν 7 (.string x)) b8 b13 b5 W := by
  obtain ⟨n, v1, v2, v4, v5, v6, v7, v9, v10, v11, v12, v13, c4, c5, c6, c9, c10, c11, c12, z, K, B⟩ := h
  refine ⟨fun q hq => by rw [ups_ne (by omega)]; exact n q hq, ?_, ?_, ?_, ?_, ?_, ?_, ?_, ?_, ?_, ?_, ?_, ?_, ?_, ?_, ?_, ?_, ?_, ?_, z, K, B⟩ <;> simp_all [upd, ups]
theorem CellI.s2 (h : CellI g gb x i j w0 w f ν b8 b13 b5 W)  (hw : W.heap[b8]? = some (.cells (cellA.map (Value.int .i64)).toArray 3 (0, 0))) (hne : b8 ≠ g) : CellI g gb x i j w0 w (upd f 2) (ups ν 8 (.slice (some ⟨b8, 0, none⟩) 6 6)) b8 b13 b5 W := by
  obtain ⟨n, v1, v2, v4, v5, v6, v7, v9, v10, v11, v12, v13, c4, c5, c6, c9, c10, c11, c12, z, K, B⟩ := h
  refine ⟨fun q hq => by rw [ups_ne (by omega)]; exact n q hq, ?_, ?_, ?_, ?_, ?_, ?_, ?_, ?_, ?_, ?_, ?_, ?_, ?_, ?_, ?_, ?_, ?_, ?_, z, K, B⟩ <;> simp_all [upd, ups]
theorem CellI.s4 (h : CellI g gb x i j w0 w f ν b8 b13 b5 W) (e1 : f 1 = true)  : CellI g gb x i j w0 w (upd f 4) (ups ν 10 (.int .i64 i)) b8 b13 b5 W := by
  obtain ⟨n, v1, v2, v4, v5, v6, v7, v9, v10, v11, v12, v13, c4, c5, c6, c9, c10, c11, c12, z, K, B⟩ := h
  refine ⟨fun q hq => by rw [ups_ne (by omega)]; exact n q hq, ?_, ?_, ?_, ?_, ?_, ?_, ?_, ?_, ?_, ?_, ?_, ?_, ?_, ?_, ?_, ?_, ?_, ?_, z, K, B⟩ <;> simp_all [upd, ups]
theorem CellI.s5 (h : CellI g gb x i j w0 w f ν b8 b13 b5 W) (e2 : f 2 = true) (e4 : f 4 = true)  : CellI g gb x i j w0 w (upd f 5) (ups ν 11 (.pointer (some (Addr.add ⟨b8, 0, none⟩ i.toNat)))) b8 b13 b5 W := by
  obtain ⟨n, v1, v2, v4, v5, v6, v7, v9, v10, v11, v12, v13, c4, c5, c6, c9, c10, c11, c12, z, K, B⟩ := h
  refine ⟨fun q hq => by rw [ups_ne (by omega)]; exact n q hq, ?_, ?_, ?_, ?_, ?_, ?_, ?_, ?_, ?_, ?_, ?_, ?_, ?_, ?_, ?_, ?_, ?_, ?_, z, K, B⟩ <;> simp_all [upd, ups]
theorem CellI.s6 (h : CellI g gb x i j w0 w f ν b8 b13 b5 W) (e5 : f 5 = true)  : CellI g gb x i j w0 w (upd f 6) (ups ν 12 (.int .i64 (rd cellA i))) b8 b13 b5 W := by
  obtain ⟨n, v1, v2, v4, v5, v6, v7, v9, v10, v11, v12, v13, c4, c5, c6, c9, c10, c11, c12, z, K, B⟩ := h
  refine ⟨fun q hq => by rw [ups_ne (by omega)]; exact n q hq, ?_, ?_, ?_, ?_, ?_, ?_, ?_, ?_, ?_, ?_, ?_, ?_, ?_, ?_, ?_, ?_, ?_, ?_, z, K, B⟩ <;> simp_all [upd, ups]
theorem CellI.s7 (h : CellI g gb x i j w0 w f ν b8 b13 b5 W)  (hw : W.heap[b13]? = some (.cells (cellB_.map (Value.int .i64)).toArray 3 (0, 0))) (hne : b13 ≠ g) : CellI g gb x i j w0 w (upd f 7) (ups ν 13 (.slice (some ⟨b13, 0, none⟩) 6 6)) b8 b13 b5 W := by
  obtain ⟨n, v1, v2, v4, v5, v6, v7, v9, v10, v11, v12, v13, c4, c5, c6, c9, c10, c11, c12, z, K, B⟩ := h
  refine ⟨fun q hq => by rw [ups_ne (by omega)]; exact n q hq, ?_, ?_, ?_, ?_, ?_, ?_, ?_, ?_, ?_, ?_, ?_, ?_, ?_, ?_, ?_, ?_, ?_, ?_, z, K, B⟩ <;> simp_all [upd, ups]
theorem CellI.s9 (h : CellI g gb x i j w0 w f ν b8 b13 b5 W) (e4 : f 4 = true)  : CellI g gb x i j w0 w (upd f 9) (ups ν 15 (.int .i64 j)) b8 b13 b5 W := by
  obtain ⟨n, v1, v2, v4, v5, v6, v7, v9, v10, v11, v12, v13, c4, c5, c6, c9, c10, c11, c12, z, K, B⟩ := h
  refine ⟨fun q hq => by rw [ups_ne (by omega)]; exact n q hq, ?_, ?_, ?_, ?_, ?_, ?_, ?_, ?_, ?_, ?_, ?_, ?_, ?_, ?_, ?_, ?_, ?_, ?_, z, K, B⟩ <;> simp_all [upd, ups]
theorem CellI.s10 (h : CellI g gb x i j w0 w f ν b8 b13 b5 W) (e7 : f 7 = true) (e9 : f 9 = true)  : CellI g gb x i j w0 w (upd f 10) (ups ν 16 (.pointer (some (Addr.add ⟨b13, 0, none⟩ j.toNat)))) b8 b13 b5 W := by
  obtain ⟨n, v1, v2, v4, v5, v6, v7, v9, v10, v11, v12, v13, c4, c5, c6, c9, c10, c11, c12, z, K, B⟩ := h
  refine ⟨fun q hq => by rw [ups_ne (by omega)]; exact n q hq, ?_, ?_, ?_, ?_, ?_, ?_, ?_, ?_, ?_, ?_, ?_, ?_, ?_, ?_, ?_, ?_, ?_, ?_, z, K, B⟩ <;> simp_all [upd, ups]
theorem CellI.s11 (h : CellI g gb x i j w0 w f ν b8 b13 b5 W) (e10 : f 10 = true)  : CellI g gb x i j w0 w (upd f 11) (ups ν 17 (.int .i64 (rd cellB_ j))) b8 b13 b5 W := by
  obtain ⟨n, v1, v2, v4, v5, v6, v7, v9, v10, v11, v12, v13, c4, c5, c6, c9, c10, c11, c12, z, K, B⟩ := h
  refine ⟨fun q hq => by rw [ups_ne (by omega)]; exact n q hq, ?_, ?_, ?_, ?_, ?_, ?_, ?_, ?_, ?_, ?_, ?_, ?_, ?_, ?_, ?_, ?_, ?_, ?_, z, K, B⟩ <;> simp_all [upd, ups]
theorem CellI.s12 (h : CellI g gb x i j w0 w f ν b8 b13 b5 W) (e1 : f 1 = true) (e6 : f 6 = true) (e11 : f 11 = true)  : CellI g gb x i j w0 w (upd f 12) (ups ν 18 (.agg #[.string x, .int .i64 (rd cellA i), .int .i64 (rd cellB_ j), .int .i64 0, .int .i64 0, .int .i64 0, .int .i64 0, .int .i64 0, .int .i64 0, .int .i64 0, .int .i64 0])) b8 b13 b5 W := by
  obtain ⟨n, v1, v2, v4, v5, v6, v7, v9, v10, v11, v12, v13, c4, c5, c6, c9, c10, c11, c12, z, K, B⟩ := h
  refine ⟨fun q hq => by rw [ups_ne (by omega)]; exact n q hq, ?_, ?_, ?_, ?_, ?_, ?_, ?_, ?_, ?_, ?_, ?_, ?_, ?_, ?_, ?_, ?_, ?_, ?_, z, K, B⟩ <;> simp_all [upd, ups]
theorem CellI.s13 (h : CellI g gb x i j w0 w f ν b8 b13 b5 W)  (hw : W.heap[b5]? = some cellZ) (h1 : w.heap.size ≤ b5) (h2 : w0.heap.size ≤ b5) (h3 : b5 ≠ g) (h4 : b5 ≠ gb) : CellI g gb x i j w0 w (upd f 13) (ups ν 5 (.pointer (some ⟨b5, 0, none⟩))) b8 b13 b5 W := by
  obtain ⟨n, v1, v2, v4, v5, v6, v7, v9, v10, v11, v12, v13, c4, c5, c6, c9, c10, c11, c12, z, K, B⟩ := h
  refine ⟨fun q hq => by rw [ups_ne (by omega)]; exact n q hq, ?_, ?_, ?_, ?_, ?_, ?_, ?_, ?_, ?_, ?_, ?_, ?_, ?_, ?_, ?_, ?_, ?_, ?_, z, K, B⟩ <;> simp_all [upd, ups]
end
theorem CellI.b8' {g gb : Nat} {x : ByteArray} {i j : Int} {w0 w : World} {f : Nat → Bool} {ν : Nat → Option Value} {b8 b13 b5 b : Nat} {W : World} (h : CellI g gb x i j w0 w f ν b8 b13 b5 W) (f2 : f 2 = false) (f5 : f 5 = false) : CellI g gb x i j w0 w f ν b b13 b5 W :=
  { h with
    v2 := fun e => by rw [f2] at e; cases e
    v5 := fun e => by rw [f5] at e; cases e }
theorem CellI.b13' {g gb : Nat} {x : ByteArray} {i j : Int} {w0 w : World} {f : Nat → Bool} {ν : Nat → Option Value} {b8 b13 b5 b : Nat} {W : World} (h : CellI g gb x i j w0 w f ν b8 b13 b5 W) (f7 : f 7 = false) (f10 : f 10 = false) : CellI g gb x i j w0 w f ν b8 b b5 W :=
  { h with
    v7 := fun e => by rw [f7] at e; cases e
    v10 := fun e => by rw [f10] at e; cases e }
theorem CellI.b5' {g gb : Nat} {x : ByteArray} {i j : Int} {w0 w : World} {f : Nat → Bool} {ν : Nat → Option Value} {b8 b13 b5 b : Nat} {W : World} (h : CellI g gb x i j w0 w f ν b8 b13 b5 W) (f13 : f 13 = false) : CellI g gb x i j w0 w f ν b8 b13 b W :=
  { h with
    v13 := fun e => by rw [f13] at e; cases e }
theorem idx_run {a : Act} {o : Oper} {ty : TypeId} {x y : Tmp} {b : Nat} {i : Int} {W : World} (ho : o.op = .indexAddr ty (.tmp x) (.tmp y)) (hu : (Tryd.prog).underlying ty = some (.slice 3)) (e1 : a.eval (.tmp x) = .slice (some ⟨b, 0, none⟩) 6 6) (e2 : a.eval (.tmp y) = .int .i64 i) (h0 : 0 ≤ i) (h1 : i < 6) :
    (execOp a.eval o).run Tryd.prog W = .ok (.value (.pointer (some (Addr.add ⟨b, 0, none⟩ i.toNat)))) W := by
  have p : (0 ≤ i) = True := eq_true h0
  have q : (i < 6) = True := eq_true h1
  unfold execOp
  rw [ho]
  simp only [e1, e2]
  go_simp
theorem load_run {a : Act} {o : Oper} {x : Tmp} {p : Addr} {n : Int} {W : World} (ho : o.op = .load 3 (.tmp x)) (e1 : a.eval (.tmp x) = .pointer (some p)) (hc : W.cell? p = some (.int .i64 n)) :
    (execOp a.eval o).run Tryd.prog W = .ok (.value (.int .i64 n)) W := by
  unfold execOp
  rw [ho]
  simp only [e1]
  go_simp
theorem build_run {ev : Operand → Value} {o : Oper} {x : ByteArray} {m n : Int} {W : World} (ho : o.op = .build 61 #[(0, .tmp 7), (1, .tmp 12), (2, .tmp 17)]) (e1 : ev (.tmp 7) = .string x) (e2 : ev (.tmp 12) = .int .i64 m) (e3 : ev (.tmp 17) = .int .i64 n) :
    (execOp ev o).run Tryd.prog W = .ok (.value (.agg #[.string x, .int .i64 m, .int .i64 n, .int .i64 0, .int .i64 0, .int .i64 0, .int .i64 0, .int .i64 0, .int .i64 0, .int .i64 0, .int .i64 0])) W := by
  unfold execOp
  rw [ho]
  go_simp
def cellP_ (p0 p1 p2 p3 : Int) (f : Nat → Bool) : Int := if f 9 = true then p3 else if f 4 = true then p2 else if f 1 = true then p1 else p0
theorem keep_new (W : World) (g : Nat) (o : Obj) : KeepBut W (W.alloc o) g none := KeepBut.of_grown (World.grownBy_alloc W o none) g
theorem ready_lt {f : Nat → Bool} {i : Nat} (h : i ∈ readyT cellT1.2 (cellL f)) : i < 15 ∧ readyAt cellT1.2 (cellL f) i = true := by
  unfold readyT at h
  rw [List.mem_filter, List.mem_range] at h
  exact ⟨by simpa [cellT1] using h.1, h.2⟩
abbrev m50_0 : Array Bool := #[true, true, true, true, true, true, true, true, true, true, true, true, true, true, false]
abbrev m50_1 : Array Bool := #[true, false, false, true, false, false, false, false, true, false, false, false, false, false, false]
abbrev m50_2 : Array Bool := #[false, false, false, false, false, false, false, false, false, false, false, false, false, false, false]
abbrev m50_3 : Array Bool := #[true, false, false, false, false, false, false, false, false, false, false, false, false, false, false]
abbrev m50_4 : Array Bool := #[true, false, false, true, false, false, false, false, false, false, false, false, false, false, false]
abbrev m50_5 : Array Bool := #[true, true, true, true, true, true, true, true, true, true, true, true, true, true, true]
set_option maxHeartbeats 4000000 in
set_option maxRecDepth 100000 in
theorem cellReg {Q : Exit → Act → World → Prop} {k g gb : Nat} {s0 : List Int} {p0 p1 p2 p3 : Int} {x : ByteArray} {i j : Int} {w0 w : World} {a : Act}
  (HT : rtab .any (opsOf Tryd.f50 1) = cellT1) (ha : 18 < a.tmps.size) (h6 : a.eval (.tmp 6) = .pointer (some ⟨g, 0, none⟩)) (h9 : a.eval (.tmp 9) = .pointer (some ⟨g, 0, none⟩)) (h14 : a.eval (.tmp 14) = .pointer (some ⟨g, 0, none⟩)) (hgb : gb ≠ g)
  (A1 : spec_l20Text.f k s0 p0 = some (x, p1)) (A4 : spec_l20Rd_pick.f k s0 p1 6 = some (i, p2)) (A9 : spec_l20Rd_pick.f k s0 p2 6 = some (j, p3)) (i0 : 0 ≤ i) (i1 : i < 6) (j0 : 0 ≤ j) (j1 : j < 6)
  (hJ : ∀ (f : Nat → Bool) ν b8 b13 b5 W, cellN f = 0 → CellI g gb x i j w0 w f ν b8 b13 b5 W → IsS77 w0 W g s0 (cellP_ p0 p1 p2 p3 f) → wpAnyLast Tryd.prog .any (opsOf Tryd.f50 1) Q (fun _ => True) [] 1 (cellL f).toArray (ovl a ν) W) :
  ∀ (n : Nat) (f : Nat → Bool) ν b8 b13 b5 W, cellN f = n → CellI g gb x i j w0 w f ν b8 b13 b5 W → IsS77 w0 W g s0 (cellP_ p0 p1 p2 p3 f) → wpAnyLast Tryd.prog .any (opsOf Tryd.f50 1) Q (fun _ => True) [] (n + 1) (cellL f).toArray (ovl a ν) W := by
 intro n
 induction n with
 | zero => exact hJ
 | succ n ih =>
  intro f ν b8 b13 b5 W hn hC hI
  have hr : Region.ready .any (opsOf Tryd.f50 1) (cellL f).toArray = readyT cellT1.2 (cellL f) := by rw [ready_eq, HT]
  refine ⟨fun h => absurd (hr.symm.trans h) (fun h => cell_ready h (by omega)), fun q hq => ?_⟩
  rw [hr] at hq
  obtain ⟨hlt, hq⟩ := ready_lt hq
  have e6 : (ovl a ν).eval (.tmp 6) = .pointer (some ⟨g, 0, none⟩) := by rw [ovl_eval _ _ _ (by omega), hC.n 6 (by omega)]; exact h6
  have e9 : (ovl a ν).eval (.tmp 9) = .pointer (some ⟨g, 0, none⟩) := by rw [ovl_eval _ _ _ (by omega), hC.n 9 (by omega)]; exact h9
  have e14 : (ovl a ν).eval (.tmp 14) = .pointer (some ⟨g, 0, none⟩) := by rw [ovl_eval _ _ _ (by omega), hC.n 14 (by omega)]; exact h14
  have hcases : q = 0 ∨ q = 1 ∨ q = 2 ∨ q = 3 ∨ q = 4 ∨ q = 5 ∨ q = 6 ∨ q = 7 ∨ q = 8 ∨ q = 9 ∨ q = 10 ∨ q = 11 ∨ q = 12 ∨ q = 13 ∨ q = 14 := by omega
  have set_ : ∀ q, q < 14 → (cellL f).toArray.setIfInBounds q true = (cellL (upd f q)).toArray := by
   intro q hq
   have : q = 0 ∨ q = 1 ∨ q = 2 ∨ q = 3 ∨ q = 4 ∨ q = 5 ∨ q = 6 ∨ q = 7 ∨ q = 8 ∨ q = 9 ∨ q = 10 ∨ q = 11 ∨ q = 12 ∨ q = 13 := by omega
   rcases this with rfl | rfl | rfl | rfl | rfl | rfl | rfl | rfl | rfl | rfl | rfl | rfl | rfl | rfl <;> rfl
  rcases hcases with rfl | rfl | rfl | rfl | rfl | rfl | rfl | rfl | rfl | rfl | rfl | rfl | rfl | rfl | rfl
  ·simp [readyAt, cellT1, cellL] at hq
  ·have f1 : f 1 = false := by simpa [readyAt, cellT1, cellL] using hq
   have f4 : f 4 = false := by cases h : f 4 with | false => rfl | true => have := hC.c4 h; rw [f1] at this; cases this
   have f9 : f 9 = false := by cases h : f 9 with | false => rfl | true => have := hC.c9 h; rw [f4] at this; cases this
   have hI0 : IsS77 w0 W g s0 p0 := by simpa [cellP_, f1, f4, f9] using hI
   refine wpOp_step (o := _) rfl fun K' hK => ?_
   refine goes_ Tryd.func62 (by kernel_rfl) rfl #[.pointer (some ⟨g, 0, none⟩)] (by rfl) rfl rfl (by simp only [List.map_toArray, List.map_cons, List.map_nil, e6]) ?_
   refine (spec_l20Text.calls k g s0 p0 x p1 w0 _ hI0 hC.B A1).mono ?_
   rintro e W' ⟨rfl, hi, hb, hk⟩
   refine ⟨_, rfl, hK _ _ ⟨fun _ _ => trivial, ?_⟩⟩
   show wpAnyLast Tryd.prog .any (opsOf Tryd.f50 1) Q (fun _ => True) [] (n + 1) _ ((ovl a ν).put (some 7) _) _
   rw [set_ 1 (by omega), ovl_put]
   exact ih (upd f 1) _ b8 b13 b5 W' (by simp [cellN, upd, f1] at hn ⊢; omega) ((hC.move hk hgb hb).s1) (by simpa [cellP_, upd, f4, f9] using hi)
  ·have f2 : f 2 = false := by simpa [readyAt, cellT1, cellL] using hq
   have f5 : f 5 = false := by cases h : f 5 with | false => rfl | true => have := (hC.c5 h).1; rw [f2] at this; cases this
   refine wpOp_step (o := { dst := some 8, op := Go.Op.buildSlice 38 6 #[(0, Go.Operand.const (Go.Value.int Go.IntKind.i64 1)), (1, Go.Operand.const (Go.Value.int Go.IntKind.i64 1)), (2, Go.Operand.const (Go.Value.int Go.IntKind.i64 1)), (3, Go.Operand.const (Go.Value.int Go.IntKind.i64 2)), (4, Go.Operand.const (Go.Value.int Go.IntKind.i64 3)), (5, Go.Operand.const (Go.Value.int Go.IntKind.i64 4))], type := 38, pos := "l20_draw.go:154", after := #[], guard := none }) rfl fun K' hK => ?_
   refine event_step (v := .slice (some ⟨W.heap.size, 0, none⟩) 6 6) (w1 := W.alloc (.cells (cellA.map (Value.int .i64)).toArray 3 (0, 0))) rfl (by first | (go_simp; done) | (go_simp; rfl)) ?_
   refine hK _ _ ⟨fun _ _ => trivial, ?_⟩
   rw [set_ 2 (by omega), ovl_put]
   have hk := keep_new W g (.cells (cellA.map (Value.int .i64)).toArray 3 (0, 0))
   refine ih (upd f 2) _ W.heap.size b13 b5 _ (by simp [cellN, upd, f2] at hn ⊢; omega) (CellI.s2 (b8 := W.heap.size) ((hC.move hk hgb (below_alloc hC.B _)).b8' f2 f5) (blk_new W _) (Nat.ne_of_gt hI.lt)) (by simpa [cellP_, upd] using hI.alloc _)
  ·simp [readyAt, cellT1, cellL] at hq
  ·have ⟨f4, f1⟩ : f 4 = false ∧ f 1 = true := by simpa [readyAt, cellT1, cellL] using hq
   have f9 : f 9 = false := by cases h : f 9 with | false => rfl | true => have := hC.c9 h; rw [f4] at this; cases this
   have hI0 : IsS77 w0 W g s0 p1 := by simpa [cellP_, f1, f4, f9] using hI
   refine wpOp_step (o := _) rfl fun K' hK => ?_
   refine goes_ Tryd.func45 (by kernel_rfl) rfl #[.pointer (some ⟨g, 0, none⟩), .int .i64 6] (by rfl) rfl rfl (by simp only [List.map_toArray, List.map_cons, List.map_nil, e9]; rfl) ?_
   refine (spec_l20Rd_pick.calls k g s0 p1 6 i p2 w0 _ hI0 hC.B A4).mono ?_
   rintro e W' ⟨rfl, hi, hb, hk⟩
   refine ⟨_, rfl, hK _ _ ⟨fun _ _ => trivial, ?_⟩⟩
   show wpAnyLast Tryd.prog .any (opsOf Tryd.f50 1) Q (fun _ => True) [] (n + 1) _ ((ovl a ν).put (some 10) _) _
   rw [set_ 4 (by omega), ovl_put]
   exact ih (upd f 4) _ b8 b13 b5 W' (by simp [cellN, upd, f4] at hn ⊢; omega) ((hC.move hk hgb hb).s4 f1) (by simpa [cellP_, upd, f9] using hi)
  ·have ⟨f5, f2, f4⟩ : f 5 = false ∧ f 2 = true ∧ f 4 = true := by simpa [readyAt, cellT1, cellL] using hq
   have e8 : (ovl a ν).eval (.tmp 8) = .slice (some ⟨b8, 0, none⟩) 6 6 := by rw [ovl_eval _ _ _ (by omega), (hC.v2 f2).1]; rfl
   have e10 : (ovl a ν).eval (.tmp 10) = .int .i64 i := by rw [ovl_eval _ _ _ (by omega), hC.v4 f4]; rfl
   refine wpOp_step (o := { dst := some 11, op := Go.Op.indexAddr 38 (Go.Operand.tmp 8) (Go.Operand.tmp 10), type := 0, pos := "l20_draw.go:154", after := #[{ on := 2, ground := Go.Ground.data }, { on := 4, ground := Go.Ground.data }], guard := none }) rfl fun K' hK => ?_
   refine event_step (v := .pointer (some (Addr.add ⟨b8, 0, none⟩ i.toNat))) (w1 := W) rfl (idx_run rfl Tryd.underlying38 e8 e10 i0 i1) ?_
   refine hK _ _ ⟨fun _ _ => trivial, ?_⟩
   rw [set_ 5 (by omega), ovl_put]
   exact ih (upd f 5) _ b8 b13 b5 W (by simp [cellN, upd, f5] at hn ⊢; omega) (hC.s5 f2 f4) (by simpa [cellP_, upd] using hI)
  ·have ⟨f6, f5⟩ : f 6 = false ∧ f 5 = true := by simpa [readyAt, cellT1, cellL] using hq
   have e11 : (ovl a ν).eval (.tmp 11) = .pointer (some (Addr.add ⟨b8, 0, none⟩ i.toNat)) := by rw [ovl_eval _ _ _ (by omega), hC.v5 f5]; rfl
   have hc := rd_block (hC.v2 (hC.c5 f5).1).2.1 i0 (by simpa [cellA] using i1)
   refine wpOp_step (o := { dst := some 12, op := Go.Op.load 3 (Go.Operand.tmp 11), type := 3, pos := "l20_draw.go:154", after := #[{ on := 5, ground := Go.Ground.data }], guard := none }) rfl fun K' hK => ?_
   refine event_step (v := .int .i64 (rd cellA i)) (w1 := W) rfl (load_run rfl e11 hc) ?_
   refine hK _ _ ⟨fun _ _ => trivial, ?_⟩
   rw [set_ 6 (by omega), ovl_put]
   exact ih (upd f 6) _ b8 b13 b5 W (by simp [cellN, upd, f6] at hn ⊢; omega) (hC.s6 f5) (by simpa [cellP_, upd] using hI)
  ·have f7 : f 7 = false := by simpa [readyAt, cellT1, cellL] using hq
   have f10 : f 10 = false := by cases h : f 10 with | false => rfl | true => have := (hC.c10 h).1; rw [f7] at this; cases this
   refine wpOp_step (o := { dst := some 13, op := Go.Op.buildSlice 38 6 #[(0, Go.Operand.const (Go.Value.int Go.IntKind.i64 1)), (1, Go.Operand.const (Go.Value.int Go.IntKind.i64 1)), (2, Go.Operand.const (Go.Value.int Go.IntKind.i64 1)), (3, Go.Operand.const (Go.Value.int Go.IntKind.i64 1)), (4, Go.Operand.const (Go.Value.int Go.IntKind.i64 2)), (5, Go.Operand.const (Go.Value.int Go.IntKind.i64 3))], type := 38, pos := "l20_draw.go:154", after := #[], guard := none }) rfl fun K' hK => ?_
   refine event_step (v := .slice (some ⟨W.heap.size, 0, none⟩) 6 6) (w1 := W.alloc (.cells (cellB_.map (Value.int .i64)).toArray 3 (0, 0))) rfl (by first | (go_simp; done) | (go_simp; rfl)) ?_
   refine hK _ _ ⟨fun _ _ => trivial, ?_⟩
   rw [set_ 7 (by omega), ovl_put]
   have hk := keep_new W g (.cells (cellB_.map (Value.int .i64)).toArray 3 (0, 0))
   refine ih (upd f 7) _ b8 W.heap.size b5 _ (by simp [cellN, upd, f7] at hn ⊢; omega) (CellI.s7 (b13 := W.heap.size) ((hC.move hk hgb (below_alloc hC.B _)).b13' f7 f10) (blk_new W _) (Nat.ne_of_gt hI.lt)) (by simpa [cellP_, upd] using hI.alloc _)
  ·simp [readyAt, cellT1, cellL] at hq
  ·have ⟨f9, f4⟩ : f 9 = false ∧ f 4 = true := by simpa [readyAt, cellT1, cellL] using hq
   have hI0 : IsS77 w0 W g s0 p2 := by simpa [cellP_, f4, f9] using hI
   refine wpOp_step (o := _) rfl fun K' hK => ?_
   refine goes_ Tryd.func45 (by kernel_rfl) rfl #[.pointer (some ⟨g, 0, none⟩), .int .i64 6] (by rfl) rfl rfl (by simp only [List.map_toArray, List.map_cons, List.map_nil, e14]; rfl) ?_
   refine (spec_l20Rd_pick.calls k g s0 p2 6 j p3 w0 _ hI0 hC.B A9).mono ?_
   rintro e W' ⟨rfl, hi, hb, hk⟩
   refine ⟨_, rfl, hK _ _ ⟨fun _ _ => trivial, ?_⟩⟩
   show wpAnyLast Tryd.prog .any (opsOf Tryd.f50 1) Q (fun _ => True) [] (n + 1) _ ((ovl a ν).put (some 15) _) _
   rw [set_ 9 (by omega), ovl_put]
   exact ih (upd f 9) _ b8 b13 b5 W' (by simp [cellN, upd, f9] at hn ⊢; omega) ((hC.move hk hgb hb).s9 f4) (by simpa [cellP_, upd] using hi)
  ·have ⟨f10, f7, f9⟩ : f 10 = false ∧ f 7 = true ∧ f 9 = true := by simpa [readyAt, cellT1, cellL] using hq
   have e13 : (ovl a ν).eval (.tmp 13) = .slice (some ⟨b13, 0, none⟩) 6 6 := by rw [ovl_eval _ _ _ (by omega), (hC.v7 f7).1]; rfl
   have e15 : (ovl a ν).eval (.tmp 15) = .int .i64 j := by rw [ovl_eval _ _ _ (by omega), hC.v9 f9]; rfl
   refine wpOp_step (o := { dst := some 16, op := Go.Op.indexAddr 38 (Go.Operand.tmp 13) (Go.Operand.tmp 15), type := 0, pos := "l20_draw.go:154", after := #[{ on := 7, ground := Go.Ground.data }, { on := 9, ground := Go.Ground.data }], guard := none }) rfl fun K' hK => ?_
   refine event_step (v := .pointer (some (Addr.add ⟨b13, 0, none⟩ j.toNat))) (w1 := W) rfl (idx_run rfl Tryd.underlying38 e13 e15 j0 j1) ?_
   refine hK _ _ ⟨fun _ _ => trivial, ?_⟩
   rw [set_ 10 (by omega), ovl_put]
   exact ih (upd f 10) _ b8 b13 b5 W (by simp [cellN, upd, f10] at hn ⊢; omega) (hC.s10 f7 f9) (by simpa [cellP_, upd] using hI)
  ·have ⟨f11, f10⟩ : f 11 = false ∧ f 10 = true := by simpa [readyAt, cellT1, cellL] using hq
   have e16 : (ovl a ν).eval (.tmp 16) = .pointer (some (Addr.add ⟨b13, 0, none⟩ j.toNat)) := by rw [ovl_eval _ _ _ (by omega), hC.v10 f10]; rfl
   have hc := rd_block (hC.v7 (hC.c10 f10).1).2.1 j0 (by simpa [cellB_] using j1)
   refine wpOp_step (o := { dst := some 17, op := Go.Op.load 3 (Go.Operand.tmp 16), type := 3, pos := "l20_draw.go:154", after := #[{ on := 10, ground := Go.Ground.data }], guard := none }) rfl fun K' hK => ?_
   refine event_step (v := .int .i64 (rd cellB_ j)) (w1 := W) rfl (load_run rfl e16 hc) ?_
   refine hK _ _ ⟨fun _ _ => trivial, ?_⟩
   rw [set_ 11 (by omega), ovl_put]
   exact ih (upd f 11) _ b8 b13 b5 W (by simp [cellN, upd, f11] at hn ⊢; omega) (hC.s11 f10) (by simpa [cellP_, upd] using hI)
  ·have ⟨f12, f1, f6, f11⟩ : f 12 = false ∧ f 1 = true ∧ f 6 = true ∧ f 11 = true := by simpa [readyAt, cellT1, cellL] using hq
   have e7 : (ovl a ν).eval (.tmp 7) = .string x := by rw [ovl_eval _ _ _ (by omega), hC.v1 f1]; rfl
   have e12 : (ovl a ν).eval (.tmp 12) = .int .i64 (rd cellA i) := by rw [ovl_eval _ _ _ (by omega), hC.v6 f6]; rfl
   have e17 : (ovl a ν).eval (.tmp 17) = .int .i64 (rd cellB_ j) := by rw [ovl_eval _ _ _ (by omega), hC.v11 f11]; rfl
   refine wpOp_step (o := { dst := some 18, op := Go.Op.build 61 #[(0, Go.Operand.tmp 7), (1, Go.Operand.tmp 12), (2, Go.Operand.tmp 17)], type := 61, pos := "l20_draw.go:154", after := #[{ on := 1, ground := Go.Ground.data }, { on := 6, ground := Go.Ground.data }, { on := 11, ground := Go.Ground.data }], guard := none }) rfl fun K' hK => ?_
   refine event_step (v := .agg #[.string x, .int .i64 (rd cellA i), .int .i64 (rd cellB_ j), .int .i64 0, .int .i64 0, .int .i64 0, .int .i64 0, .int .i64 0, .int .i64 0, .int .i64 0, .int .i64 0]) (w1 := W) rfl (build_run rfl e7 e12 e17) ?_
   refine hK _ _ ⟨fun _ _ => trivial, ?_⟩
   rw [set_ 12 (by omega), ovl_put]
   exact ih (upd f 12) _ b8 b13 b5 W (by simp [cellN, upd, f12] at hn ⊢; omega) (hC.s12 f1 f6 f11) (by simpa [cellP_, upd] using hI)
  ·have f13 : f 13 = false := by simpa [readyAt, cellT1, cellL] using hq
   refine wpOp_step (o := { dst := some 5, op := Go.Op.alloc 61, type := 0, pos := "l20_draw.go:154", after := #[], guard := none }) rfl fun K' hK => ?_
   refine event_step (v := .pointer (some ⟨W.heap.size, 0, none⟩)) (w1 := W.alloc cellZ) rfl (by first | (go_simp; done) | (go_simp; rfl)) ?_
   refine hK _ _ ⟨fun _ _ => trivial, ?_⟩
   rw [set_ 13 (by omega), ovl_put]
   have hk := keep_new W g cellZ
   refine ih (upd f 13) _ b8 b13 W.heap.size _ (by simp [cellN, upd, f13] at hn ⊢; omega) (CellI.s13 (b5 := W.heap.size) ((hC.move hk hgb (below_alloc hC.B _)).b5' f13) (blk_new W _) hC.K.1 (Nat.le_trans hC.B.size (Nat.le_refl _)) (Nat.ne_of_gt hI.lt) (Nat.ne_of_gt (blk_lt hC.z))) (by simpa [cellP_, upd] using hI.alloc _)
  ·have : f 1 = true ∧ f 2 = true ∧ f 4 = true ∧ f 5 = true ∧ f 6 = true ∧ f 7 = true ∧ f 9 = true ∧ f 10 = true ∧ f 11 = true ∧ f 12 = true ∧ f 13 = true := by
    simp [readyAt, cellT1, cellL] at hq
    simp [hq]
   obtain ⟨g1, g2, g4, g5, g6, g7, g9, g10, g11, g12, g13⟩ := this
   simp [cellN, g1, g2, g4, g5, g6, g7, g9, g10, g11, g12, g13] at hn
theorem cellFin {g gb : Nat} {x : ByteArray} {i j : Int} {w0 w : World} {f : Nat → Bool} {ν : Nat → Option Value} {b8 b13 b5 : Nat} {W : World} (a : Act) (h : CellI g gb x i j w0 w f ν b8 b13 b5 W) (hn : cellN f = 0) :
  (cellL f).toArray = m50_0 ∧ f 13 = true ∧ f 9 = true ∧
  ovl a ν = putAll a [(7, .string x), (8, .slice (some ⟨b8, 0, none⟩) 6 6), (10, .int .i64 i), (12, .int .i64 (rd cellA i)), (13, .slice (some ⟨b13, 0, none⟩) 6 6), (15, .int .i64 j), (17, .int .i64 (rd cellB_ j)), (5, .pointer (some ⟨b5, 0, none⟩)), (11, .pointer (some (Addr.add ⟨b8, 0, none⟩ i.toNat))), (16, .pointer (some (Addr.add ⟨b13, 0, none⟩ j.toNat))), (18, .agg #[.string x, .int .i64 (rd cellA i), .int .i64 (rd cellB_ j), .int .i64 0, .int .i64 0, .int .i64 0, .int .i64 0, .int .i64 0, .int .i64 0, .int .i64 0, .int .i64 0])] := by
 have hf : ∀ q, q = 1 ∨ q = 2 ∨ q = 4 ∨ q = 5 ∨ q = 6 ∨ q = 7 ∨ q = 9 ∨ q = 10 ∨ q = 11 ∨ q = 12 ∨ q = 13 → f q = true := by
  intro q hq
  cases hfq : f q with
  | true => rfl
  | false =>
   unfold cellN at hn
   rcases hq with rfl | rfl | rfl | rfl | rfl | rfl | rfl | rfl | rfl | rfl | rfl <;> simp [hfq] at hn
 have h1 := hf 1 (by omega)
 have h2 := hf 2 (by omega)
 have h4 := hf 4 (by omega)
 have h5 := hf 5 (by omega)
 have h6 := hf 6 (by omega)
 have h7 := hf 7 (by omega)
 have h9 := hf 9 (by omega)
 have h10 := hf 10 (by omega)
 have h11 := hf 11 (by omega)
 have h12 := hf 12 (by omega)
 have h13 := hf 13 (by omega)
 refine ⟨by simp [cellL, h1, h2, h4, h5, h6, h7, h9, h10, h11, h12, h13], h13, h9, ?_⟩
 rw [putAll_ovl]
 congr 1
 funext q
 by_cases hq : q = 5 ∨ q = 7 ∨ q = 8 ∨ q = 10 ∨ q = 11 ∨ q = 12 ∨ q = 13 ∨ q = 15 ∨ q = 16 ∨ q = 17 ∨ q = 18
 ·rcases hq with rfl | rfl | rfl | rfl | rfl | rfl | rfl | rfl | rfl | rfl | rfl
  ·rw [(h.v13 h13).1]; rfl
  ·rw [h.v1 h1]; rfl
  ·rw [(h.v2 h2).1]; rfl
  ·rw [h.v4 h4]; rfl
  ·rw [h.v5 h5]; rfl
  ·rw [h.v6 h6]; rfl
  ·rw [(h.v7 h7).1]; rfl
  ·rw [h.v9 h9]; rfl
  ·rw [h.v10 h10]; rfl
  ·rw [h.v11 h11]; rfl
  ·rw [h.v12 h12]; rfl
 ·rw [h.n q hq]
  simp only [not_or] at hq
  simp [lkp, hq]
theorem cellGo {Q : Exit → Act → World → Prop} {k g gb : Nat} {s0 : List Int} {p0 p1 p2 p3 : Int} {x : ByteArray} {i j : Int} {w0 w W : World} {a : Act}
  (HT : rtab .any (opsOf Tryd.f50 1) = cellT1) (ha : 18 < a.tmps.size) (h6 : a.eval (.tmp 6) = .pointer (some ⟨g, 0, none⟩)) (h9 : a.eval (.tmp 9) = .pointer (some ⟨g, 0, none⟩)) (h14 : a.eval (.tmp 14) = .pointer (some ⟨g, 0, none⟩)) (hgb : gb ≠ g)
  (A1 : spec_l20Text.f k s0 p0 = some (x, p1)) (A4 : spec_l20Rd_pick.f k s0 p1 6 = some (i, p2)) (A9 : spec_l20Rd_pick.f k s0 p2 6 = some (j, p3)) (i0 : 0 ≤ i) (i1 : i < 6) (j0 : 0 ≤ j) (j1 : j < 6)
  (hz : W.heap[gb]? = some cellZ) (hI : IsS77 w0 W g s0 p0) (hK : KeepBut w W g none) (hB : Below w0.heap.size w0 W)
  (hJ : ∀ b8 b13 b5 W', W'.heap[gb]? = some cellZ → W'.heap[b5]? = some cellZ → w.heap.size ≤ b5 → w0.heap.size ≤ b5 → b5 ≠ g → b5 ≠ gb → IsS77 w0 W' g s0 p3 → KeepBut w W' g none → Below w0.heap.size w0 W' → wpAnyLast Tryd.prog .any (opsOf Tryd.f50 1) Q (fun _ => True) [] 1 m50_0 (putAll a [(7, .string x), (8, .slice (some ⟨b8, 0, none⟩) 6 6), (10, .int .i64 i), (12, .int .i64 (rd cellA i)), (13, .slice (some ⟨b13, 0, none⟩) 6 6), (15, .int .i64 j), (17, .int .i64 (rd cellB_ j)), (5, .pointer (some ⟨b5, 0, none⟩)), (11, .pointer (some (Addr.add ⟨b8, 0, none⟩ i.toNat))), (16, .pointer (some (Addr.add ⟨b13, 0, none⟩ j.toNat))), (18, .agg #[.string x, .int .i64 (rd cellA i), .int .i64 (rd cellB_ j), .int .i64 0, .int .i64 0, .int .i64 0, .int .i64 0, .int .i64 0, .int .i64 0, .int .i64 0, .int .i64 0])]) W') :
  wpAnyLast Tryd.prog .any (opsOf Tryd.f50 1) Q (fun _ => True) [] 12 m50_1 a W := by
 have H := cellReg (Q := Q) (w := w) HT ha h6 h9 h14 hgb A1 A4 A9 i0 i1 j0 j1 (fun f ν b8 b13 b5 W' hn hC hI' => by
  obtain ⟨e1, f13, f9, e2⟩ := cellFin a hC hn
  rw [e1, e2]
  obtain ⟨_, m2, m3, m4, m5, m6⟩ := hC.v13 f13
  exact hJ b8 b13 b5 W' hC.z m2 m3 m4 m5 m6 (by simpa [cellP_, f9] using hI') hC.K hC.B) 11 (fun _ => false) (fun _ => none) 0 0 0 W rfl
  { n := fun _ _ => rfl, v1 := fun e => (by cases e), v2 := fun e => (by cases e), v4 := fun e => (by cases e), v5 := fun e => (by cases e), v6 := fun e => (by cases e), v7 := fun e => (by cases e), v9 := fun e => (by cases e), v10 := fun e => (by cases e), v11 := fun e => (by cases e), v12 := fun e => (by cases e), v13 := fun e => (by cases e), c4 := fun e => (by cases e), c5 := fun e => (by cases e), c6 := fun e => (by cases e), c9 := fun e => (by cases e), c10 := fun e => (by cases e), c11 := fun e => (by cases e), c12 := fun e => (by cases e), z := hz, K := hK, B := hB } (by simpa [cellP_] using hI)
 rw [ovl_none] at H
 exact H
theorem bj50_ {b : Nat} {w W W' : World} (h : Below b w W) (e : Below b w W → Below b w W' := by intro h_; repeat (first | (with_reducible first | exact h_ | apply below_alloc | apply pw_below_drewN | apply below_drew1 | refine below_set ?_ (Aside0.out (by assumption)) | refine below_set ?_ (IsS77.ge (Aside0.out (by assumption)))) | exact h_)) : Below b w W' := e h
theorem is50_ {p q : Prop} (h : p) (e : p → q := by intro h_; repeat (first | (with_reducible first | exact h_ | apply IsS77.alloc | apply IsS77.drew | apply IsS77.drewN | apply IsS77.set_1 | refine IsS77.far ?_ (Aside0.out (by assumption)) _) | exact h_)) : q := e h
abbrev qb50 := @Aside0.mk
abbrev qc50 := @KeepBut.blk
abbrev qi50 := @KeepBut.trans
abbrev qd50 := @blk_alloc
abbrev qg50 := @blk_drew
abbrev qe50 := @blk_drewN
abbrev qa50 := @blk_frozen
set_option maxHeartbeats 8000000 in
set_option maxRecDepth 100000 in
theorem spec_l20Cell.calls (k : Nat) (g : Nat) (s0_0 : List Int) (s0_1 : Int) (a1 : Int) (r1 : ByteArray) (r2 : Int) (r3 : Int) (r4 : Int) (r5 : Int) (r6 : Int) (r7 : Int) (r8 : Int) (r9 : Int) (r10 : Int) (r11 : Int) (r12 : Int) (w0 w : World) (hI : IsS77 w0 w g s0_0 s0_1) (hB : Below w0.heap.size w0 w) (h : spec_l20Cell.f k s0_0 s0_1 a1 = some (r1, r2, r3, r4, r5, r6, r7, r8, r9, r10, r11, r12)) :
  Calls Tryd.prog 50 #[.pointer (some ⟨g, 0, none⟩), .int .i64 a1] w fun e w' => e = .returned (.agg #[.string r1, .int .i64 r2, .int .i64 r3, .int .i64 r4, .int .i64 r5, .int .i64 r6, .int .i64 r7, .int .i64 r8, .int .i64 r9, .int .i64 r10, .int .i64 r11]) ∧ IsS77 w0 w' g s0_0 r12 ∧ Below w0.heap.size w0 w' ∧ KeepBut w w' g none := by
 have hu61 := Tryd.underlying61;have hu59 := Tryd.underlying59;have HI0 := qb50 hI;have HK := qb50 (KeepBut.refl w g none);have HL := qb50 hB.size;clear hI;have HW0 := qb50 hB.size;have HB := qb50 hB;clear hB;have H := h;unfold spec_l20Cell.f at H;clear h;obtain ⟨⟨ay, ef⟩, A3, H⟩ := ob_ H;(try dsimp only at H);obtain ⟨y180, aY⟩ : ∃ y_ : List Int, y_ = (([1, 1, 1, 2, 3, 4] : List Int)) := ⟨_, rfl⟩;(replace H : ((spec_l20Rd_pick.f k s0_0 ef 6).bind fun bt183 => (if 0 ≤ bt183.1 then (if bt183.1 < (y180.length : Int) then ((some (([1, 1, 1, 1, 2, 3] : List Int) : List Int)).bind fun y186 => ((spec_l20Rd_pick.f k s0_0 bt183.2 6).bind fun bt189 => (if 0 ≤ bt189.1 then (if bt189.1 < (y186.length : Int) then ((spec_l20Brd.f k s0_0 bt189.2 999).bind fun bt193 => ((spec_l20Brd.f k s0_0 bt193.2.2 999).bind fun bt196 => ((spec_l20Brd.f k s0_0 bt196.2.2 999).bind fun bt199 => ((spec_l20Brd.f k s0_0 bt199.2.2 999).bind fun bt202 => (if (s0_0.length : Int) = 0 then (spec_l20Cell.j0 k a1 s0_0 bt202.2.2 (⟨#[]⟩ : ByteArray) 1 1 0 0 0 0 0 0 0 0) else (spec_l20Cell.j0 k a1 s0_0 bt202.2.2 ay (rd y180 bt183.1) (rd y186 bt189.1) bt193.1 bt193.2.1 bt196.1 bt196.2.1 bt199.1 bt199.2.1 bt202.1 bt202.2.1)))))) else (none)) else (none)))) else (none)) else (none))) = some (r1, r2, r3, r4, r5, r6, r7, r8, r9, r10, r11, r12) := hb_ aY H);have bo := qb50 aY;clear aY;obtain ⟨⟨au, fh⟩, A4, H⟩ := ob_ H;(try dsimp only at H);by_cases c5 : 0 ≤ au
 ·rw [if_pos c5] at H;have c5b0 : decide (0 ≤ au) = true := decide_eq_true c5;clear c5;by_cases c6 : au < (y180.length : Int)
  ·rw [if_pos c6] at H;have c6b0 : decide (au < (y180.length : Int)) = true := decide_eq_true c6;clear c6;obtain ⟨y186, aX⟩ : ∃ y_ : List Int, y_ = (([1, 1, 1, 1, 2, 3] : List Int)) := ⟨_, rfl⟩;(replace H : ((spec_l20Rd_pick.f k s0_0 fh 6).bind fun bt189 => (if 0 ≤ bt189.1 then (if bt189.1 < (y186.length : Int) then ((spec_l20Brd.f k s0_0 bt189.2 999).bind fun bt193 => ((spec_l20Brd.f k s0_0 bt193.2.2 999).bind fun bt196 => ((spec_l20Brd.f k s0_0 bt196.2.2 999).bind fun bt199 => ((spec_l20Brd.f k s0_0 bt199.2.2 999).bind fun bt202 => (if (s0_0.length : Int) = 0 then (spec_l20Cell.j0 k a1 s0_0 bt202.2.2 (⟨#[]⟩ : ByteArray) 1 1 0 0 0 0 0 0 0 0) else (spec_l20Cell.j0 k a1 s0_0 bt202.2.2 ay (rd y180 au) (rd y186 bt189.1) bt193.1 bt193.2.1 bt196.1 bt196.2.1 bt199.1 bt199.2.1 bt202.1 bt202.2.1)))))) else (none)) else (none))) = some (r1, r2, r3, r4, r5, r6, r7, r8, r9, r10, r11, r12) := hb_ aX H);have br := qb50 aX;clear aX;obtain ⟨⟨av, bk⟩, A7, H⟩ := ob_ H;(try dsimp only at H);by_cases c8 : 0 ≤ av
   ·rw [if_pos c8] at H;have c8b0 : decide (0 ≤ av) = true := decide_eq_true c8;clear c8;by_cases c9 : av < (y186.length : Int)
    ·rw [if_pos c9] at H;have c9b0 : decide (av < (y186.length : Int)) = true := decide_eq_true c9;clear c9;obtain ⟨⟨aC, aB, dF⟩, A10, H⟩ := ob_ H;(try dsimp only at H);obtain ⟨⟨aG, aF, dD⟩, A11, H⟩ := ob_ H;(try dsimp only at H);obtain ⟨⟨aH, aI, dm⟩, A12, H⟩ := ob_ H;(try dsimp only at H);obtain ⟨⟨aM, aO, aS⟩, A13, H⟩ := ob_ H;(try dsimp only at H);have bn := qb50 H;clear H;go_enter Tryd.func50, Tryd.ntmps50;(try go_wp2_with (first | ((with_reducible refine gate_dst (N := 4) rfl ?_); refine bx_ 4 #[.string (⟨#[]⟩ : ByteArray), .int .i64 0, .int .i64 0, .int .i64 0, .int .i64 0, .int .i64 0, .int .i64 0, .int .i64 0, .int .i64 0, .int .i64 0, .int .i64 0] 61 ?_; intro aq hg w15 hbox hb; have n0_ := qb50 (IsS77.below HI0.out hb); have n1_ := qb50 (qi50 HK.out (KeepBut.of_below hb g none) (.inl rfl)); have n2_ := qb50 (below_step HB.out hb); have n3_ := qb50 (hbox); have n4_ := qb50 ((sz_ (keep_size HK.out) hg : w.heap.size ≤ aq)); have n5_ := qb50 (Nat.le_trans HW0.out n4_.out); have n6_ := qb50 ((nl_ (IsS77.lt (show IsS77 w0 _ g s0_0 s0_1 from HI0.out)) hg : g ≠ aq)); have n7_ := qb50 (Ne.symm n6_.out); replace HI0 := n0_; replace HK := n1_; replace HB := n2_; have ab := n3_; have aK := n4_; have aL := n5_; have az := n6_; have ar := n7_; clear n0_ n1_ n2_ n3_ n4_ n5_ n6_ n7_; clear hb hbox hg)));have dH : (0 ≤ (au : Int)) = True := eq_true dq_;have qi185 : (au < (y180.length : Int)) = True := eq_true dq_;have dR : (0 ≤ (av : Int)) = True := eq_true dq_;have qi191 : (av < (y186.length : Int)) = True := eq_true dq_;have n0_ := qb50 (qg50 ab.out);have n1_ := qb50 (IsS77.drew HI0.out);have n2_ := qb50 (keep_drew HK.out);have n3_ := qb50 (below_drew1 HB.out);replace ab := n0_;replace HI0 := n1_;replace HK := n2_;replace HB := n3_;clear n0_ n1_ n2_ n3_;refine start_ (n := 15) (S := fun w' => True) (ds := []) m50_2 (by kernel_rfl) rfl rfl trivial (fun hHeld => ?_); refine with_tabW spec_l20Cell.tab1 spec_l20Cell.bits1 (fun HT_ HW_ => ?_);generalize w15.drew = w16 at ab HI0 HK HB hHeld ⊢;refine pv_ 0 6 m50_3 HT_ ?_
     refine pv_ 3 9 m50_4 HT_ ?_;refine pv_ 8 14 m50_1 HT_ ?_;refine join_ (σ := Value × Addr × Value × Addr × Nat) 1 m50_0 (fun s_ => [(7, .string ay), (8, s_.1), (10, .int .i64 au), (12, .int .i64 (rd y180 au)), (13, s_.2.2.1), (15, .int .i64 av), (17, .int .i64 (rd y186 av)), (5, .pointer (some ⟨s_.2.2.2.2, 0, none⟩)), (11, .pointer (some (s_.2.1.add (au).toNat))), (16, .pointer (some (s_.2.2.2.1.add (av).toNat))), (18, .agg #[.string ay, .int .i64 (rd y180 au), .int .i64 (rd y186 av), .int .i64 0, .int .i64 0, .int .i64 0, .int .i64 0, .int .i64 0, .int .i64 0, .int .i64 0, .int .i64 0])]) (fun s_ w' => (w'.heap[aq]? = some (.cells #[.string (⟨#[]⟩ : ByteArray), .int .i64 0, .int .i64 0, .int .i64 0, .int .i64 0, .int .i64 0, .int .i64 0, .int .i64 0, .int .i64 0, .int .i64 0, .int .i64 0] 61 (0, 0))) ∧ (w'.heap[s_.2.2.2.2]? = some (.cells #[.string (⟨#[]⟩ : ByteArray), .int .i64 0, .int .i64 0, .int .i64 0, .int .i64 0, .int .i64 0, .int .i64 0, .int .i64 0, .int .i64 0, .int .i64 0, .int .i64 0] 61 (0, 0))) ∧ (w.heap.size ≤ s_.2.2.2.2) ∧ (w0.heap.size ≤ s_.2.2.2.2) ∧ (g ≠ s_.2.2.2.2) ∧ (s_.2.2.2.2 ≠ g) ∧ (aq ≠ s_.2.2.2.2) ∧ (s_.2.2.2.2 ≠ aq) ∧ (IsS77 w0 w' g s0_0 bk) ∧ (KeepBut w w' g none) ∧ (Below w0.heap.size w0 w')) ?_ ?_;rotate_left;(·intro hJ_;refine cellGo (k := k) (w := w) HT_.out ?_ rfl rfl rfl ar.out A3.out A4.out A7.out (of_eq_true dH) ?_ (of_eq_true dR) ?_ ab.out HI0.out HK.out HB.out (fun b8 b13 b5 W' h1 h2 h3 h4 h5 h6 h7 h8 h9 => ?_);(·show 18 < 70; omega);(·have h_ := of_eq_true qi185; rw [bo.out] at h_; simpa using h_);(·have h_ := of_eq_true qi191; rw [br.out] at h_; simpa using h_);have H_ := hJ_ (.slice (some ⟨b8, 0, none⟩) 6 6, ⟨b8, 0, none⟩, .slice (some ⟨b13, 0, none⟩) 6 6, ⟨b13, 0, none⟩, b5) W' ⟨h1, h2, h3, h4, Ne.symm h5, h5, Ne.symm h6, h6, h7, h8, h9⟩;rw [bo.out, br.out] at H_;exact H_);rintro ⟨v181, fD, v187, fL, aw⟩ w27 ⟨h4_, h5_, h6_, h7_, h8_, h9_, du, dw, dp, dB, dA⟩;have n4_ : Aside0 (w27.heap[aq]? = some (.cells #[.string (⟨#[]⟩ : ByteArray), .int .i64 0, .int .i64 0, .int .i64 0, .int .i64 0, .int .i64 0, .int .i64 0, .int .i64 0, .int .i64 0, .int .i64 0, .int .i64 0] 61 (0, 0))) := ⟨h4_⟩;have n5_ : Aside0 (w27.heap[aw]? = some (.cells #[.string (⟨#[]⟩ : ByteArray), .int .i64 0, .int .i64 0, .int .i64 0, .int .i64 0, .int .i64 0, .int .i64 0, .int .i64 0, .int .i64 0, .int .i64 0, .int .i64 0] 61 (0, 0))) := ⟨h5_⟩;have n6_ : Aside0 (w.heap.size ≤ aw) := ⟨h6_⟩;have n7_ : Aside0 (w0.heap.size ≤ aw) := ⟨h7_⟩
     have n8_ : Aside0 (g ≠ aw) := ⟨h8_⟩;have n9_ : Aside0 (aw ≠ g) := ⟨h9_⟩;have dv : Aside0 (aq ≠ aw) := ⟨du⟩;have dy : Aside0 (aw ≠ aq) := ⟨dw⟩;have dt : Aside0 (IsS77 w0 w27 g s0_0 bk) := ⟨dp⟩;have dk : Aside0 (KeepBut w w27 g none) := ⟨dB⟩;have dj : Aside0 (Below w0.heap.size w0 w27) := ⟨dA⟩;clear h4_ h5_ h6_ h7_ h8_ h9_ du dw dp dB dA;replace ab := n4_;have aa := n5_;have aJ := n6_;have aN := n7_;have ax := n8_;have ao := n9_;have ai := dv;have ap := dy;replace HI0 := dt;replace HK := dk;replace HB := dj;clear n4_ n5_ n6_ n7_ n8_ n9_ dv dy dt dk dj;have hHeld := trivial;refine norm_ (a' := ?_) ?_ ?_;rotate_left;(·simp only [putAll, Act.put, qa_, qb_, qc_];rfl);refine one_ (i := 14) (N := none) m50_5 rfl rfl (one_of HT_.out (by kernel_rfl)) (by decide) (fun K hK => ?_);have hs30 := bq_ aa.out 0 rfl;have hfs30 := qa50 aa.out 0;have hX := ai.out;have jo := ap.out;have hs31 := bq_ aa.out 1 rfl;have hfs31 := qa50 aa.out 1;have gC := ai.out;have gP := ap.out;have hs32 := bq_ aa.out 2 rfl;have hfs32 := qa50 aa.out 2;have jz := ai.out;have gn := ap.out;have hs33 := bq_ aa.out 3 rfl;have hfs33 := qa50 aa.out 3;have gt := ai.out;have ga := ap.out;have hs34 := bq_ aa.out 4 rfl;have hfs34 := qa50 aa.out 4;have gY := ai.out;have hh := ap.out;have hs35 := bq_ aa.out 5 rfl;have hfs35 := qa50 aa.out 5;have hW := ai.out;have gR := ap.out;have hs36 := bq_ aa.out 6 rfl;have hfs36 := qa50 aa.out 6;have jM := ai.out;have jc := ap.out;have hs37 := bq_ aa.out 7 rfl;have hfs37 := qa50 aa.out 7;have gs := ai.out;have g0 := ap.out;have hs38 := bq_ aa.out 8 rfl;have hfs38 := qa50 aa.out 8;have jX := ai.out;have hF := ap.out;have hs39 := bq_ aa.out 9 rfl;have hfs39 := qa50 aa.out 9;have gr := ai.out;have ja := ap.out;have hs40 := bq_ aa.out 10 rfl;have hfs40 := qa50 aa.out 10;have jF := ai.out;have gK := ap.out;refine skip_ (w1 := ?_) (by rfl) rfl ?_ ?_;rotate_left;(·go_simp;rfl);refine hK.out _ _ trivial (fun hHeld => ?_);clear hK K;refine done_ (done_of HT_.out (by kernel_rfl)) ?_
     go_upto_if 36 with (first | ((with_reducible refine gate_callee (f := 63) rfl ?_); refine gl_ (some 20) Tryd.func63 #[.pointer (some ⟨g, 0, none⟩), .int .i64 999] ?_; (with_reducible refine (spec_l20Brd.calls k g s0_0 bk 999 aC aB dF w0 _ ?side1 ?side2 A10.out).mono ?_); (case side1 => exact is50_ HI0.out); (case side2 => exact bj50_ HB.out); rintro e w41 ⟨rfl, hi, hb, hk⟩; refine ⟨_, rfl, ?_⟩; have n0_ := qb50 (qc50 hk (g' := aq) (o := .cells #[.string (⟨#[]⟩ : ByteArray), .int .i64 0, .int .i64 0, .int .i64 0, .int .i64 0, .int .i64 0, .int .i64 0, .int .i64 0, .int .i64 0, .int .i64 0, .int .i64 0] 61 (0, 0)) (by (with_reducible repeat (first | apply qe50 | apply qg50 | apply qd50)); (iterate 11 refine blk_far ?_ ai.out _); exact kb_ ab.out) ar.out (by simp)); have n3_ := qb50 (qc50 hk (g' := aw) (o := .cells #[.string ay, .int .i64 (rd y180 au), .int .i64 (rd y186 av), .int .i64 0, .int .i64 0, .int .i64 0, .int .i64 0, .int .i64 0, .int .i64 0, .int .i64 0, .int .i64 0] 61 (0, 0)) (by (with_reducible repeat (first | apply qe50 | apply qg50 | apply qd50)); apply bp11_; exact kb_ aa.out) ao.out (by simp)); have n4_ := qb50 (qi50 (kk_ HK.out) hk (.inl rfl)); have n5_ := qb50 (hb); have n6_ := qb50 (hi); replace ab := n0_; replace aa := n3_; replace HK := n4_; replace HB := n5_; replace HI0 := n6_; clear n0_ n3_ n4_ n5_ n6_; (try clear hb hk hi); have hnb42 := ap.out; have hnc42 := ai.out; have hnb43 := ao.out; have hnc43 := ax.out; have bY := c11_ aa.out) | ((with_reducible refine gate_callee (f := 63) rfl ?_); refine gl_ (some 23) Tryd.func63 #[.pointer (some ⟨g, 0, none⟩), .int .i64 999] ?_; (with_reducible refine (spec_l20Brd.calls k g s0_0 dF 999 aG aF dD w0 _ ?side1 ?side2 A11.out).mono ?_); (case side1 => exact is50_ HI0.out); (case side2 => exact bj50_ HB.out); rintro e w45 ⟨rfl, hi, hb, hk⟩; refine ⟨_, rfl, ?_⟩; have n0_ := qb50 (qc50 hk (g' := aq) (o := .cells #[.string (⟨#[]⟩ : ByteArray), .int .i64 0, .int .i64 0, .int .i64 0, .int .i64 0, .int .i64 0, .int .i64 0, .int .i64 0, .int .i64 0, .int .i64 0, .int .i64 0] 61 (0, 0)) (kf_ ab.out) ar.out (by simp)); have n3_ := qb50 (qc50 hk (g' := aw) (o := .cells #[.string ay, .int .i64 (rd y180 au), .int .i64 (rd y186 av), .int .i64 aC, .int .i64 aB, .int .i64 0, .int .i64 0, .int .i64 0, .int .i64 0, .int .i64 0, .int .i64 0] 61 (0, 0)) (kf_ aa.out) ao.out (by simp)); have n4_ := qb50 (qi50 (kk_ HK.out) hk (.inl rfl)); have n5_ := qb50 (hb); have n6_ := qb50 (hi); replace ab := n0_; replace aa := n3_; replace HK := n4_; replace HB := n5_; replace HI0 := n6_; clear n0_ n3_ n4_ n5_ n6_; (try clear hb hk hi); have c2 := c11_ aa.out) | ((with_reducible refine gate_callee (f := 63) rfl ?_); refine gl_ (some 26) Tryd.func63 #[.pointer (some ⟨g, 0, none⟩), .int .i64 999] ?_; (with_reducible refine (spec_l20Brd.calls k g s0_0 dD 999 aH aI dm w0 _ ?side1 ?side2 A12.out).mono ?_); (case side1 => exact is50_ HI0.out); (case side2 => exact bj50_ HB.out); rintro e w47 ⟨rfl, hi, hb, hk⟩; refine ⟨_, rfl, ?_⟩; have n0_ := qb50 (qc50 hk (g' := aq) (o := .cells #[.string (⟨#[]⟩ : ByteArray), .int .i64 0, .int .i64 0, .int .i64 0, .int .i64 0, .int .i64 0, .int .i64 0, .int .i64 0, .int .i64 0, .int .i64 0, .int .i64 0] 61 (0, 0)) (kf_ ab.out) ar.out (by simp)); have n3_ := qb50 (qc50 hk (g' := aw) (o := .cells #[.string ay, .int .i64 (rd y180 au), .int .i64 (rd y186 av), .int .i64 aC, .int .i64 aB, .int .i64 aG, .int .i64 aF, .int .i64 0, .int .i64 0, .int .i64 0, .int .i64 0] 61 (0, 0)) (kf_ aa.out) ao.out (by simp)); have n4_ := qb50 (qi50 (kk_ HK.out) hk (.inl rfl)); have n5_ := qb50 (hb); have n6_ := qb50 (hi); replace ab := n0_; replace aa := n3_; replace HK := n4_; replace HB := n5_; replace HI0 := n6_; clear n0_ n3_ n4_ n5_ n6_; (try clear hb hk hi); have cq := c11_ aa.out) | ((with_reducible refine gate_callee (f := 63) rfl ?_); refine gl_ (some 29) Tryd.func63 #[.pointer (some ⟨g, 0, none⟩), .int .i64 999] ?_; (with_reducible refine (spec_l20Brd.calls k g s0_0 dm 999 aM aO aS w0 _ ?side1 ?side2 A13.out).mono ?_); (case side1 => exact is50_ HI0.out); (case side2 => exact bj50_ HB.out); rintro e w49 ⟨rfl, hi, hb, hk⟩; refine ⟨_, rfl, ?_⟩; have n0_ := qb50 (qc50 hk (g' := aq) (o := .cells #[.string (⟨#[]⟩ : ByteArray), .int .i64 0, .int .i64 0, .int .i64 0, .int .i64 0, .int .i64 0, .int .i64 0, .int .i64 0, .int .i64 0, .int .i64 0, .int .i64 0] 61 (0, 0)) (kf_ ab.out) ar.out (by simp)); have n3_ := qb50 (qc50 hk (g' := aw) (o := .cells #[.string ay, .int .i64 (rd y180 au), .int .i64 (rd y186 av), .int .i64 aC, .int .i64 aB, .int .i64 aG, .int .i64 aF, .int .i64 aH, .int .i64 aI, .int .i64 0, .int .i64 0] 61 (0, 0)) (kf_ aa.out) ao.out (by simp)); have n4_ := qb50 (qi50 (kk_ HK.out) hk (.inl rfl)); have n5_ := qb50 (hb); have n6_ := qb50 (hi); replace ab := n0_; replace aa := n3_; replace HK := n4_; replace HB := n5_; replace HI0 := n6_; clear n0_ n3_ n4_ n5_ n6_; (try clear hb hk hi); have bA := c11_ aa.out; obtain ⟨jd, hP, a4, dL, gl⟩ := HI0.out; have bE := cellS77_0 a4; have cK := cellS77_1 a4; have cr := qa50 a4 1; clear a4 dL))
     (try simp only [Act.put, qa_, qb_, qc_]);go_cut [] (fun wc => ∃ (kq : Nat) (ac : ByteArray) (ae : Int) (af : Int) (ad : Int) (ag : Int) (ah : Int) (aj : Int) (ak : Int) (al : Int) (am : Int) (an : Int), Aside0 (spec_l20Cell.j0 kq a1 s0_0 aS ac ae af ad ag ah aj ak al am an = some (r1, r2, r3, r4, r5, r6, r7, r8, r9, r10, r11, r12)) ∧ Aside0 (kq ≤ k) ∧ Aside0 (wc.heap[aq]? = some (.cells #[.string (⟨#[]⟩ : ByteArray), .int .i64 0, .int .i64 0, .int .i64 0, .int .i64 0, .int .i64 0, .int .i64 0, .int .i64 0, .int .i64 0, .int .i64 0, .int .i64 0] 61 (0, 0))) ∧ Aside0 (wc.heap[aw]? = some (.cells #[.string ac, .int .i64 ae, .int .i64 af, .int .i64 ad, .int .i64 ag, .int .i64 ah, .int .i64 aj, .int .i64 ak, .int .i64 al, .int .i64 am, .int .i64 an] 61 (0, 0))) ∧ Aside0 (IsS77 w0 wc g s0_0 aS) ∧ Aside0 (KeepBut w wc g none) ∧ Aside0 (Below w0.heap.size w0 wc))
     case first =>
      have H := bn.out;clear bn;by_cases c52 : (s0_0.length : Int) = 0
      ·rw [if_pos c52] at H;have aU : ((s0_0.length : Int) == 0) = true := beq_iff_eq.mpr c52;have bs : ((s0_0.length : Int) != 0) = false := bne_eq_false_iff_eq.mpr c52;clear c52;(first | rw [aU] | (simp only [i64_w, i32_w]; rw [aU]) | skip);have H' := qb50 H;clear H;have hnb53 := ap.out;have hnc53 := ai.out;have hnb54 := ao.out;have hnc54 := ax.out;have dc := c11_ aa.out;go_wp2;go_meet
       case rel => exact ⟨_, ((⟨#[]⟩ : ByteArray)), (1), (1), (0), (0), (0), (0), (0), (0), (0), (0), H', ⟨by first | omega | exact Nat.le_refl _⟩, ⟨by (with_reducible repeat (first | apply qe50 | apply qg50 | apply qd50)); (iterate 13 refine blk_far ?_ ai.out _); exact kb_ ab.out⟩, ⟨by (with_reducible repeat (first | apply qe50 | apply qg50 | apply qd50)); apply bp11_; refine blk_put (cs := #[.string ay, .int .i64 (rd y180 au), .int .i64 (rd y186 av), .int .i64 aC, .int .i64 aB, .int .i64 aG, .int .i64 aF, .int .i64 aH, .int .i64 aI, .int .i64 aM, .int .i64 0]) ?_ 10 _ rfl; refine blk_put (cs := #[.string ay, .int .i64 (rd y180 au), .int .i64 (rd y186 av), .int .i64 aC, .int .i64 aB, .int .i64 aG, .int .i64 aF, .int .i64 aH, .int .i64 aI, .int .i64 0, .int .i64 0]) ?_ 9 _ rfl; exact kb_ aa.out⟩, ⟨is50_ HI0.out⟩, ⟨kk_ HK.out⟩, ⟨bj50_ HB.out⟩⟩
      rw [if_neg c52] at H;have aU : ((s0_0.length : Int) == 0) = false := beq_eq_false_iff_ne.mpr c52;have bs : ((s0_0.length : Int) != 0) = true := bne_iff_ne.mpr c52;(have dQ : ¬ (s0_0 = []) := fun h_ => c52 (by rw [h_]; rfl));(first | rw [aU] | (simp only [i64_w, i32_w]; rw [aU]) | skip);have H' := qb50 H;clear H;go_wp2;go_meet;(case rel => exact ⟨_, (ay), (rd y180 au), (rd y186 av), (aC), (aB), (aG), (aF), (aH), (aI), (aM), (aO), H', ⟨by first | omega | exact Nat.le_refl _⟩, ⟨kf_ ab.out⟩, ⟨kf_ aa.out⟩, ⟨is50_ HI0.out⟩, ⟨kk_ HK.out⟩, ⟨bj50_ HB.out⟩⟩)
     case rest =>
      clear bn;(try clear p1);(try clear q1);(try clear hx1);(try clear p2);(try clear c4);(try clear c5);(try clear c6);(try clear p18);(try clear q18);(try clear hx18);(try clear p19);(try clear q19);(try clear hx19);(try clear c42);(try clear c43);(try clear c45);(try clear c52);(try clear aU);(try clear bs);(try clear dQ);(try clear c53);(try clear c54);(try clear bY);(try clear c2);(try clear cq);(try clear bA);(try clear bE);(try clear cK);(try clear dc);(try clear cr);(try clear hx185_0);(try clear hx191_0);(try clear p185);(try clear p191);(try clear q185);(try clear q191);obtain ⟨kq, ac, ae, af, ad, ag, ah, aj, ak, al, am, an, HA, HJ13, ab, aa, HI0, HK, HB⟩ := hcut
      cases kq with
       | zero => exact absurd HA.out (by simp [spec_l20Cell.j0])
       | succ kj13 =>
        have H := HA.out;clear HA;simp only [spec_l20Cell.j0] at H;obtain ⟨⟨aT, aR⟩, A56, H⟩ := ob_ H;(try dsimp only at H);by_cases c57 : aT > 0
        ·rw [if_pos c57] at H;have dP : decide (0 < aT) = true := decide_eq_true c57;clear c57;simp only [Option.some.injEq, Prod.mk.injEq] at H;obtain ⟨rfl, rfl, rfl, rfl, rfl, rfl, rfl, rfl, rfl, rfl, rfl, rfl⟩ := H;(go_wp2_with (first | ((with_reducible refine gate_callee (f := 45) rfl ?_); refine gl_ (some 40) Tryd.func45 #[.pointer (some ⟨g, 0, none⟩), .int .i64 a1] ?_; (with_reducible refine (spec_l20Rd_pick.calls kj13 g s0_0 aS a1 aT aR w0 _ ?side1 ?side2 A56.out).mono ?_); (case side1 => exact HI0.out); (case side2 => exact HB.out); rintro e w58 ⟨rfl, hi, hb, hk⟩; refine ⟨_, rfl, ?_⟩; have n0_ := qb50 (qc50 hk (g' := aq) (o := .cells #[.string (⟨#[]⟩ : ByteArray), .int .i64 0, .int .i64 0, .int .i64 0, .int .i64 0, .int .i64 0, .int .i64 0, .int .i64 0, .int .i64 0, .int .i64 0, .int .i64 0] 61 (0, 0)) ab.out ar.out (by simp)); have n1_ := qb50 (qc50 hk (g' := aw) (o := .cells #[.string ac, .int .i64 ae, .int .i64 af, .int .i64 ad, .int .i64 ag, .int .i64 ah, .int .i64 aj, .int .i64 ak, .int .i64 al, .int .i64 am, .int .i64 an] 61 (0, 0)) aa.out ao.out (by simp)); have n2_ := qb50 (qi50 HK.out hk (.inl rfl)); have n3_ := qb50 (hb); have n4_ := qb50 (hi); replace ab := n0_; replace aa := n1_; replace HK := n2_; replace HB := n3_; replace HI0 := n4_; clear n0_ n1_ n2_ n3_ n4_; (try clear hb hk hi); have hnb59 := ap.out; have hnc59 := ai.out; have hnb60 := ao.out; have hnc60 := ax.out; have jW := c11_ aa.out; have hnb62 := ar.out; have hnc62 := az.out; have jQ := c11_ ab.out)))
         refine bodyPost_ret (results_cell_row rfl _ _ aq 61 #[.string ac, .int .i64 ae, .int .i64 af, .int .i64 ad, .int .i64 ag, .int .i64 ah, .int .i64 aj, .int .i64 ak, .int .i64 al, .int .i64 am, .int .i64 an] (0, 0) _ rfl (by (with_reducible repeat (first | apply qe50 | apply qg50 | apply qd50)); apply bp11_; exact kb_ ab.out) Tryd.underlying61 rfl (by kernel_rfl)) rfl ?_
         exact ⟨rg_, is50_ HI0.out, bj50_ HB.out, kk_ HK.out⟩
        rw [if_neg c57] at H;have dP : decide (0 < aT) = false := decide_eq_false c57;clear c57;obtain ⟨⟨aA, aP⟩, A64, H⟩ := ob_ H;(try dsimp only at H);by_cases c65 : aA = 0
        ·rw [if_pos c65] at H;have dJ : (aA == 0) = true := beq_iff_eq.mpr c65;have dM : (aA != 0) = false := bne_eq_false_iff_eq.mpr c65;clear c65;obtain ⟨⟨aQ, eo⟩, A66, H⟩ := ob_ H;(try dsimp only at H);simp only [Option.some.injEq, Prod.mk.injEq] at H;obtain ⟨rfl, rfl, rfl, rfl, rfl, rfl, rfl, rfl, rfl, rfl, rfl, rfl⟩ := H
         go_wp2_with (first | ((with_reducible refine gate_callee (f := 45) rfl ?_); refine gl_ (some 40) Tryd.func45 #[.pointer (some ⟨g, 0, none⟩), .int .i64 a1] ?_; (with_reducible refine (spec_l20Rd_pick.calls kj13 g s0_0 aS a1 aT aR w0 _ ?side1 ?side2 A56.out).mono ?_); (case side1 => exact HI0.out); (case side2 => exact HB.out); rintro e w67 ⟨rfl, hi, hb, hk⟩; refine ⟨_, rfl, ?_⟩; have n0_ := qb50 (qc50 hk (g' := aq) (o := .cells #[.string (⟨#[]⟩ : ByteArray), .int .i64 0, .int .i64 0, .int .i64 0, .int .i64 0, .int .i64 0, .int .i64 0, .int .i64 0, .int .i64 0, .int .i64 0, .int .i64 0] 61 (0, 0)) ab.out ar.out (by simp)); have n1_ := qb50 (qc50 hk (g' := aw) (o := .cells #[.string ac, .int .i64 ae, .int .i64 af, .int .i64 ad, .int .i64 ag, .int .i64 ah, .int .i64 aj, .int .i64 ak, .int .i64 al, .int .i64 am, .int .i64 an] 61 (0, 0)) aa.out ao.out (by simp)); have n2_ := qb50 (qi50 HK.out hk (.inl rfl)); have n3_ := qb50 (hb); have n4_ := qb50 (hi); replace ab := n0_; replace aa := n1_; replace HK := n2_; replace HB := n3_; replace HI0 := n4_; clear n0_ n1_ n2_ n3_ n4_; (try clear hb hk hi)) | ((with_reducible refine gate_callee (f := 45) rfl ?_); refine gl_ (some 44) Tryd.func45 #[.pointer (some ⟨g, 0, none⟩), .int .i64 4] ?_; (with_reducible refine (spec_l20Rd_pick.calls kj13 g s0_0 aR 4 aA aP w0 _ ?side1 ?side2 A64.out).mono ?_); (case side1 => exact HI0.out); (case side2 => exact HB.out); rintro e w68 ⟨rfl, hi, hb, hk⟩; refine ⟨_, rfl, ?_⟩; have n0_ := qb50 (qc50 hk (g' := aq) (o := .cells #[.string (⟨#[]⟩ : ByteArray), .int .i64 0, .int .i64 0, .int .i64 0, .int .i64 0, .int .i64 0, .int .i64 0, .int .i64 0, .int .i64 0, .int .i64 0, .int .i64 0] 61 (0, 0)) ab.out ar.out (by simp)); have n1_ := qb50 (qc50 hk (g' := aw) (o := .cells #[.string ac, .int .i64 ae, .int .i64 af, .int .i64 ad, .int .i64 ag, .int .i64 ah, .int .i64 aj, .int .i64 ak, .int .i64 al, .int .i64 am, .int .i64 an] 61 (0, 0)) aa.out ao.out (by simp)); have n2_ := qb50 (qi50 HK.out hk (.inl rfl)); have n3_ := qb50 (hb); have n4_ := qb50 (hi); replace ab := n0_; replace aa := n1_; replace HK := n2_; replace HB := n3_; replace HI0 := n4_; clear n0_ n1_ n2_ n3_ n4_; (try clear hb hk hi)) | ((with_reducible refine gate_callee (f := 64) rfl ?_); refine gl_ (some 51) Tryd.func64 #[.pointer (some ⟨g, 0, none⟩), .int .i64 1] ?_; (with_reducible refine (spec_l20AnyText.calls kj13 g s0_0 aP 1 aQ eo w0 _ ?side1 ?side2 A66.out).mono ?_); (case side1 => exact HI0.out); (case side2 => exact HB.out); rintro e w69 ⟨rfl, hi, hb, hk⟩; refine ⟨_, rfl, ?_⟩; have n0_ := qb50 (qc50 hk (g' := aq) (o := .cells #[.string (⟨#[]⟩ : ByteArray), .int .i64 0, .int .i64 0, .int .i64 0, .int .i64 0, .int .i64 0, .int .i64 0, .int .i64 0, .int .i64 0, .int .i64 0, .int .i64 0] 61 (0, 0)) ab.out ar.out (by simp)); have n1_ := qb50 (qc50 hk (g' := aw) (o := .cells #[.string ac, .int .i64 ae, .int .i64 af, .int .i64 ad, .int .i64 ag, .int .i64 ah, .int .i64 aj, .int .i64 ak, .int .i64 al, .int .i64 am, .int .i64 an] 61 (0, 0)) aa.out ao.out (by simp)); have n2_ := qb50 (qi50 HK.out hk (.inl rfl)); have n3_ := qb50 (hb); have n4_ := qb50 (hi); replace ab := n0_; replace aa := n1_; replace HK := n2_; replace HB := n3_; replace HI0 := n4_; clear n0_ n1_ n2_ n3_ n4_; (try clear hb hk hi); have hnb70 := ap.out; have hnc70 := ai.out; have hnb71 := ao.out; have hnc71 := ax.out; have hO := c11_ aa.out; have hnb73 := ar.out; have hnc73 := az.out; have gZ := c11_ ab.out))
         refine bodyPost_ret (results_cell_row rfl _ _ aq 61 #[.string aQ, .int .i64 ae, .int .i64 af, .int .i64 ad, .int .i64 ag, .int .i64 ah, .int .i64 aj, .int .i64 ak, .int .i64 al, .int .i64 am, .int .i64 an] (0, 0) _ rfl (by (with_reducible repeat (first | apply qe50 | apply qg50 | apply qd50)); apply bp11_; refine blk_far ?_ ai.out _; exact kb_ ab.out) Tryd.underlying61 rfl (by kernel_rfl)) rfl ?_
         exact ⟨rg_, is50_ HI0.out, bj50_ HB.out, kk_ HK.out⟩
        rw [if_neg c65] at H;have dJ : (aA == 0) = false := beq_eq_false_iff_ne.mpr c65;have dM : (aA != 0) = true := bne_iff_ne.mpr c65;by_cases c75 : aA = 1
        ·rw [if_pos c75] at H;have dI : (aA == 1) = true := beq_iff_eq.mpr c75;have dK : (aA != 1) = false := bne_eq_false_iff_eq.mpr c75;clear c75;obtain ⟨y211, aV⟩ : ∃ y_ : List Int, y_ = (([0, 5, (-1)] : List Int)) := ⟨_, rfl⟩;(replace H : ((spec_l20Rd_pick.f kj13 s0_0 aP 3).bind fun bt214 => (if 0 ≤ bt214.1 then (if bt214.1 < (y211.length : Int) then (some (ac, rd y211 bt214.1, af, ad, ag, ah, aj, ak, al, am, an, bt214.2)) else (none)) else (none))) = some (r1, r2, r3, r4, r5, r6, r7, r8, r9, r10, r11, r12) := hb_ aV H);have bp := qb50 aV;clear aV;obtain ⟨⟨aD, fE⟩, A76, H⟩ := ob_ H;(try dsimp only at H);by_cases c77 : 0 ≤ aD
         ·rw [if_pos c77] at H;have c77b0 : decide (0 ≤ aD) = true := decide_eq_true c77;clear c77;by_cases c78 : aD < (y211.length : Int)
          ·rw [if_pos c78] at H;have c78b0 : decide (aD < (y211.length : Int)) = true := decide_eq_true c78;clear c78;simp only [Option.some.injEq, Prod.mk.injEq] at H;obtain ⟨rfl, rfl, rfl, rfl, rfl, rfl, rfl, rfl, rfl, rfl, rfl, rfl⟩ := H
           go_wp2_with (first | ((with_reducible refine gate_callee (f := 45) rfl ?_); refine gl_ (some 40) Tryd.func45 #[.pointer (some ⟨g, 0, none⟩), .int .i64 a1] ?_; (with_reducible refine (spec_l20Rd_pick.calls kj13 g s0_0 aS a1 aT aR w0 _ ?side1 ?side2 A56.out).mono ?_); (case side1 => exact HI0.out); (case side2 => exact HB.out); rintro e w79 ⟨rfl, hi, hb, hk⟩; refine ⟨_, rfl, ?_⟩; have n0_ := qb50 (qc50 hk (g' := aq) (o := .cells #[.string (⟨#[]⟩ : ByteArray), .int .i64 0, .int .i64 0, .int .i64 0, .int .i64 0, .int .i64 0, .int .i64 0, .int .i64 0, .int .i64 0, .int .i64 0, .int .i64 0] 61 (0, 0)) ab.out ar.out (by simp)); have n1_ := qb50 (qc50 hk (g' := aw) (o := .cells #[.string ac, .int .i64 ae, .int .i64 af, .int .i64 ad, .int .i64 ag, .int .i64 ah, .int .i64 aj, .int .i64 ak, .int .i64 al, .int .i64 am, .int .i64 an] 61 (0, 0)) aa.out ao.out (by simp)); have n2_ := qb50 (qi50 HK.out hk (.inl rfl)); have n3_ := qb50 (hb); have n4_ := qb50 (hi); replace ab := n0_; replace aa := n1_; replace HK := n2_; replace HB := n3_; replace HI0 := n4_; clear n0_ n1_ n2_ n3_ n4_; (try clear hb hk hi)) | ((with_reducible refine gate_callee (f := 45) rfl ?_); refine gl_ (some 44) Tryd.func45 #[.pointer (some ⟨g, 0, none⟩), .int .i64 4] ?_; (with_reducible refine (spec_l20Rd_pick.calls kj13 g s0_0 aR 4 aA aP w0 _ ?side1 ?side2 A64.out).mono ?_); (case side1 => exact HI0.out); (case side2 => exact HB.out); rintro e w80 ⟨rfl, hi, hb, hk⟩; refine ⟨_, rfl, ?_⟩; have n0_ := qb50 (qc50 hk (g' := aq) (o := .cells #[.string (⟨#[]⟩ : ByteArray), .int .i64 0, .int .i64 0, .int .i64 0, .int .i64 0, .int .i64 0, .int .i64 0, .int .i64 0, .int .i64 0, .int .i64 0, .int .i64 0] 61 (0, 0)) ab.out ar.out (by simp)); have n1_ := qb50 (qc50 hk (g' := aw) (o := .cells #[.string ac, .int .i64 ae, .int .i64 af, .int .i64 ad, .int .i64 ag, .int .i64 ah, .int .i64 aj, .int .i64 ak, .int .i64 al, .int .i64 am, .int .i64 an] 61 (0, 0)) aa.out ao.out (by simp)); have n2_ := qb50 (qi50 HK.out hk (.inl rfl)); have n3_ := qb50 (hb); have n4_ := qb50 (hi); replace ab := n0_; replace aa := n1_; replace HK := n2_; replace HB := n3_; replace HI0 := n4_; clear n0_ n1_ n2_ n3_ n4_; (try clear hb hk hi)) | ((with_reducible refine gate_dst (N := 55) rfl ?_); refine Kd.R_lit (Kd.int .i64) _ 3 ?hg (N := 55) ?hd (xs := ([0, 5, (-1)] : List Int)) (inner := [.int .i64 0, .int .i64 5, .int .i64 (-1)]) (ok := fun _ => True) (okp := fun _ => True) ?hr ?hp (fun _ hk => hk) trivial (Below.refl _ _) (Nat.le_refl _) (by simp) ?_; (case hd => rfl); (case hg => rfl); (case hr => go_simp <;> rfl); (case hp => exact (Reps.one (show Kd.M (Kd.int .i64) _ _ _ 0 [.int .i64 0] from rfl) (Reps.one (show Kd.M (Kd.int .i64) _ _ _ 5 [.int .i64 5] from rfl) (Reps.one (show Kd.M (Kd.int .i64) _ _ _ (-1) [.int .i64 (-1)] from rfl) (Reps.none _ _))))); intro v212 w81 a6 hb hg_ hnew_; clear hg_ hnew_; (first | rw [← bp.out] at a6 | (simp only [Int.reduceToNat] at a6; rw [← bp.out] at a6)); have n0_ := qb50 (Kd.R_lower a6 (keep_size (w := w) (g := g) (row := none) HK.out)); have n1_ := qb50 (blk_below (g := aq) (o := .cells #[.string (⟨#[]⟩ : ByteArray), .int .i64 0, .int .i64 0, .int .i64 0, .int .i64 0, .int .i64 0, .int .i64 0, .int .i64 0, .int .i64 0, .int .i64 0, .int .i64 0] 61 (0, 0)) ab.out hb); have n2_ := qb50 (blk_below (g := aw) (o := .cells #[.string ac, .int .i64 ae, .int .i64 af, .int .i64 ad, .int .i64 ag, .int .i64 ah, .int .i64 aj, .int .i64 ak, .int .i64 al, .int .i64 am, .int .i64 an] 61 (0, 0)) aa.out hb); have n3_ := qb50 (IsS77.below HI0.out hb); have n4_ := qb50 (qi50 HK.out (KeepBut.of_below hb g none) (.inl rfl)); have n5_ := qb50 (below_step HB.out hb); have aZ := n0_; replace ab := n1_; replace aa := n2_; replace HI0 := n3_; replace HK := n4_; replace HB := n5_; clear n0_ n1_ n2_ n3_ n4_ n5_; clear hb a6) | ((with_reducible refine gate_callee (f := 45) rfl ?_); refine gl_ (some 57) Tryd.func45 #[.pointer (some ⟨g, 0, none⟩), .int .i64 3] ?_; (with_reducible refine (spec_l20Rd_pick.calls kj13 g s0_0 aP 3 aD fE w0 _ ?side1 ?side2 A76.out).mono ?_); (case side1 => exact HI0.out); (case side2 => exact HB.out); rintro e w83 ⟨rfl, hi, hb, hk⟩; refine ⟨_, rfl, ?_⟩; have n0_ := qb50 (qc50 hk (g' := aq) (o := .cells #[.string (⟨#[]⟩ : ByteArray), .int .i64 0, .int .i64 0, .int .i64 0, .int .i64 0, .int .i64 0, .int .i64 0, .int .i64 0, .int .i64 0, .int .i64 0, .int .i64 0] 61 (0, 0)) ab.out ar.out (by simp)); have n1_ := qb50 (qc50 hk (g' := aw) (o := .cells #[.string ac, .int .i64 ae, .int .i64 af, .int .i64 ad, .int .i64 ag, .int .i64 ah, .int .i64 aj, .int .i64 ak, .int .i64 al, .int .i64 am, .int .i64 an] 61 (0, 0)) aa.out ao.out (by simp)); have n2_ := qb50 (Kd.R_mono (Kd.R_keep (IsS77.apart (show IsS77 w0 _ g s0_0 aP from HI0.out) aZ.out (by decide)) hk (fun _ h => h.2)) (fun _ h => h.1)); have n3_ := qb50 (qi50 HK.out hk (.inl rfl)); have n4_ := qb50 (hb); have n5_ := qb50 (hi); replace ab := n0_; replace aa := n1_; replace aZ := n2_; replace HK := n3_; replace HB := n4_; replace HI0 := n5_; clear n0_ n1_ n2_ n3_ n4_ n5_; (try clear hb hk hi); obtain ⟨Ao84, co84, ec⟩ := Kd.R_slice aZ.out; subst ec; have bi : 0 ≤ (aD : Int) := dq_; have bd : aD < (y211.length : Int) := dq_; obtain ⟨ad216, d3, jZ⟩ := Kd.at_int (Kd.R_reads' aZ.out).2.2 aD bi bd; cases d3; replace bi := eq_true bi; replace bd := eq_true bd; have hnb85 := ap.out; have hnc85 := ai.out; have hnb86 := ao.out; have hnc86 := ax.out; have gi := c11_ aa.out; have hnb88 := ar.out; have hnc88 := az.out; have gU := c11_ ab.out))
           refine bodyPost_ret (results_cell_row rfl _ _ aq 61 #[.string ac, .int .i64 (rd y211 aD), .int .i64 af, .int .i64 ad, .int .i64 ag, .int .i64 ah, .int .i64 aj, .int .i64 ak, .int .i64 al, .int .i64 am, .int .i64 an] (0, 0) _ rfl (by (with_reducible repeat (first | apply qe50 | apply qg50 | apply qd50)); apply bp11_; refine blk_far ?_ ai.out _; exact kb_ ab.out) Tryd.underlying61 rfl (by kernel_rfl)) rfl ?_
           exact ⟨rg_, is50_ HI0.out, bj50_ HB.out, kk_ HK.out⟩
          rw [if_neg c78] at H;exact absurd H (by simp)
         rw [if_neg c77] at H;exact absurd H (by simp)
        rw [if_neg c75] at H;have dI : (aA == 1) = false := beq_eq_false_iff_ne.mpr c75;have dK : (aA != 1) = true := bne_iff_ne.mpr c75;by_cases c90 : aA = 2
        ·rw [if_pos c90] at H;have dO : (aA == 2) = true := beq_iff_eq.mpr c90;have dN : (aA != 2) = false := bne_eq_false_iff_eq.mpr c90;clear c90;obtain ⟨y217, aW⟩ : ∃ y_ : List Int, y_ = (([0, 5, (-1)] : List Int)) := ⟨_, rfl⟩;(replace H : ((spec_l20Rd_pick.f kj13 s0_0 aP 3).bind fun bt220 => (if 0 ≤ bt220.1 then (if bt220.1 < (y217.length : Int) then (some (ac, ae, rd y217 bt220.1, ad, ag, ah, aj, ak, al, am, an, bt220.2)) else (none)) else (none))) = some (r1, r2, r3, r4, r5, r6, r7, r8, r9, r10, r11, r12) := hb_ aW H);have bq := qb50 aW;clear aW;obtain ⟨⟨aE, d4⟩, A91, H⟩ := ob_ H;(try dsimp only at H);by_cases c92 : 0 ≤ aE
         ·rw [if_pos c92] at H;have c92b0 : decide (0 ≤ aE) = true := decide_eq_true c92;clear c92;by_cases c93 : aE < (y217.length : Int)
          ·rw [if_pos c93] at H;have c93b0 : decide (aE < (y217.length : Int)) = true := decide_eq_true c93;clear c93;simp only [Option.some.injEq, Prod.mk.injEq] at H;obtain ⟨rfl, rfl, rfl, rfl, rfl, rfl, rfl, rfl, rfl, rfl, rfl, rfl⟩ := H
           go_wp2_with (first | ((with_reducible refine gate_callee (f := 45) rfl ?_); refine gl_ (some 40) Tryd.func45 #[.pointer (some ⟨g, 0, none⟩), .int .i64 a1] ?_; (with_reducible refine (spec_l20Rd_pick.calls kj13 g s0_0 aS a1 aT aR w0 _ ?side1 ?side2 A56.out).mono ?_); (case side1 => exact HI0.out); (case side2 => exact HB.out); rintro e w94 ⟨rfl, hi, hb, hk⟩; refine ⟨_, rfl, ?_⟩; have n0_ := qb50 (qc50 hk (g' := aq) (o := .cells #[.string (⟨#[]⟩ : ByteArray), .int .i64 0, .int .i64 0, .int .i64 0, .int .i64 0, .int .i64 0, .int .i64 0, .int .i64 0, .int .i64 0, .int .i64 0, .int .i64 0] 61 (0, 0)) ab.out ar.out (by simp)); have n1_ := qb50 (qc50 hk (g' := aw) (o := .cells #[.string ac, .int .i64 ae, .int .i64 af, .int .i64 ad, .int .i64 ag, .int .i64 ah, .int .i64 aj, .int .i64 ak, .int .i64 al, .int .i64 am, .int .i64 an] 61 (0, 0)) aa.out ao.out (by simp)); have n2_ := qb50 (qi50 HK.out hk (.inl rfl)); have n3_ := qb50 (hb); have n4_ := qb50 (hi); replace ab := n0_; replace aa := n1_; replace HK := n2_; replace HB := n3_; replace HI0 := n4_; clear n0_ n1_ n2_ n3_ n4_; (try clear hb hk hi)) | ((with_reducible refine gate_callee (f := 45) rfl ?_); refine gl_ (some 44) Tryd.func45 #[.pointer (some ⟨g, 0, none⟩), .int .i64 4] ?_; (with_reducible refine (spec_l20Rd_pick.calls kj13 g s0_0 aR 4 aA aP w0 _ ?side1 ?side2 A64.out).mono ?_); (case side1 => exact HI0.out); (case side2 => exact HB.out); rintro e w95 ⟨rfl, hi, hb, hk⟩; refine ⟨_, rfl, ?_⟩; have n0_ := qb50 (qc50 hk (g' := aq) (o := .cells #[.string (⟨#[]⟩ : ByteArray), .int .i64 0, .int .i64 0, .int .i64 0, .int .i64 0, .int .i64 0, .int .i64 0, .int .i64 0, .int .i64 0, .int .i64 0, .int .i64 0] 61 (0, 0)) ab.out ar.out (by simp)); have n1_ := qb50 (qc50 hk (g' := aw) (o := .cells #[.string ac, .int .i64 ae, .int .i64 af, .int .i64 ad, .int .i64 ag, .int .i64 ah, .int .i64 aj, .int .i64 ak, .int .i64 al, .int .i64 am, .int .i64 an] 61 (0, 0)) aa.out ao.out (by simp)); have n2_ := qb50 (qi50 HK.out hk (.inl rfl)); have n3_ := qb50 (hb); have n4_ := qb50 (hi); replace ab := n0_; replace aa := n1_; replace HK := n2_; replace HB := n3_; replace HI0 := n4_; clear n0_ n1_ n2_ n3_ n4_; (try clear hb hk hi)) | ((with_reducible refine gate_dst (N := 63) rfl ?_); refine Kd.R_lit (Kd.int .i64) _ 3 ?hg (N := 63) ?hd (xs := ([0, 5, (-1)] : List Int)) (inner := [.int .i64 0, .int .i64 5, .int .i64 (-1)]) (ok := fun _ => True) (okp := fun _ => True) ?hr ?hp (fun _ hk => hk) trivial (Below.refl _ _) (Nat.le_refl _) (by simp) ?_; (case hd => rfl); (case hg => rfl); (case hr => go_simp <;> rfl); (case hp => exact (Reps.one (show Kd.M (Kd.int .i64) _ _ _ 0 [.int .i64 0] from rfl) (Reps.one (show Kd.M (Kd.int .i64) _ _ _ 5 [.int .i64 5] from rfl) (Reps.one (show Kd.M (Kd.int .i64) _ _ _ (-1) [.int .i64 (-1)] from rfl) (Reps.none _ _))))); intro v218 w96 a5 hb hg_ hnew_; clear hg_ hnew_; (first | rw [← bq.out] at a5 | (simp only [Int.reduceToNat] at a5; rw [← bq.out] at a5)); have n0_ := qb50 (Kd.R_lower a5 (keep_size (w := w) (g := g) (row := none) HK.out)); have n1_ := qb50 (blk_below (g := aq) (o := .cells #[.string (⟨#[]⟩ : ByteArray), .int .i64 0, .int .i64 0, .int .i64 0, .int .i64 0, .int .i64 0, .int .i64 0, .int .i64 0, .int .i64 0, .int .i64 0, .int .i64 0] 61 (0, 0)) ab.out hb); have n2_ := qb50 (blk_below (g := aw) (o := .cells #[.string ac, .int .i64 ae, .int .i64 af, .int .i64 ad, .int .i64 ag, .int .i64 ah, .int .i64 aj, .int .i64 ak, .int .i64 al, .int .i64 am, .int .i64 an] 61 (0, 0)) aa.out hb); have n3_ := qb50 (IsS77.below HI0.out hb); have n4_ := qb50 (qi50 HK.out (KeepBut.of_below hb g none) (.inl rfl)); have n5_ := qb50 (below_step HB.out hb); have a3 := n0_; replace ab := n1_; replace aa := n2_; replace HI0 := n3_; replace HK := n4_; replace HB := n5_; clear n0_ n1_ n2_ n3_ n4_ n5_; clear hb a5) | ((with_reducible refine gate_callee (f := 45) rfl ?_); refine gl_ (some 65) Tryd.func45 #[.pointer (some ⟨g, 0, none⟩), .int .i64 3] ?_; (with_reducible refine (spec_l20Rd_pick.calls kj13 g s0_0 aP 3 aE d4 w0 _ ?side1 ?side2 A91.out).mono ?_); (case side1 => exact HI0.out); (case side2 => exact HB.out); rintro e w98 ⟨rfl, hi, hb, hk⟩; refine ⟨_, rfl, ?_⟩; have n0_ := qb50 (qc50 hk (g' := aq) (o := .cells #[.string (⟨#[]⟩ : ByteArray), .int .i64 0, .int .i64 0, .int .i64 0, .int .i64 0, .int .i64 0, .int .i64 0, .int .i64 0, .int .i64 0, .int .i64 0, .int .i64 0] 61 (0, 0)) ab.out ar.out (by simp)); have n1_ := qb50 (qc50 hk (g' := aw) (o := .cells #[.string ac, .int .i64 ae, .int .i64 af, .int .i64 ad, .int .i64 ag, .int .i64 ah, .int .i64 aj, .int .i64 ak, .int .i64 al, .int .i64 am, .int .i64 an] 61 (0, 0)) aa.out ao.out (by simp)); have n2_ := qb50 (Kd.R_mono (Kd.R_keep (IsS77.apart (show IsS77 w0 _ g s0_0 aP from HI0.out) a3.out (by decide)) hk (fun _ h => h.2)) (fun _ h => h.1)); have n3_ := qb50 (qi50 HK.out hk (.inl rfl)); have n4_ := qb50 (hb); have n5_ := qb50 (hi); replace ab := n0_; replace aa := n1_; replace a3 := n2_; replace HK := n3_; replace HB := n4_; replace HI0 := n5_; clear n0_ n1_ n2_ n3_ n4_ n5_; (try clear hb hk hi); obtain ⟨Ao99, co99, fd⟩ := Kd.R_slice a3.out; subst fd; have be : 0 ≤ (aE : Int) := dq_; have ba : aE < (y217.length : Int) := dq_; obtain ⟨ad222, fP, gI⟩ := Kd.at_int (Kd.R_reads' a3.out).2.2 aE be ba; cases fP; replace be := eq_true be; replace ba := eq_true ba; have ka := ap.out; have kc := ai.out; have j8 := ao.out; have j7 := ax.out; have fw := c11_ aa.out; have j5 := ar.out; have j4 := az.out; have eH := c11_ ab.out))
           refine bodyPost_ret (results_cell_row rfl _ _ aq 61 #[.string ac, .int .i64 ae, .int .i64 (rd y217 aE), .int .i64 ad, .int .i64 ag, .int .i64 ah, .int .i64 aj, .int .i64 ak, .int .i64 al, .int .i64 am, .int .i64 an] (0, 0) _ rfl (by (with_reducible repeat (first | apply qe50 | apply qg50 | apply qd50)); apply bp11_; refine blk_far ?_ ai.out _; exact kb_ ab.out) Tryd.underlying61 rfl (by kernel_rfl)) rfl ?_
           exact ⟨rg_, is50_ HI0.out, bj50_ HB.out, kk_ HK.out⟩
          rw [if_neg c93] at H;exact absurd H (by simp)
         rw [if_neg c92] at H;exact absurd H (by simp)
        rw [if_neg c90] at H;have dO : (aA == 2) = false := beq_eq_false_iff_ne.mpr c90;have dN : (aA != 2) = true := bne_iff_ne.mpr c90;obtain ⟨⟨bj, dC, e0⟩, eK, H⟩ := ob_ H;(try dsimp only at H);simp only [Option.some.injEq, Prod.mk.injEq] at H;obtain ⟨rfl, rfl, rfl, rfl, rfl, rfl, rfl, rfl, rfl, rfl, rfl, rfl⟩ := H
        go_wp2_with (first | ((with_reducible refine gate_callee (f := 45) rfl ?_); refine gl_ (some 40) Tryd.func45 #[.pointer (some ⟨g, 0, none⟩), .int .i64 a1] ?_; (with_reducible refine (spec_l20Rd_pick.calls kj13 g s0_0 aS a1 aT aR w0 _ ?side1 ?side2 A56.out).mono ?_); (case side1 => exact HI0.out); (case side2 => exact HB.out); rintro e w106 ⟨rfl, hi, hb, hk⟩; refine ⟨_, rfl, ?_⟩; have n0_ := qb50 (qc50 hk (g' := aq) (o := .cells #[.string (⟨#[]⟩ : ByteArray), .int .i64 0, .int .i64 0, .int .i64 0, .int .i64 0, .int .i64 0, .int .i64 0, .int .i64 0, .int .i64 0, .int .i64 0, .int .i64 0] 61 (0, 0)) ab.out ar.out (by simp)); have n1_ := qb50 (qc50 hk (g' := aw) (o := .cells #[.string ac, .int .i64 ae, .int .i64 af, .int .i64 ad, .int .i64 ag, .int .i64 ah, .int .i64 aj, .int .i64 ak, .int .i64 al, .int .i64 am, .int .i64 an] 61 (0, 0)) aa.out ao.out (by simp)); have n2_ := qb50 (qi50 HK.out hk (.inl rfl)); have n3_ := qb50 (hb); have n4_ := qb50 (hi); replace ab := n0_; replace aa := n1_; replace HK := n2_; replace HB := n3_; replace HI0 := n4_; clear n0_ n1_ n2_ n3_ n4_; (try clear hb hk hi)) | ((with_reducible refine gate_callee (f := 45) rfl ?_); refine gl_ (some 44) Tryd.func45 #[.pointer (some ⟨g, 0, none⟩), .int .i64 4] ?_; (with_reducible refine (spec_l20Rd_pick.calls kj13 g s0_0 aR 4 aA aP w0 _ ?side1 ?side2 A64.out).mono ?_); (case side1 => exact HI0.out); (case side2 => exact HB.out); rintro e w107 ⟨rfl, hi, hb, hk⟩; refine ⟨_, rfl, ?_⟩; have n0_ := qb50 (qc50 hk (g' := aq) (o := .cells #[.string (⟨#[]⟩ : ByteArray), .int .i64 0, .int .i64 0, .int .i64 0, .int .i64 0, .int .i64 0, .int .i64 0, .int .i64 0, .int .i64 0, .int .i64 0, .int .i64 0] 61 (0, 0)) ab.out ar.out (by simp)); have n1_ := qb50 (qc50 hk (g' := aw) (o := .cells #[.string ac, .int .i64 ae, .int .i64 af, .int .i64 ad, .int .i64 ag, .int .i64 ah, .int .i64 aj, .int .i64 ak, .int .i64 al, .int .i64 am, .int .i64 an] 61 (0, 0)) aa.out ao.out (by simp)); have n2_ := qb50 (qi50 HK.out hk (.inl rfl)); have n3_ := qb50 (hb); have n4_ := qb50 (hi); replace ab := n0_; replace aa := n1_; replace HK := n2_; replace HB := n3_; replace HI0 := n4_; clear n0_ n1_ n2_ n3_ n4_; (try clear hb hk hi)) | ((with_reducible refine gate_callee (f := 63) rfl ?_); refine gl_ (some 46) Tryd.func63 #[.pointer (some ⟨g, 0, none⟩), .int .i64 1] ?_; (with_reducible refine (spec_l20Brd.calls kj13 g s0_0 aP 1 bj dC e0 w0 _ ?side1 ?side2 eK.out).mono ?_); (case side1 => exact HI0.out); (case side2 => exact HB.out); rintro e w108 ⟨rfl, hi, hb, hk⟩; refine ⟨_, rfl, ?_⟩; have n0_ := qb50 (qc50 hk (g' := aq) (o := .cells #[.string (⟨#[]⟩ : ByteArray), .int .i64 0, .int .i64 0, .int .i64 0, .int .i64 0, .int .i64 0, .int .i64 0, .int .i64 0, .int .i64 0, .int .i64 0, .int .i64 0] 61 (0, 0)) ab.out ar.out (by simp)); have n1_ := qb50 (qc50 hk (g' := aw) (o := .cells #[.string ac, .int .i64 ae, .int .i64 af, .int .i64 ad, .int .i64 ag, .int .i64 ah, .int .i64 aj, .int .i64 ak, .int .i64 al, .int .i64 am, .int .i64 an] 61 (0, 0)) aa.out ao.out (by simp)); have n2_ := qb50 (qi50 HK.out hk (.inl rfl)); have n3_ := qb50 (hb); have n4_ := qb50 (hi); replace ab := n0_; replace aa := n1_; replace HK := n2_; replace HB := n3_; replace HI0 := n4_; clear n0_ n1_ n2_ n3_ n4_; (try clear hb hk hi); have j9 := ap.out; have kb := ai.out; have ke := ao.out; have kf := ax.out; have fo := c11_ aa.out; have j6 := ar.out; have kd := az.out; have eW := c11_ ab.out))
        refine bodyPost_ret (results_cell_row rfl _ _ aq 61 #[.string ac, .int .i64 ae, .int .i64 af, .int .i64 ad, .int .i64 ag, .int .i64 ah, .int .i64 aj, .int .i64 ak, .int .i64 al, .int .i64 bj, .int .i64 dC] (0, 0) _ rfl (by (with_reducible repeat (first | apply qe50 | apply qg50 | apply qd50)); apply bp11_; (iterate 2 refine blk_far ?_ ai.out _); exact kb_ ab.out) Tryd.underlying61 rfl (by kernel_rfl)) rfl ?_
        exact ⟨rg_, is50_ HI0.out, bj50_ HB.out, kk_ HK.out⟩
    rw [if_neg c9] at H;exact absurd H (by simp)
   rw [if_neg c8] at H;exact absurd H (by simp)
  rw [if_neg c6] at H;exact absurd H (by simp)
 rw [if_neg c5] at H;exact absurd H (by simp)
end Go.Proofs.YtnalfnoebhmijaaDoor.Pr
