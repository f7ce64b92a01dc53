/- A part of what the claim of 'FnTblPart' leans on. -/
import Derived.Test.YtnednnnegofhkaaDoorProg
import Derived.Below
import Derived.Deep.Draws
import Derived.Deep.AppendLies
import Derived.Maps.AppendAt
import Derived.OwnWalk
import Derived.Laws.BytesArg
import Derived.Laws.MakeOwn
import Derived.Laws.OwnMore
import Derived.Deep.OwnRows
import Derived.Tactics
import Derived.Lib.ConvBytes
import Derived.Laws.Slices
import Derived.WalkKit
import Derived.KernelRfl
import Derived.RowKit3
import Derived.Deep.LoopGhost
import Derived.Deep.QuietTactic
import Derived.BigQuiet
import Derived.WideLaws
import Derived.Deep.DeepCutAuto
import Derived.Deep.CutBlock
import Derived.Deep.RegionHeld3
import Derived.Laws.Rows
import Derived.Lib.AppendStr
import Derived.ArgAppend
import Derived.Laws.IdiomCopy
import Derived.OrdersHeld
import Derived.Laws.BitsLemmas
import Derived.RowKit
import Derived.Test.YtnednnnegofhkaaDoorFnTblPartG
import Derived.Test.YtnednnnegofhkaaDoorFnTblPartWWords
import Derived.Test.YtnednnnegofhkaaDoorFnTblPartWLast
import Derived.Test.YtnednnnegofhkaaDoorFnTblPartWTab
import Derived.Test.YtnednnnegofhkaaDoorFnTblPartWApart
import Derived.Test.YtnednnnegofhkaaDoorFnTblPartWFoot
import Derived.Test.YtnednnnegofhkaaDoorFnTblPartWKept
import Derived.Test.YtnednnnegofhkaaDoorFnTblPartWShare
import Derived.Test.YtnednnnegofhkaaDoorFnTblPartWN
import Derived.Laws.StructEq
import Derived.Test.YtnednnnegofhkaaDoorFnTblPartWRepsOne
import Derived.Test.YtnednnnegofhkaaDoorFnTblPartWInv
import Derived.Test.YtnednnnegofhkaaDoorFnTblPartWGuard
import Derived.Test.YtnednnnegofhkaaDoorFnTblPartWMore
namespace Go.Proofs.YtnednnnegofhkaaDoor.Pr
open Go.RowKit Go.Proofs.YtnednnnegofhkaaDoorW.PrintWords Go.Proofs.YtnednnnegofhkaaDoorW.PrintLast Go.Proofs.YtnednnnegofhkaaDoorW.PrintMore
attribute [local go_sem] max2_int min2_int max_two min_two max_three min_three max_four min_four
set_option linter.unusedVariables false
set_option linter.unusedSimpArgs false
def errW : Option Int → Value
  | none => .nilIface
  | some c => .iface 0 (.int .i64 c)
theorem errW_none : errW none = .nilIface := rfl
theorem errW_some (c : Int) : errW (some c) = .iface 0 (.int .i64 c) := rfl
theorem info5 : (Tryd.prog.info? 5).map (fun i => (i.zero, i.size, i.bytes)) = some (some (.int .u8 0), 1, 1) := by kernel_rfl
theorem info29 : (Tryd.prog.info? 29).map (fun i => (i.zero, i.size, i.bytes)) = some (some (.agg #[(.int .i64 0), (.int .i64 0)]), 2, 16) := by kernel_rfl
theorem info32 : (Tryd.prog.info? 32).map (fun i => (i.zero, i.size, i.bytes)) = some (some (.agg #[(.slice none 0 0), (.bool false)]), 2, 32) := by kernel_rfl
theorem info37 : (Tryd.prog.info? 37).map (fun i => (i.zero, i.size, i.bytes)) = some (some (.agg #[(.string ⟨#[]⟩), (.int .i64 0), (.int .i64 0), (.int .i64 0), (.int .i64 0), (.int .i64 0), (.int .i64 0), (.int .i64 0), (.int .i64 0), (.int .i64 0), (.int .i64 0)]), 11, 96) := by kernel_rfl
structure S29 where
  f0 : Int
  f1 : Int
def z29 : S29 := ⟨(0 : Int), (0 : Int)⟩
def k29 : Kd S29 := Kd.iso (Kd.pair (Kd.int .i64) (Kd.int .i64)) (fun x : S29 => (x.f0, x.f1))
theorem k29_open {w : World} {x : S29} {cs : List Value} (h : k29.K w x cs) : cs = [.int .i64 x.f0, .int .i64 x.f1] := by
  obtain ⟨_, _, rfl, rfl, rfl⟩ := h
  exact rfl
theorem k29_mkM (w : World) (base : Nat) (ok : Nat → Prop) (x : S29)  : k29.M w base ok x [.int .i64 x.f0, .int .i64 x.f1] := ⟨[.int .i64 x.f0], [.int .i64 x.f1], rfl, rfl, rfl⟩
def rd_T29 (xs : List S29) (i : Int) : S29 := xs.getD i.toNat z29
theorem at_T29 {w : World} {A : Option Addr} {n : Nat} {xs : List S29} (h : Kd.C k29 w A n xs) (i : Int) (h0 : 0 ≤ i) (h1 : i < n) : ∃ ad , A = some ad ∧ w.cell? (ad.add (i.toNat * 2)) = some (.int .i64 (rd_T29 xs i).f0) ∧ w.cell? ⟨(ad.add (i.toNat * 2)).block, (ad.add (i.toNat * 2)).off + 1, none⟩ = some (.int .i64 (rd_T29 xs i).f1) := by
  obtain ⟨ad, c, e, _, hK, hc0⟩ := Kd.C_get h z29 i h0 h1
  have hc : ∀ j u, c[j]? = some u → w.cell? (ad.add (i.toNat * 2 + j)) = some u := hc0
  obtain rfl := k29_open hK
  exact ⟨ad, e, hc 0 _ rfl, by rw [← add_field _ _ 1 (by omega)]; exact hc 1 _ rfl⟩
structure S35 where
  f0 : Int
  f1 : Int
def z35 : S35 := ⟨(0 : Int), (0 : Int)⟩
def k35 : Kd S35 := Kd.iso (Kd.pair (Kd.int .i64) (Kd.int .i64)) (fun x : S35 => (x.f0, x.f1))
theorem k35_open {w : World} {x : S35} {cs : List Value} (h : k35.K w x cs) : cs = [.int .i64 x.f0, .int .i64 x.f1] := by
  obtain ⟨_, _, rfl, rfl, rfl⟩ := h
  exact rfl
theorem k35_mkM (w : World) (base : Nat) (ok : Nat → Prop) (x : S35)  : k35.M w base ok x [.int .i64 x.f0, .int .i64 x.f1] := ⟨[.int .i64 x.f0], [.int .i64 x.f1], rfl, rfl, rfl⟩
structure S37 where
  f0 : ByteArray
  f1 : Int
  f2 : Int
  f3 : S35
  f4 : S35
  f5 : S35
  f6 : S35
def z37 : S37 := ⟨(⟨#[]⟩ : ByteArray), (0 : Int), (0 : Int), z35, z35, z35, z35⟩
def k37 : Kd S37 := Kd.iso (Kd.pair Kd.string (Kd.pair (Kd.int .i64) (Kd.pair (Kd.int .i64) (Kd.pair k35 (Kd.pair k35 (Kd.pair k35 k35)))))) (fun x : S37 => (x.f0, x.f1, x.f2, x.f3, x.f4, x.f5, x.f6))
theorem k37_open {w : World} {x : S37} {cs : List Value} (h : k37.K w x cs) : cs = [.string x.f0, .int .i64 x.f1, .int .i64 x.f2, .int .i64 x.f3.f0, .int .i64 x.f3.f1, .int .i64 x.f4.f0, .int .i64 x.f4.f1, .int .i64 x.f5.f0, .int .i64 x.f5.f1, .int .i64 x.f6.f0, .int .i64 x.f6.f1] := by
  obtain ⟨_, _, rfl, rfl, ⟨_, _, rfl, rfl, ⟨_, _, rfl, rfl, ⟨_, _, rfl, s3, ⟨_, _, rfl, s5, ⟨_, _, rfl, s7, s9⟩⟩⟩⟩⟩⟩ := h
  obtain rfl := k35_open s3
  obtain rfl := k35_open s5
  obtain rfl := k35_open s7
  obtain rfl := k35_open s9
  exact rfl
theorem k37_mkM (w : World) (base : Nat) (ok : Nat → Prop) (x : S37)  : k37.M w base ok x [.string x.f0, .int .i64 x.f1, .int .i64 x.f2, .int .i64 x.f3.f0, .int .i64 x.f3.f1, .int .i64 x.f4.f0, .int .i64 x.f4.f1, .int .i64 x.f5.f0, .int .i64 x.f5.f1, .int .i64 x.f6.f0, .int .i64 x.f6.f1] := ⟨[.string x.f0], [.int .i64 x.f1, .int .i64 x.f2, .int .i64 x.f3.f0, .int .i64 x.f3.f1, .int .i64 x.f4.f0, .int .i64 x.f4.f1, .int .i64 x.f5.f0, .int .i64 x.f5.f1, .int .i64 x.f6.f0, .int .i64 x.f6.f1], rfl, rfl, ⟨[.int .i64 x.f1], [.int .i64 x.f2, .int .i64 x.f3.f0, .int .i64 x.f3.f1, .int .i64 x.f4.f0, .int .i64 x.f4.f1, .int .i64 x.f5.f0, .int .i64 x.f5.f1, .int .i64 x.f6.f0, .int .i64 x.f6.f1], rfl, rfl, ⟨[.int .i64 x.f2], [.int .i64 x.f3.f0, .int .i64 x.f3.f1, .int .i64 x.f4.f0, .int .i64 x.f4.f1, .int .i64 x.f5.f0, .int .i64 x.f5.f1, .int .i64 x.f6.f0, .int .i64 x.f6.f1], rfl, rfl, ⟨[.int .i64 x.f3.f0, .int .i64 x.f3.f1], [.int .i64 x.f4.f0, .int .i64 x.f4.f1, .int .i64 x.f5.f0, .int .i64 x.f5.f1, .int .i64 x.f6.f0, .int .i64 x.f6.f1], rfl, (k35_mkM w base ok x.f3 ), ⟨[.int .i64 x.f4.f0, .int .i64 x.f4.f1], [.int .i64 x.f5.f0, .int .i64 x.f5.f1, .int .i64 x.f6.f0, .int .i64 x.f6.f1], rfl, (k35_mkM w base ok x.f4 ), ⟨[.int .i64 x.f5.f0, .int .i64 x.f5.f1], [.int .i64 x.f6.f0, .int .i64 x.f6.f1], rfl, (k35_mkM w base ok x.f5 ), (k35_mkM w base ok x.f6 )⟩⟩⟩⟩⟩⟩
def rd_T37 (xs : List S37) (i : Int) : S37 := xs.getD i.toNat z37
theorem at_T37 {w : World} {A : Option Addr} {n : Nat} {xs : List S37} (h : Kd.C k37 w A n xs) (i : Int) (h0 : 0 ≤ i) (h1 : i < n) : ∃ ad , A = some ad ∧ w.cell? (ad.add (i.toNat * 11)) = some (.string (rd_T37 xs i).f0) ∧ w.cell? ⟨(ad.add (i.toNat * 11)).block, (ad.add (i.toNat * 11)).off + 1, none⟩ = some (.int .i64 (rd_T37 xs i).f1) ∧ w.cell? ⟨(ad.add (i.toNat * 11)).block, (ad.add (i.toNat * 11)).off + 2, none⟩ = some (.int .i64 (rd_T37 xs i).f2) ∧ w.cell? ⟨(ad.add (i.toNat * 11)).block, (ad.add (i.toNat * 11)).off + 3, none⟩ = some (.int .i64 (rd_T37 xs i).f3.f0) ∧ w.cell? ⟨(ad.add (i.toNat * 11)).block, (ad.add (i.toNat * 11)).off + 4, none⟩ = some (.int .i64 (rd_T37 xs i).f3.f1) ∧ w.cell? ⟨(ad.add (i.toNat * 11)).block, (ad.add (i.toNat * 11)).off + 5, none⟩ = some (.int .i64 (rd_T37 xs i).f4.f0) ∧ w.cell? ⟨(ad.add (i.toNat * 11)).block, (ad.add (i.toNat * 11)).off + 6, none⟩ = some (.int .i64 (rd_T37 xs i).f4.f1) ∧ w.cell? ⟨(ad.add (i.toNat * 11)).block, (ad.add (i.toNat * 11)).off + 7, none⟩ = some (.int .i64 (rd_T37 xs i).f5.f0) ∧ w.cell? ⟨(ad.add (i.toNat * 11)).block, (ad.add (i.toNat * 11)).off + 8, none⟩ = some (.int .i64 (rd_T37 xs i).f5.f1) ∧ w.cell? ⟨(ad.add (i.toNat * 11)).block, (ad.add (i.toNat * 11)).off + 9, none⟩ = some (.int .i64 (rd_T37 xs i).f6.f0) ∧ w.cell? ⟨(ad.add (i.toNat * 11)).block, (ad.add (i.toNat * 11)).off + 10, none⟩ = some (.int .i64 (rd_T37 xs i).f6.f1) := by
  obtain ⟨ad, c, e, _, hK, hc0⟩ := Kd.C_get h z37 i h0 h1
  have hc : ∀ j u, c[j]? = some u → w.cell? (ad.add (i.toNat * 11 + j)) = some u := hc0
  obtain rfl := k37_open hK
  exact ⟨ad, e, hc 0 _ rfl, by rw [← add_field _ _ 1 (by omega)]; exact hc 1 _ rfl, by rw [← add_field _ _ 2 (by omega)]; exact hc 2 _ rfl, by rw [← add_field _ _ 3 (by omega)]; exact hc 3 _ rfl, by rw [← add_field _ _ 4 (by omega)]; exact hc 4 _ rfl, by rw [← add_field _ _ 5 (by omega)]; exact hc 5 _ rfl, by rw [← add_field _ _ 6 (by omega)]; exact hc 6 _ rfl, by rw [← add_field _ _ 7 (by omega)]; exact hc 7 _ rfl, by rw [← add_field _ _ 8 (by omega)]; exact hc 8 _ rfl, by rw [← add_field _ _ 9 (by omega)]; exact hc 9 _ rfl, by rw [← add_field _ _ 10 (by omega)]; exact hc 10 _ rfl⟩
structure S32 where
  f0 : (List S37)
  f1 : Bool
def z32 : S32 := ⟨([] : List S37), false⟩
def k32 : Kd S32 := Kd.iso (Kd.pair (Kd.slice 37 k37) Kd.bool) (fun x : S32 => (x.f0, x.f1))
theorem k32_open {w : World} {x : S32} {cs : List Value} (h : k32.K w x cs) : ∃ A0 c0, cs = [.slice A0 x.f0.length c0, .bool x.f1] ∧ x.f0.length ≤ c0 ∧ k37.C w A0 x.f0.length x.f0 := by
  obtain ⟨_, _, rfl, ⟨A0, c0, rfl, l0, g0⟩, rfl⟩ := h
  exact ⟨A0, c0, rfl, l0, g0⟩
theorem k32_openM {w : World} {base : Nat} {ok : Nat → Prop} {x : S32} {cs : List Value} (h : k32.M w base ok x cs) : ∃ v0, cs = [v0, .bool x.f1] ∧ k37.R 37 w base ok v0 x.f0 := by
  obtain ⟨_, _, rfl, ⟨v0, rfl, g0⟩, rfl⟩ := h
  exact ⟨v0, rfl, g0⟩
theorem k32_mkM (w : World) (base : Nat) (ok : Nat → Prop) (x : S32) {v0 : Value} (g0 : k37.R 37 w base ok v0 x.f0) : k32.M w base ok x [v0, .bool x.f1] := ⟨[v0], [.bool x.f1], rfl, ⟨v0, rfl, g0⟩, rfl⟩
def rd_T32 (xs : List S32) (i : Int) : S32 := xs.getD i.toNat z32
theorem at_T32 {w : World} {A : Option Addr} {n : Nat} {xs : List S32} (h : Kd.C k32 w A n xs) (i : Int) (h0 : 0 ≤ i) (h1 : i < n) : ∃ ad A0 c0, A = some ad ∧ w.cell? (ad.add (i.toNat * 2)) = some (.slice A0 (rd_T32 xs i).f0.length c0) ∧ w.cell? ⟨(ad.add (i.toNat * 2)).block, (ad.add (i.toNat * 2)).off + 1, none⟩ = some (.bool (rd_T32 xs i).f1) ∧ (rd_T32 xs i).f0.length ≤ c0 ∧ k37.C w A0 (rd_T32 xs i).f0.length (rd_T32 xs i).f0 := by
  obtain ⟨ad, c, e, _, hK, hc0⟩ := Kd.C_get h z32 i h0 h1
  have hc : ∀ j u, c[j]? = some u → w.cell? (ad.add (i.toNat * 2 + j)) = some u := hc0
  obtain ⟨A0, c0, rfl, l0, g0⟩ := k32_open hK
  exact ⟨ad, A0, c0, e, hc 0 _ rfl, by rw [← add_field _ _ 1 (by omega)]; exact hc 1 _ rfl, l0, g0⟩
end Go.Proofs.YtnednnnegofhkaaDoor.Pr
namespace Go.Proofs.YtnednnnegofhkaaDoor.Pr
open Go.RowKit Go.Proofs.YtnednnnegofhkaaDoorW.PrintWords Go.Proofs.YtnednnnegofhkaaDoorW.PrintLast Go.Proofs.YtnednnnegofhkaaDoorW.PrintMore
attribute [local go_sem] max2_int min2_int max_two min_two max_three min_three max_four min_four
set_option linter.unusedVariables false
set_option linter.unusedSimpArgs false
def spec_l1In.f (a0 : Int) (a1 : Int) (a2 : Int) : Option (Bool) := if a0 ≥ a1 then (some (decide (a0 ≤ a2))) else (some false)
set_option maxHeartbeats 8000000 in
set_option maxRecDepth 100000 in
theorem spec_l1In.calls (a0 : Int) (a1 : Int) (a2 : Int) (r : Bool) (w : World) (h : spec_l1In.f a0 a1 a2 = some r) :
    Calls Tryd.prog 31 #[.int .i64 a0, .int .i64 a1, .int .i64 a2] w fun e w' => e = .returned (.bool r) ∧ Drawn0 w w' := by
  have H : (if a0 ≥ a1 then (some (decide (a0 ≤ a2))) else (some false)) = some r := h
  clear h
  by_cases c4 : a0 ≥ a1
  · rw [if_pos c4] at H
    have c4b0 : decide (a1 ≤ a0) = true := decide_eq_true c4
    clear c4
    obtain rfl := Option.some.inj H
    go_enter Tryd.func31, Tryd.ntmps31
    go_wp2
    go_ret
    exact ⟨by first | rfl | (simp; done) | (simp [*]; done), by repeat (first | exact Drawn0.refl _ | apply Drawn0.step)⟩
  · rw [if_neg c4] at H
    have c4b0 : decide (a1 ≤ a0) = false := decide_eq_false c4
    clear c4
    obtain rfl := Option.some.inj H
    go_enter Tryd.func31, Tryd.ntmps31
    go_wp2
    go_ret
    exact ⟨by first | rfl | (simp; done) | (simp [*]; done), by repeat (first | exact Drawn0.refl _ | apply Drawn0.step)⟩
end Go.Proofs.YtnednnnegofhkaaDoor.Pr
namespace Go.Proofs.YtnednnnegofhkaaDoor.Pr
open Go.RowKit Go.Proofs.YtnednnnegofhkaaDoorW.PrintWords Go.Proofs.YtnednnnegofhkaaDoorW.PrintLast Go.Proofs.YtnednnnegofhkaaDoorW.PrintMore
attribute [local go_sem] max2_int min2_int max_two min_two max_three min_three max_four min_four
set_option linter.unusedVariables false
set_option linter.unusedSimpArgs false
def spec_l2Col.f (a0_0 : Int) (a0_1 : Int) : Option (Bool) := if a0_0 = 0 then (some (a0_1 == 0)) else (if a0_0 = 1 then ((spec_l1In.f a0_1 0 60).bind fun t105 => (some t105)) else (if a0_0 = 2 then ((spec_l1In.f a0_1 1 100).bind fun t106 => (some t106)) else (some false)))
theorem bq32_ {w : World} {g : Nat} {t : TypeId} {cs : Array Value} {v : Value} (h : w.heap[g]? = some (.cells cs t (0, 0))) (i : Nat) (e : cs[i]? = some v) : w.cell? ⟨g, i, none⟩ = some v := (blk_cell h i).trans e
set_option maxHeartbeats 8000000 in
set_option maxRecDepth 100000 in
theorem spec_l2Col.calls (a0_0 : Int) (a0_1 : Int) (r : Bool) (w : World) (h : spec_l2Col.f a0_0 a0_1 = some r) :
  Calls Tryd.prog 32 #[.agg #[.int .i64 a0_0, .int .i64 a0_1]] w fun e w' => e = .returned (.bool r) ∧ Below w.heap.size w w' := by
 have hu29 := Tryd.underlying29
 have HB := Aside0.mk (Below.refl w.heap.size w)
 have H := h
 unfold spec_l2Col.f at H
 clear h
 by_cases c2 : a0_0 = 0
 ·rw [if_pos c2] at H
  have ai : (a0_0 == 0) = true := beq_iff_eq.mpr c2
  have af : (a0_0 != 0) = false := bne_eq_false_iff_eq.mpr c2
  clear c2
  obtain rfl := Option.some.inj H
  go_enter Tryd.func32, Tryd.ntmps32
  go_wp2_with (first | ((with_reducible refine gate_dst (N := 1) rfl ?_); refine box_event ?hg (N := 1) ?hd (cs := #[.int .i64 a0_0, .int .i64 a0_1]) (t := 29) ?hr ?_; (case hd => rfl); (case hg => rfl); (case hr => go_simp <;> rfl); intro ab hg w3 hbox hb; have n0_ := Aside0.mk (below_step (by repeat (first | (with_reducible first | exact HB.out | apply below_alloc | apply pw_below_drewN | apply below_drew1) | exact HB.out)) hb); have n1_ := Aside0.mk (hbox); have n2_ := Aside0.mk ((by rw [hg]; exact (below_size (by repeat (first | (with_reducible first | exact HB.out | apply below_alloc | apply pw_below_drewN | apply below_drew1) | exact HB.out))) : w.heap.size ≤ ab)); have n3_ := Aside0.mk n2_.out; replace HB := n0_; have aa := n1_; have ad := n2_; have ac := n3_; clear n0_ n1_ n2_ n3_; clear hb hbox hg; have av := bq32_ aa.out 0 rfl; have aA := bq32_ aa.out 1 rfl; have aw := blk_frozen aa.out 0; have az := blk_frozen aa.out 1))
  go_ret
  exact ⟨by first | rfl | (simp [errW_none, errW_some] <;> rfl) | (simp [*, errW_none, errW_some] <;> rfl), by repeat (first | (with_reducible first | exact HB.out | apply below_alloc | apply pw_below_drewN | apply below_drew1 | refine below_set ?_ ac.out) | exact HB.out)⟩
 ·rw [if_neg c2] at H
  have ai : (a0_0 == 0) = false := beq_eq_false_iff_ne.mpr c2
  have af : (a0_0 != 0) = true := bne_iff_ne.mpr c2
  by_cases c5 : a0_0 = 1
  ·rw [if_pos c5] at H
   have ak : (a0_0 == 1) = true := beq_iff_eq.mpr c5
   have ah : (a0_0 != 1) = false := bne_eq_false_iff_eq.mpr c5
   clear c5
   replace H := Option.bind_eq_some_iff.mp H
   obtain ⟨t105, A60, H⟩ := H
   (try dsimp only at H)
   have A6 := Aside0.mk A60
   clear A60
   obtain rfl := Option.some.inj H
   go_enter Tryd.func32, Tryd.ntmps32
   go_wp2_with (first | ((with_reducible refine gate_dst (N := 1) rfl ?_); refine box_event ?hg (N := 1) ?hd (cs := #[.int .i64 a0_0, .int .i64 a0_1]) (t := 29) ?hr ?_; (case hd => rfl); (case hg => rfl); (case hr => go_simp <;> rfl); intro ab hg w7 hbox hb; have n0_ := Aside0.mk (below_step (by repeat (first | (with_reducible first | exact HB.out | apply below_alloc | apply pw_below_drewN | apply below_drew1) | exact HB.out)) hb); have n1_ := Aside0.mk (hbox); have n2_ := Aside0.mk ((by rw [hg]; exact (below_size (by repeat (first | (with_reducible first | exact HB.out | apply below_alloc | apply pw_below_drewN | apply below_drew1) | exact HB.out))) : w.heap.size ≤ ab)); have n3_ := Aside0.mk n2_.out; replace HB := n0_; have aa := n1_; have ad := n2_; have ac := n3_; clear n0_ n1_ n2_ n3_; clear hb hbox hg; have aB := bq32_ aa.out 0 rfl; have aC := bq32_ aa.out 1 rfl; have ay := blk_frozen aa.out 0; have ax := blk_frozen aa.out 1) | ((with_reducible refine gate_callee (f := 31) rfl ?_); refine goesL_ (some 14) rfl rfl Tryd.func31 (by kernel_rfl) rfl #[.int .i64 a0_1, .int .i64 0, .int .i64 60] rfl (by (try simp only [List.map_toArray, List.map_cons, List.map_nil]) <;> rfl) ?_; (with_reducible refine (spec_l1In.calls a0_1 0 60 t105 _ A6.out).mono ?_); rintro e w' ⟨rfl, ⟨nd, rfl⟩⟩; refine ⟨_, rfl, ?_⟩))
   go_ret
   exact ⟨by first | rfl | (simp [errW_none, errW_some] <;> rfl) | (simp [*, errW_none, errW_some] <;> rfl), by repeat (first | (with_reducible first | exact HB.out | apply below_alloc | apply pw_below_drewN | apply below_drew1 | refine below_set ?_ ac.out) | exact HB.out)⟩
  ·rw [if_neg c5] at H
   have ak : (a0_0 == 1) = false := beq_eq_false_iff_ne.mpr c5
   have ah : (a0_0 != 1) = true := bne_iff_ne.mpr c5
   by_cases c9 : a0_0 = 2
   ·rw [if_pos c9] at H
    have aj : (a0_0 == 2) = true := beq_iff_eq.mpr c9
    have ag : (a0_0 != 2) = false := bne_eq_false_iff_eq.mpr c9
    clear c9
    replace H := Option.bind_eq_some_iff.mp H
    obtain ⟨t106, ae, H⟩ := H
    (try dsimp only at H)
    have A10 := Aside0.mk ae
    clear ae
    obtain rfl := Option.some.inj H
    go_enter Tryd.func32, Tryd.ntmps32
    go_wp2_with (first | ((with_reducible refine gate_dst (N := 1) rfl ?_); refine box_event ?hg (N := 1) ?hd (cs := #[.int .i64 a0_0, .int .i64 a0_1]) (t := 29) ?hr ?_; (case hd => rfl); (case hg => rfl); (case hr => go_simp <;> rfl); intro ab hg w11 hbox hb; have n0_ := Aside0.mk (below_step (by repeat (first | (with_reducible first | exact HB.out | apply below_alloc | apply pw_below_drewN | apply below_drew1) | exact HB.out)) hb); have n1_ := Aside0.mk (hbox); have n2_ := Aside0.mk ((by rw [hg]; exact (below_size (by repeat (first | (with_reducible first | exact HB.out | apply below_alloc | apply pw_below_drewN | apply below_drew1) | exact HB.out))) : w.heap.size ≤ ab)); have n3_ := Aside0.mk n2_.out; replace HB := n0_; have aa := n1_; have ad := n2_; have ac := n3_; clear n0_ n1_ n2_ n3_; clear hb hbox hg; have ao := bq32_ aa.out 0 rfl; have aq := bq32_ aa.out 1 rfl; have al := blk_frozen aa.out 0; have ar := blk_frozen aa.out 1) | (go_at_call 31; (with_reducible refine (spec_l1In.calls a0_1 1 100 t106 _ A10.out).mono ?_); rintro e w' ⟨rfl, ⟨nd, rfl⟩⟩))
    go_ret
    exact ⟨by first | rfl | (simp [errW_none, errW_some] <;> rfl) | (simp [*, errW_none, errW_some] <;> rfl), by repeat (first | (with_reducible first | exact HB.out | apply below_alloc | apply pw_below_drewN | apply below_drew1 | refine below_set ?_ ac.out) | exact HB.out)⟩
   ·rw [if_neg c9] at H
    have aj : (a0_0 == 2) = false := beq_eq_false_iff_ne.mpr c9
    have ag : (a0_0 != 2) = true := bne_iff_ne.mpr c9
    obtain rfl := Option.some.inj H
    go_enter Tryd.func32, Tryd.ntmps32
    go_wp2_with (first | ((with_reducible refine gate_dst (N := 1) rfl ?_); refine box_event ?hg (N := 1) ?hd (cs := #[.int .i64 a0_0, .int .i64 a0_1]) (t := 29) ?hr ?_; (case hd => rfl); (case hg => rfl); (case hr => go_simp <;> rfl); intro ab hg w13 hbox hb; have n0_ := Aside0.mk (below_step (by repeat (first | (with_reducible first | exact HB.out | apply below_alloc | apply pw_below_drewN | apply below_drew1) | exact HB.out)) hb); have n1_ := Aside0.mk (hbox); have n2_ := Aside0.mk ((by rw [hg]; exact (below_size (by repeat (first | (with_reducible first | exact HB.out | apply below_alloc | apply pw_below_drewN | apply below_drew1) | exact HB.out))) : w.heap.size ≤ ab)); have n3_ := Aside0.mk n2_.out; replace HB := n0_; have aa := n1_; have ad := n2_; have ac := n3_; clear n0_ n1_ n2_ n3_; clear hb hbox hg; have ap := bq32_ aa.out 0 rfl; have au := bq32_ aa.out 1 rfl; have am := blk_frozen aa.out 0; have an := blk_frozen aa.out 1))
    go_ret
    exact ⟨by first | rfl | (simp [errW_none, errW_some] <;> rfl) | (simp [*, errW_none, errW_some] <;> rfl), by repeat (first | (with_reducible first | exact HB.out | apply below_alloc | apply pw_below_drewN | apply below_drew1 | refine below_set ?_ ac.out) | exact HB.out)⟩
end Go.Proofs.YtnednnnegofhkaaDoor.Pr
namespace Go.Proofs.YtnednnnegofhkaaDoor.Pr
open Go.RowKit Go.Proofs.YtnednnnegofhkaaDoorW.PrintWords Go.Proofs.YtnednnnegofhkaaDoorW.PrintLast Go.Proofs.YtnednnnegofhkaaDoorW.PrintMore
attribute [local go_sem] max2_int min2_int max_two min_two max_three min_three max_four min_four
set_option linter.unusedVariables false
set_option linter.unusedSimpArgs false
mutual
def spec_TxtOk.l0 : Nat → ByteArray → Int → Option (Bool)
  | 0, _, _ => none
  | k + 1, x0, x3 => if x3 < (x0.size : Int) then (if 0 ≤ x3 then (if (bt x0 x3) = 32 then (if x3 = 0 then (spec_TxtOk.j1 k x0 x3 true) else (if x3 = (wrap64 ((x0.size : Int) - 1)) then (spec_TxtOk.j1 k x0 x3 true) else (if 0 ≤ (wrap64 (x3 - 1)) then (if (wrap64 (x3 - 1)) < (x0.size : Int) then (spec_TxtOk.j1 k x0 x3 ((bt x0 (wrap64 (x3 - 1))) == 32)) else (none)) else (none)))) else (spec_TxtOk.j1 k x0 x3 false)) else (none)) else (some true)
def spec_TxtOk.j1 : Nat → ByteArray → Int → Bool → Option (Bool)
  | 0, _, _, _ => none
  | k + 1, x0, x3, x34 => if x34 = true then (some false) else (if 0 ≤ x3 then (if x3 < (x0.size : Int) then (if (bt x0 x3) = 32 then (spec_TxtOk.l0 k x0 (wrap64 (x3 + 1))) else ((spec_l1In.f (wrap64 (bt x0 x3)) 97 122).bind fun t107 => (if t107 = true then (spec_TxtOk.l0 k x0 (wrap64 (x3 + 1))) else (some false)))) else (none)) else (none))
end
def spec_TxtOk.f (k : Nat) (a0 : ByteArray) : Option (Bool) := if (a0.size : Int) > 30 then (some false) else (spec_TxtOk.l0 k a0 0)
theorem spec_TxtOk.mono_l : ∀ k, (∀ y0 y1, LeO (spec_TxtOk.l0 k y0 y1) (spec_TxtOk.l0 (k + 1) y0 y1)) ∧ (∀ y0 y1 y2, LeO (spec_TxtOk.j1 k y0 y1 y2) (spec_TxtOk.j1 (k + 1) y0 y1 y2))
  | 0 => ⟨fun _ _ r h => by simp [spec_TxtOk.l0] at h, fun _ _ _ r h => by simp [spec_TxtOk.j1] at h⟩
  | k + 1 => by
    obtain ⟨ih0, ih1⟩ := spec_TxtOk.mono_l k
    refine ⟨?_, ?_⟩
    · intro y0 y1
      unfold spec_TxtOk.l0
      repeat' first
      | (with_reducible exact ih0 _ _)
      | (with_reducible exact ih1 _ _ _)
      | (with_reducible exact LeO.refl _)
      | (with_reducible exact LeO.none _)
      | (with_reducible refine LeO.ite ?_ ?_)
      | (with_reducible refine LeO.bind ?_ (fun _ => ?_))
      | exact ih0 _ _
      | exact ih1 _ _ _
      | exact LeO.none _
      | refine LeO.ite ?_ ?_
      | refine LeO.bind ?_ (fun _ => ?_)
    · intro y0 y1 y2
      unfold spec_TxtOk.j1
      repeat' first
      | (with_reducible exact ih0 _ _)
      | (with_reducible exact ih1 _ _ _)
      | (with_reducible exact LeO.refl _)
      | (with_reducible exact LeO.none _)
      | (with_reducible refine LeO.ite ?_ ?_)
      | (with_reducible refine LeO.bind ?_ (fun _ => ?_))
      | exact ih0 _ _
      | exact ih1 _ _ _
      | exact LeO.none _
      | refine LeO.ite ?_ ?_
      | refine LeO.bind ?_ (fun _ => ?_)
theorem spec_TxtOk.mono : ∀ a0 k, LeO (spec_TxtOk.f k a0) (spec_TxtOk.f (k + 1) a0) := by
  intro a0 k
  obtain ⟨ih0, ih1⟩ := spec_TxtOk.mono_l k
  unfold spec_TxtOk.f
  repeat' first
      | (with_reducible exact ih0 _ _)
      | (with_reducible exact ih1 _ _ _)
      | (with_reducible exact LeO.refl _)
      | (with_reducible exact LeO.none _)
      | (with_reducible refine LeO.ite ?_ ?_)
      | (with_reducible refine LeO.bind ?_ (fun _ => ?_))
      | exact ih0 _ _
      | exact ih1 _ _ _
      | exact LeO.none _
      | refine LeO.ite ?_ ?_
      | refine LeO.bind ?_ (fun _ => ?_)
set_option maxHeartbeats 8000000 in
set_option maxRecDepth 100000 in
theorem spec_TxtOk.calls (k : Nat) (a0 : ByteArray) (r : Bool) (w : World) (h : spec_TxtOk.f k a0 = some r) :
  Calls Tryd.prog 48 #[.string a0] w fun e w' => e = .returned (.bool r) ∧ Drawn0 w w' := by
 have H := h
 unfold spec_TxtOk.f at H
 clear h
 by_cases c2 : (a0.size : Int) > 30
 ·rw [if_pos c2] at H
  have af : decide (30 < (a0.size : Int)) = true := decide_eq_true c2
  have ae : decide (30 < a0.size) = true := decide_eq_true (by omega)
  clear c2
  obtain rfl := Option.some.inj H
  go_enter Tryd.func48, Tryd.ntmps48
  go_wp2
  go_ret
  exact ⟨by first | rfl | (simp; done) | (simp [*]; done), by repeat (first | exact Drawn0.refl _ | apply Drawn0.step)⟩
 ·rw [if_neg c2] at H
  have af : decide (30 < (a0.size : Int)) = false := decide_eq_false c2
  have ae : decide (30 < a0.size) = false := decide_eq_false (by omega)
  clear c2
  have H' := Aside0.mk H
  clear H
  go_enter Tryd.func48, Tryd.ntmps48
  go_wp2
  go_loopg [3] k (fun kq v3 w' => ∃ (aa : Int), v3 = .int .i64 aa ∧ Aside0 (spec_TxtOk.l0 kq a0 aa = some r) ∧ Aside0 (kq ≤ k) ∧ Drawn0 w w')
  case atStart => exact ⟨(0), (by first | rfl | (simp; done) | (simp [*]; done)), H', ⟨Nat.le_refl _⟩, by repeat (first | exact Drawn0.refl _ | apply Drawn0.step)⟩
  case round =>
   clear H'
   try clear c2
   try clear af
   try clear ae
   try clear p2
   obtain ⟨aa, rfl, HA, HK1, ⟨m1, rfl⟩⟩ := hrel
   cases gk with
   | zero => exact absurd HA.out (by simp [spec_TxtOk.l0])
   | succ k1 =>
    have H := HA.out
    clear HA
    simp only [spec_TxtOk.l0] at H
    by_cases c3 : aa < (a0.size : Int)
    ·rw [if_pos c3] at H
     have an : decide (aa < (a0.size : Int)) = true := decide_eq_true c3
     clear c3
     have HC4 := Aside0.mk H
     clear H
     go_upto_region 6 with (fail)
     go_cut [34] (fun v34 wc => ∃ (kq : Nat) (ad : Bool), v34 = .bool ad ∧ Aside0 (spec_TxtOk.j1 kq a0 aa ad = some r) ∧ Aside0 (kq ≤ k1) ∧ Drawn0 w wc)
     case first =>
      have H := HC4.out
      clear HC4
      by_cases c5 : 0 ≤ aa
      ·rw [if_pos c5] at H
       have ag : decide (0 ≤ aa) = true := decide_eq_true c5
       clear c5
       (first | rw [ag] | (simp only [i64_w, i32_w]; rw [ag]) | skip)
       by_cases c7 : (bt a0 aa) = 32
       ·rw [if_pos c7] at H
        have ah : ((bt a0 aa) == 32) = true := beq_iff_eq.mpr c7
        have al : ((bt a0 aa) != 32) = false := bne_eq_false_iff_eq.mpr c7
        clear c7
        by_cases c8 : aa = 0
        ·rw [if_pos c8] at H
         have ak : (aa == 0) = true := beq_iff_eq.mpr c8
         have ao : (aa != 0) = false := bne_eq_false_iff_eq.mpr c8
         clear c8
         have H' := Aside0.mk H
         clear H
         have p6 : 0 ≤ (aa : Int) := of_decide_eq_true (by first | (with_reducible assumption) | assumption)
         have q6 : aa < (a0.size : Int) := of_decide_eq_true (by first | (with_reducible assumption) | assumption)
         have hx6 := bt_at a0 aa
         replace p6 := eq_true p6
         replace q6 := eq_true q6
         go_wp2
         go_meet
         case rel => exact ⟨_, (true), (by first | rfl | (simp; done) | (simp [*]; done)), H', ⟨by have := HK1.out; first | omega | exact Nat.le_refl _⟩, by repeat (first | exact Drawn0.refl _ | apply Drawn0.step)⟩
        ·rw [if_neg c8] at H
         have ak : (aa == 0) = false := beq_eq_false_iff_ne.mpr c8
         have ao : (aa != 0) = true := bne_iff_ne.mpr c8
         by_cases c9 : aa = (wrap64 ((a0.size : Int) - 1))
         ·rw [if_pos c9] at H
          have ap : (aa == (wrap64 ((a0.size : Int) - 1))) = true := beq_iff_eq.mpr c9
          have aj : (aa != (wrap64 ((a0.size : Int) - 1))) = false := bne_eq_false_iff_eq.mpr c9
          clear c9
          have H' := Aside0.mk H
          clear H
          have p6 : 0 ≤ (aa : Int) := of_decide_eq_true (by first | (with_reducible assumption) | assumption)
          have q6 : aa < (a0.size : Int) := of_decide_eq_true (by first | (with_reducible assumption) | assumption)
          have hx6 := bt_at a0 aa
          replace p6 := eq_true p6
          replace q6 := eq_true q6
          go_wp2
          go_meet
          case rel => exact ⟨_, (true), (by first | rfl | (simp; done) | (simp [*]; done)), H', ⟨by have := HK1.out; first | omega | exact Nat.le_refl _⟩, by repeat (first | exact Drawn0.refl _ | apply Drawn0.step)⟩
         ·rw [if_neg c9] at H
          have ap : (aa == (wrap64 ((a0.size : Int) - 1))) = false := beq_eq_false_iff_ne.mpr c9
          have aj : (aa != (wrap64 ((a0.size : Int) - 1))) = true := bne_iff_ne.mpr c9
          obtain ⟨ab, ac⟩ : ∃ j_ : Int, (wrap64 (aa - 1)) = j_ := ⟨_, rfl⟩
          replace H : (if 0 ≤ (ab) then (if (ab) < (a0.size : Int) then (spec_TxtOk.j1 k1 a0 aa ((bt a0 (ab)) == 32)) else (none)) else (none)) = some r := by first | (rw [ac] at H; exact H) | (simp only [ac] at H ⊢; exact H)
          have ay : (IntKind.i64.wrap (aa - 1)) = ab := (i64_w _).trans ac
          by_cases c11 : 0 ≤ (ab)
          ·rw [if_pos c11] at H
           have av : decide (0 ≤ (ab)) = true := decide_eq_true c11
           clear c11
           by_cases c12 : (ab) < (a0.size : Int)
           ·rw [if_pos c12] at H
            have ar : decide ((ab) < (a0.size : Int)) = true := decide_eq_true c12
            clear c12
            have H' := Aside0.mk H
            clear H
            have p6 : 0 ≤ (aa : Int) := of_decide_eq_true (by first | (with_reducible assumption) | assumption)
            have q6 : aa < (a0.size : Int) := of_decide_eq_true (by first | (with_reducible assumption) | assumption)
            have hx6 := bt_at a0 aa
            replace p6 := eq_true p6
            replace q6 := eq_true q6
            have p13 : 0 ≤ ((ab) : Int) := of_decide_eq_true (by first | (with_reducible assumption) | assumption)
            have q13 : (ab) < (a0.size : Int) := of_decide_eq_true (by first | (with_reducible assumption) | assumption)
            have ax := bt_at a0 (ab)
            replace p13 := eq_true p13
            replace q13 := eq_true q13
            go_wp2
            go_meet
            case rel => exact ⟨_, (((bt a0 (ab)) == 32)), (by first | rfl | (simp; done) | (simp only [← ac] <;> (first | rfl | simp)) | (simp [*]; done)), H', ⟨by have := HK1.out; first | omega | exact Nat.le_refl _⟩, by repeat (first | exact Drawn0.refl _ | apply Drawn0.step)⟩
           ·rw [if_neg c12] at H
            exact absurd H (by simp)
          ·rw [if_neg c11] at H
           exact absurd H (by simp)
       ·rw [if_neg c7] at H
        have ah : ((bt a0 aa) == 32) = false := beq_eq_false_iff_ne.mpr c7
        have al : ((bt a0 aa) != 32) = true := bne_iff_ne.mpr c7
        have H' := Aside0.mk H
        clear H
        have p6 : 0 ≤ (aa : Int) := of_decide_eq_true (by first | (with_reducible assumption) | assumption)
        have q6 : aa < (a0.size : Int) := of_decide_eq_true (by first | (with_reducible assumption) | assumption)
        have hx6 := bt_at a0 aa
        replace p6 := eq_true p6
        replace q6 := eq_true q6
        go_wp2
        go_meet
        case rel => exact ⟨_, (false), (by first | rfl | (simp; done) | (simp [*]; done)), H', ⟨by have := HK1.out; first | omega | exact Nat.le_refl _⟩, by repeat (first | exact Drawn0.refl _ | apply Drawn0.step)⟩
      ·rw [if_neg c5] at H
       exact absurd H (by simp)
     case rest =>
      clear HC4
      try clear c1
      try clear p1
      try clear q1
      try clear hx1
      try clear c2
      try clear af
      try clear ae
      try clear p2
      try clear c3
      try clear an
      try clear c4
      try clear c5
      try clear ag
      try clear p6
      try clear q6
      try clear hx6
      try clear c7
      try clear ah
      try clear al
      try clear c8
      try clear ak
      try clear ao
      try clear c9
      try clear ap
      try clear aj
      try clear c11
      try clear av
      try clear c12
      try clear ar
      try clear p13
      try clear q13
      try clear ax
      try clear p13
      try clear p2
      try clear p6
      try clear q13
      try clear q6
      obtain ⟨kq, ad, rfl, HA, HJ3, ⟨mc3, rfl⟩⟩ := hcut
      cases kq with
      | zero => exact absurd HA.out (by simp [spec_TxtOk.j1])
      | succ kj3 =>
       have H := HA.out
       clear HA
       simp only [spec_TxtOk.j1] at H
       by_cases c14 : ad = true
       ·subst c14
        have H1 : (some false) = some r := by rw [if_pos rfl] at H; exact H
        clear H
        have H := H1
        clear H1
        obtain rfl := Option.some.inj H
        go_wp2
        go_ret
        exact ⟨by first | rfl | (simp; done) | (simp [*]; done), by repeat (first | exact Drawn0.refl _ | apply Drawn0.step)⟩
       ·replace c14 := Bool.eq_false_iff.mpr c14
        subst c14
        have H1 : (if 0 ≤ aa then (if aa < (a0.size : Int) then (if (bt a0 aa) = 32 then (spec_TxtOk.l0 kj3 a0 (wrap64 (aa + 1))) else ((spec_l1In.f (wrap64 (bt a0 aa)) 97 122).bind fun t107 => (if t107 = true then (spec_TxtOk.l0 kj3 a0 (wrap64 (aa + 1))) else (some false)))) else (none)) else (none)) = some r := by rw [if_neg (show ¬ (false = true) by decide)] at H; exact H
        clear H
        have H := H1
        clear H1
        by_cases c15 : 0 ≤ aa
        ·rw [if_pos c15] at H
         have c15b0 : decide (0 ≤ aa) = true := decide_eq_true c15
         clear c15
         by_cases c16 : aa < (a0.size : Int)
         ·rw [if_pos c16] at H
          have c16b0 : decide (aa < (a0.size : Int)) = true := decide_eq_true c16
          clear c16
          by_cases c18 : (bt a0 aa) = 32
          ·rw [if_pos c18] at H
           have au : ((bt a0 aa) == 32) = true := beq_iff_eq.mpr c18
           have aq : ((bt a0 aa) != 32) = false := bne_eq_false_iff_eq.mpr c18
           clear c18
           have H' := Aside0.mk H
           clear H
           have p17 : 0 ≤ (aa : Int) := of_decide_eq_true (by first | (with_reducible assumption) | assumption)
           have q17 : aa < (a0.size : Int) := of_decide_eq_true (by first | (with_reducible assumption) | assumption)
           have ai := bt_at a0 aa
           replace p17 := eq_true p17
           replace q17 := eq_true q17
           go_wp2
           go_roundg kj3
           case measure => have := HK1.out; have := HJ3.out; omega
           case rel => exact ⟨(wrap64 (aa + 1)), (by first | rfl | (simp; done) | (simp [*]; done)), H', ⟨by have := HK1.out; have := HJ3.out; omega⟩, by repeat (first | exact Drawn0.refl _ | apply Drawn0.step)⟩
          ·rw [if_neg c18] at H
           have au : ((bt a0 aa) == 32) = false := beq_eq_false_iff_ne.mpr c18
           have aq : ((bt a0 aa) != 32) = true := bne_iff_ne.mpr c18
           replace H := Option.bind_eq_some_iff.mp H
           obtain ⟨t107, am, H⟩ := H
           (try dsimp only at H)
           have A20 := Aside0.mk am
           clear am
           by_cases c21 : t107 = true
           ·subst c21
            have H1 : (spec_TxtOk.l0 kj3 a0 (wrap64 (aa + 1))) = some r := by rw [if_pos rfl] at H; exact H
            clear H
            have H := H1
            clear H1
            have H' := Aside0.mk H
            clear H
            have p17 : 0 ≤ (aa : Int) := of_decide_eq_true (by first | (with_reducible assumption) | assumption)
            have q17 : aa < (a0.size : Int) := of_decide_eq_true (by first | (with_reducible assumption) | assumption)
            have ai := bt_at a0 aa
            replace p17 := eq_true p17
            replace q17 := eq_true q17
            have p19 : 0 ≤ (aa : Int) := of_decide_eq_true (by first | (with_reducible assumption) | assumption)
            have q19 : aa < (a0.size : Int) := of_decide_eq_true (by first | (with_reducible assumption) | assumption)
            have aw := bt_at a0 aa
            replace p19 := eq_true p19
            replace q19 := eq_true q19
            go_wp2_with (first | (go_at_call 31; (with_reducible refine (spec_l1In.calls (wrap64 (bt a0 aa)) 97 122 true _ A20.out).mono ?_); rintro e w' ⟨rfl, ⟨nd, rfl⟩⟩))
            go_roundg kj3
            case measure => have := HK1.out; have := HJ3.out; omega
            case rel => exact ⟨(wrap64 (aa + 1)), (by first | rfl | (simp; done) | (simp [*]; done)), H', ⟨by have := HK1.out; have := HJ3.out; omega⟩, by repeat (first | exact Drawn0.refl _ | apply Drawn0.step)⟩
           ·replace c21 := Bool.eq_false_iff.mpr c21
            subst c21
            have H1 : (some false) = some r := by rw [if_neg (show ¬ (false = true) by decide)] at H; exact H
            clear H
            have H := H1
            clear H1
            obtain rfl := Option.some.inj H
            have p17 : 0 ≤ (aa : Int) := of_decide_eq_true (by first | (with_reducible assumption) | assumption)
            have q17 : aa < (a0.size : Int) := of_decide_eq_true (by first | (with_reducible assumption) | assumption)
            have ai := bt_at a0 aa
            replace p17 := eq_true p17
            replace q17 := eq_true q17
            have p19 : 0 ≤ (aa : Int) := of_decide_eq_true (by first | (with_reducible assumption) | assumption)
            have q19 : aa < (a0.size : Int) := of_decide_eq_true (by first | (with_reducible assumption) | assumption)
            have aw := bt_at a0 aa
            replace p19 := eq_true p19
            replace q19 := eq_true q19
            go_wp2_with (first | (go_at_call 31; (with_reducible refine (spec_l1In.calls (wrap64 (bt a0 aa)) 97 122 false _ A20.out).mono ?_); rintro e w' ⟨rfl, ⟨nd, rfl⟩⟩))
            go_ret
            exact ⟨by first | rfl | (simp; done) | (simp [*]; done), by repeat (first | exact Drawn0.refl _ | apply Drawn0.step)⟩
         ·rw [if_neg c16] at H
          exact absurd H (by simp)
        ·rw [if_neg c15] at H
         exact absurd H (by simp)
    ·rw [if_neg c3] at H
     have an : decide (aa < (a0.size : Int)) = false := decide_eq_false c3
     clear c3
     obtain rfl := Option.some.inj H
     go_wp2
     go_ret
     exact ⟨by first | rfl | (simp; done) | (simp [*]; done), by repeat (first | exact Drawn0.refl _ | apply Drawn0.step)⟩
end Go.Proofs.YtnednnnegofhkaaDoor.Pr
namespace Go.Proofs.YtnednnnegofhkaaDoor.Pr
open Go.RowKit Go.Proofs.YtnednnnegofhkaaDoorW.PrintWords Go.Proofs.YtnednnnegofhkaaDoorW.PrintLast Go.Proofs.YtnednnnegofhkaaDoorW.PrintMore
attribute [local go_sem] max2_int min2_int max_two min_two max_three min_three max_four min_four
set_option linter.unusedVariables false
set_option linter.unusedSimpArgs false
def spec_BrdOk.j0 : Nat → Bool → Int → Int → Option (Bool)
  | 0, _, _, _ => none
  | k + 1, x10, x109000, x109001 => if x10 = true then (some (x109001 == 0)) else ((spec_l1In.f x109000 1 3).bind fun t109 => (if t109 = true then ((spec_l1In.f x109001 1 3).bind fun t110 => (some t110)) else (some false)))
def spec_BrdOk.f (k : Nat) (a0_0 : Int) (a0_1 : Int) : Option (Bool) := if a0_0 = 0 then (spec_BrdOk.j0 k true a0_0 a0_1) else (spec_BrdOk.j0 k (a0_0 == 4) a0_0 a0_1)
theorem spec_BrdOk.mono_l : ∀ k, (∀ y0 y1 y2, LeO (spec_BrdOk.j0 k y0 y1 y2) (spec_BrdOk.j0 (k + 1) y0 y1 y2))
  | 0 => fun _ _ _ r h => by simp [spec_BrdOk.j0] at h
  | k + 1 => by
    have ih0 := spec_BrdOk.mono_l k
    · intro y0 y1 y2
      unfold spec_BrdOk.j0
      repeat' first
      | (with_reducible exact ih0 _ _ _)
      | (with_reducible exact LeO.refl _)
      | (with_reducible exact LeO.none _)
      | (with_reducible refine LeO.ite ?_ ?_)
      | (with_reducible refine LeO.bind ?_ (fun _ => ?_))
      | exact ih0 _ _ _
      | exact LeO.none _
      | refine LeO.ite ?_ ?_
      | refine LeO.bind ?_ (fun _ => ?_)
theorem spec_BrdOk.mono : ∀ a0 a1 k, LeO (spec_BrdOk.f k a0 a1) (spec_BrdOk.f (k + 1) a0 a1) := by
  intro a0 a1 k
  have ih0 := spec_BrdOk.mono_l k
  unfold spec_BrdOk.f
  repeat' first
      | (with_reducible exact ih0 _ _ _)
      | (with_reducible exact LeO.refl _)
      | (with_reducible exact LeO.none _)
      | (with_reducible refine LeO.ite ?_ ?_)
      | (with_reducible refine LeO.bind ?_ (fun _ => ?_))
      | exact ih0 _ _ _
      | exact LeO.none _
      | refine LeO.ite ?_ ?_
      | refine LeO.bind ?_ (fun _ => ?_)
theorem bq49_ {w : World} {g : Nat} {t : TypeId} {cs : Array Value} {v : Value} (h : w.heap[g]? = some (.cells cs t (0, 0))) (i : Nat) (e : cs[i]? = some v) : w.cell? ⟨g, i, none⟩ = some v := (blk_cell h i).trans e
set_option maxHeartbeats 8000000 in
set_option maxRecDepth 100000 in
theorem spec_BrdOk.calls (k : Nat) (a0_0 : Int) (a0_1 : Int) (r : Bool) (w : World) (h : spec_BrdOk.f k a0_0 a0_1 = some r) :
  Calls Tryd.prog 49 #[.agg #[.int .i64 a0_0, .int .i64 a0_1]] w fun e w' => e = .returned (.bool r) ∧ Below w.heap.size w w' := by
 have hu35 := Tryd.underlying35
 have HB := Aside0.mk (Below.refl w.heap.size w)
 have H := h
 unfold spec_BrdOk.f at H
 clear h
 have HC2 := Aside0.mk H
 clear H
 go_enter Tryd.func49, Tryd.ntmps49
 go_upto_region 1 with (first | ((with_reducible refine gate_dst (N := 1) rfl ?_); refine box_event ?hg (N := 1) ?hd (cs := #[.int .i64 a0_0, .int .i64 a0_1]) (t := 35) ?hr ?_; (case hd => rfl); (case hg => rfl); (case hr => go_simp <;> rfl); intro ae hg w3 hbox hb; have n0_ := Aside0.mk (below_step (by repeat (first | (with_reducible first | exact HB.out | apply below_alloc | apply pw_below_drewN | apply below_drew1) | exact HB.out)) hb); have n1_ := Aside0.mk (hbox); have n2_ := Aside0.mk ((by rw [hg]; exact (below_size (by repeat (first | (with_reducible first | exact HB.out | apply below_alloc | apply pw_below_drewN | apply below_drew1) | exact HB.out))) : w.heap.size ≤ ae)); have n3_ := Aside0.mk n2_.out; replace HB := n0_; have aa := n1_; have GW108 := n2_; have ab := n3_; clear n0_ n1_ n2_ n3_; clear hb hbox hg))
 (try simp only [Act.put, qa_, qb_, qc_])
 go_cut [10] (fun v10 wc => ∃ (kq : Nat) (ad : Bool), v10 = .bool ad ∧ Aside0 (spec_BrdOk.j0 kq ad a0_0 a0_1 = some r) ∧ Aside0 (kq ≤ k) ∧ Aside0 (wc.heap[ae]? = some (.cells #[.int .i64 a0_0, .int .i64 a0_1] 35 (0, 0))) ∧ Aside0 (Below w.heap.size w wc))
 case first =>
  have H := HC2.out
  clear HC2
  by_cases c4 : a0_0 = 0
  ·rw [if_pos c4] at H
   have ac : (a0_0 == 0) = true := beq_iff_eq.mpr c4
   have ak : (a0_0 != 0) = false := bne_eq_false_iff_eq.mpr c4
   clear c4
   (first | rw [ac] | (simp only [i64_w, i32_w]; rw [ac]) | skip)
   have H' := Aside0.mk H
   clear H
   have ai := bq49_ aa.out 0 rfl
   have an := bq49_ aa.out 1 rfl
   have ag := blk_frozen aa.out 0
   have aj := blk_frozen aa.out 1
   go_wp2
   go_meet
   case rel => exact ⟨_, (true), (by first | rfl | (simp; done) | (simp [*]; done)), H', ⟨by first | omega | exact Nat.le_refl _⟩, ⟨by (with_reducible repeat (first | apply blk_drewN | apply blk_drew | apply blk_alloc)); exact aa.out⟩, ⟨by repeat (first | (with_reducible first | exact HB.out | apply below_alloc | apply pw_below_drewN | apply below_drew1 | refine below_set ?_ ab.out) | exact HB.out)⟩⟩
  ·rw [if_neg c4] at H
   have ac : (a0_0 == 0) = false := beq_eq_false_iff_ne.mpr c4
   have ak : (a0_0 != 0) = true := bne_iff_ne.mpr c4
   (first | rw [ac] | (simp only [i64_w, i32_w]; rw [ac]) | skip)
   have H' := Aside0.mk H
   clear H
   have al := bq49_ aa.out 0 rfl
   have am := bq49_ aa.out 1 rfl
   have af := blk_frozen aa.out 0
   have ao := blk_frozen aa.out 1
   go_wp2
   go_meet
   case rel => exact ⟨_, ((a0_0 == 4)), (by first | rfl | (simp; done) | (simp [*]; done)), H', ⟨by first | omega | exact Nat.le_refl _⟩, ⟨by (with_reducible repeat (first | apply blk_drewN | apply blk_drew | apply blk_alloc)); exact aa.out⟩, ⟨by repeat (first | (with_reducible first | exact HB.out | apply below_alloc | apply pw_below_drewN | apply below_drew1 | refine below_set ?_ ab.out) | exact HB.out)⟩⟩
 case rest =>
  clear HC2
  try clear p2
  try clear c4
  try clear ac
  try clear ak
  try clear ai
  try clear an
  try clear al
  try clear am
  try clear ag
  try clear aj
  try clear af
  try clear ao
  obtain ⟨kq, ad, rfl, HA, HJ1, aa, HB⟩ := hcut
  cases kq with
  | zero => exact absurd HA.out (by simp [spec_BrdOk.j0])
  | succ kj1 =>
   have H := HA.out
   clear HA
   simp only [spec_BrdOk.j0] at H
   by_cases c7 : ad = true
   ·subst c7
    have H1 : (some (a0_1 == 0)) = some r := by rw [if_pos rfl] at H; exact H
    clear H
    have H := H1
    clear H1
    obtain rfl := Option.some.inj H
    have aB := bq49_ aa.out 0 rfl
    have aC := bq49_ aa.out 1 rfl
    have aA := blk_frozen aa.out 0
    have az := blk_frozen aa.out 1
    go_wp2
    go_ret
    exact ⟨by first | rfl | (simp [errW_none, errW_some] <;> rfl) | (simp [*, errW_none, errW_some] <;> rfl), by repeat (first | (with_reducible first | exact HB.out | apply below_alloc | apply pw_below_drewN | apply below_drew1 | refine below_set ?_ ab.out) | exact HB.out)⟩
   ·replace c7 := Bool.eq_false_iff.mpr c7
    subst c7
    have H1 : ((spec_l1In.f a0_0 1 3).bind fun t109 => (if t109 = true then ((spec_l1In.f a0_1 1 3).bind fun t110 => (some t110)) else (some false))) = some r := by rw [if_neg (show ¬ (false = true) by decide)] at H; exact H
    clear H
    have H := H1
    clear H1
    replace H := Option.bind_eq_some_iff.mp H
    obtain ⟨t109, A90, H⟩ := H
    (try dsimp only at H)
    have A9 := Aside0.mk A90
    clear A90
    by_cases c10 : t109 = true
    ·subst c10
     have H1 : ((spec_l1In.f a0_1 1 3).bind fun t110 => (some t110)) = some r := by rw [if_pos rfl] at H; exact H
     clear H
     have H := H1
     clear H1
     replace H := Option.bind_eq_some_iff.mp H
     obtain ⟨t110, ah, H⟩ := H
     (try dsimp only at H)
     have A11 := Aside0.mk ah
     clear ah
     obtain rfl := Option.some.inj H
     have au := bq49_ aa.out 0 rfl
     have ax := bq49_ aa.out 1 rfl
     have aq := blk_frozen aa.out 0
     have ay := blk_frozen aa.out 1
     go_wp2_with (first | ((with_reducible refine gate_callee (f := 31) rfl ?_); refine goesL_ (some 16) rfl rfl Tryd.func31 (by kernel_rfl) rfl #[.int .i64 a0_0, .int .i64 1, .int .i64 3] rfl (by (try simp only [List.map_toArray, List.map_cons, List.map_nil]) <;> rfl) ?_; (with_reducible refine (spec_l1In.calls a0_0 1 3 true _ A9.out).mono ?_); rintro e w' ⟨rfl, ⟨nd, rfl⟩⟩; refine ⟨_, rfl, ?_⟩) | (go_at_call 31; (with_reducible refine (spec_l1In.calls a0_1 1 3 t110 _ A11.out).mono ?_); rintro e w' ⟨rfl, ⟨nd, rfl⟩⟩))
     go_ret
     exact ⟨by first | rfl | (simp [errW_none, errW_some] <;> rfl) | (simp [*, errW_none, errW_some] <;> rfl), by repeat (first | (with_reducible first | exact HB.out | apply below_alloc | apply pw_below_drewN | apply below_drew1 | refine below_set ?_ ab.out) | exact HB.out)⟩
    ·replace c10 := Bool.eq_false_iff.mpr c10
     subst c10
     have H1 : (some false) = some r := by rw [if_neg (show ¬ (false = true) by decide)] at H; exact H
     clear H
     have H := H1
     clear H1
     obtain rfl := Option.some.inj H
     have av := bq49_ aa.out 0 rfl
     have ap := bq49_ aa.out 1 rfl
     have ar := blk_frozen aa.out 0
     have aw := blk_frozen aa.out 1
     go_wp2_with (first | ((with_reducible refine gate_callee (f := 31) rfl ?_); refine goesL_ (some 16) rfl rfl Tryd.func31 (by kernel_rfl) rfl #[.int .i64 a0_0, .int .i64 1, .int .i64 3] rfl (by (try simp only [List.map_toArray, List.map_cons, List.map_nil]) <;> rfl) ?_; (with_reducible refine (spec_l1In.calls a0_0 1 3 false _ A9.out).mono ?_); rintro e w' ⟨rfl, ⟨nd, rfl⟩⟩; refine ⟨_, rfl, ?_⟩))
     go_ret
     exact ⟨by first | rfl | (simp [errW_none, errW_some] <;> rfl) | (simp [*, errW_none, errW_some] <;> rfl), by repeat (first | (with_reducible first | exact HB.out | apply below_alloc | apply pw_below_drewN | apply below_drew1 | refine below_set ?_ ab.out) | exact HB.out)⟩
end Go.Proofs.YtnednnnegofhkaaDoor.Pr
namespace Go.Proofs.YtnednnnegofhkaaDoor.Pr
open Go.RowKit Go.Proofs.YtnednnnegofhkaaDoorW.PrintWords Go.Proofs.YtnednnnegofhkaaDoorW.PrintLast Go.Proofs.YtnednnnegofhkaaDoorW.PrintMore
attribute [local go_sem] max2_int min2_int max_two min_two max_three min_three max_four min_four
set_option linter.unusedVariables false
set_option linter.unusedSimpArgs false
def spec_CellOk.f (k : Nat) (a0_0 : ByteArray) (a0_1 : Int) (a0_2 : Int) (a0_3 : Int) (a0_4 : Int) (a0_5 : Int) (a0_6 : Int) (a0_7 : Int) (a0_8 : Int) (a0_9 : Int) (a0_10 : Int) : Option (Bool) := (spec_TxtOk.f k a0_0).bind fun t112 => (if t112 = true then ((spec_l1In.f a0_1 1 4).bind fun t113 => (if t113 = true then ((spec_l1In.f a0_2 1 4).bind fun t114 => (if t114 = true then ((spec_BrdOk.f k a0_3 a0_4).bind fun t115 => (if t115 = true then ((spec_BrdOk.f k a0_5 a0_6).bind fun t116 => (if t116 = true then ((spec_BrdOk.f k a0_7 a0_8).bind fun t117 => (if t117 = true then ((spec_BrdOk.f k a0_9 a0_10).bind fun t118 => (some t118)) else (some false))) else (some false))) else (some false))) else (some false))) else (some false))) else (some false))
theorem spec_CellOk.mono : ∀ a0 a1 a2 a3 a4 a5 a6 a7 a8 a9 a10 k, LeO (spec_CellOk.f k a0 a1 a2 a3 a4 a5 a6 a7 a8 a9 a10) (spec_CellOk.f (k + 1) a0 a1 a2 a3 a4 a5 a6 a7 a8 a9 a10) := by
  intro a0 a1 a2 a3 a4 a5 a6 a7 a8 a9 a10 k
  unfold spec_CellOk.f
  repeat' first
      | (with_reducible exact spec_BrdOk.mono _ _ _)
      | (with_reducible exact spec_TxtOk.mono _ _)
      | (with_reducible exact LeO.refl _)
      | (with_reducible exact LeO.none _)
      | (with_reducible refine LeO.ite ?_ ?_)
      | (with_reducible refine LeO.bind ?_ (fun _ => ?_))
      | exact spec_BrdOk.mono _ _ _
      | exact spec_TxtOk.mono _ _
      | exact LeO.none _
      | refine LeO.ite ?_ ?_
      | refine LeO.bind ?_ (fun _ => ?_)
theorem bq33_ {w : World} {g : Nat} {t : TypeId} {cs : Array Value} {v : Value} (h : w.heap[g]? = some (.cells cs t (0, 0))) (i : Nat) (e : cs[i]? = some v) : w.cell? ⟨g, i, none⟩ = some v := (blk_cell h i).trans e
abbrev qa33 := @blk_frozen
abbrev qb33 := @Aside0.mk
abbrev qc33 := @pw_below_drewN
abbrev qd33 := @below_alloc
abbrev qe33 := @below_drew1
set_option maxHeartbeats 8000000 in
set_option maxRecDepth 100000 in
theorem spec_CellOk.calls (k : Nat) (a0_0 : ByteArray) (a0_1 : Int) (a0_2 : Int) (a0_3 : Int) (a0_4 : Int) (a0_5 : Int) (a0_6 : Int) (a0_7 : Int) (a0_8 : Int) (a0_9 : Int) (a0_10 : Int) (r : Bool) (w : World) (h : spec_CellOk.f k a0_0 a0_1 a0_2 a0_3 a0_4 a0_5 a0_6 a0_7 a0_8 a0_9 a0_10 = some r) :
  Calls Tryd.prog 33 #[.agg #[.string a0_0, .int .i64 a0_1, .int .i64 a0_2, .int .i64 a0_3, .int .i64 a0_4, .int .i64 a0_5, .int .i64 a0_6, .int .i64 a0_7, .int .i64 a0_8, .int .i64 a0_9, .int .i64 a0_10]] w fun e w' => e = .returned (.bool r) ∧ Below w.heap.size w w' := by
 have hu37 := Tryd.underlying37
 have hu35 := Tryd.underlying35
 have HB := qb33 (Below.refl w.heap.size w)
 have H := h
 unfold spec_CellOk.f at H
 clear h
 replace H := Option.bind_eq_some_iff.mp H
 obtain ⟨t112, A20, H⟩ := H
 (try dsimp only at H)
 have A2 := qb33 A20
 clear A20
 by_cases c3 : t112 = true
 ·subst c3
  have H1 : ((spec_l1In.f a0_1 1 4).bind fun t113 => (if t113 = true then ((spec_l1In.f a0_2 1 4).bind fun t114 => (if t114 = true then ((spec_BrdOk.f k a0_3 a0_4).bind fun t115 => (if t115 = true then ((spec_BrdOk.f k a0_5 a0_6).bind fun t116 => (if t116 = true then ((spec_BrdOk.f k a0_7 a0_8).bind fun t117 => (if t117 = true then ((spec_BrdOk.f k a0_9 a0_10).bind fun t118 => (some t118)) else (some false))) else (some false))) else (some false))) else (some false))) else (some false))) = some r := by rw [if_pos rfl] at H; exact H
  clear H
  have H := H1
  clear H1
  replace H := Option.bind_eq_some_iff.mp H
  obtain ⟨t113, A40, H⟩ := H
  (try dsimp only at H)
  have A4 := qb33 A40
  clear A40
  by_cases c5 : t113 = true
  ·subst c5
   have H1 : ((spec_l1In.f a0_2 1 4).bind fun t114 => (if t114 = true then ((spec_BrdOk.f k a0_3 a0_4).bind fun t115 => (if t115 = true then ((spec_BrdOk.f k a0_5 a0_6).bind fun t116 => (if t116 = true then ((spec_BrdOk.f k a0_7 a0_8).bind fun t117 => (if t117 = true then ((spec_BrdOk.f k a0_9 a0_10).bind fun t118 => (some t118)) else (some false))) else (some false))) else (some false))) else (some false))) = some r := by rw [if_pos rfl] at H; exact H
   clear H
   have H := H1
   clear H1
   replace H := Option.bind_eq_some_iff.mp H
   obtain ⟨t114, A60, H⟩ := H
   (try dsimp only at H)
   have A6 := qb33 A60
   clear A60
   by_cases c7 : t114 = true
   ·subst c7
    have H1 : ((spec_BrdOk.f k a0_3 a0_4).bind fun t115 => (if t115 = true then ((spec_BrdOk.f k a0_5 a0_6).bind fun t116 => (if t116 = true then ((spec_BrdOk.f k a0_7 a0_8).bind fun t117 => (if t117 = true then ((spec_BrdOk.f k a0_9 a0_10).bind fun t118 => (some t118)) else (some false))) else (some false))) else (some false))) = some r := by rw [if_pos rfl] at H; exact H
    clear H
    have H := H1
    clear H1
    replace H := Option.bind_eq_some_iff.mp H
    obtain ⟨t115, A80, H⟩ := H
    (try dsimp only at H)
    have A8 := qb33 A80
    clear A80
    by_cases c9 : t115 = true
    ·subst c9
     have H1 : ((spec_BrdOk.f k a0_5 a0_6).bind fun t116 => (if t116 = true then ((spec_BrdOk.f k a0_7 a0_8).bind fun t117 => (if t117 = true then ((spec_BrdOk.f k a0_9 a0_10).bind fun t118 => (some t118)) else (some false))) else (some false))) = some r := by rw [if_pos rfl] at H; exact H
     clear H
     have H := H1
     clear H1
     replace H := Option.bind_eq_some_iff.mp H
     obtain ⟨t116, ae, H⟩ := H
     (try dsimp only at H)
     have A10 := qb33 ae
     clear ae
     by_cases c11 : t116 = true
     ·subst c11
      have H1 : ((spec_BrdOk.f k a0_7 a0_8).bind fun t117 => (if t117 = true then ((spec_BrdOk.f k a0_9 a0_10).bind fun t118 => (some t118)) else (some false))) = some r := by rw [if_pos rfl] at H; exact H
      clear H
      have H := H1
      clear H1
      replace H := Option.bind_eq_some_iff.mp H
      obtain ⟨t117, ag, H⟩ := H
      (try dsimp only at H)
      have A12 := qb33 ag
      clear ag
      by_cases c13 : t117 = true
      ·subst c13
       have H1 : ((spec_BrdOk.f k a0_9 a0_10).bind fun t118 => (some t118)) = some r := by rw [if_pos rfl] at H; exact H
       clear H
       have H := H1
       clear H1
       replace H := Option.bind_eq_some_iff.mp H
       obtain ⟨t118, af, H⟩ := H
       (try dsimp only at H)
       have A14 := qb33 af
       clear af
       obtain rfl := Option.some.inj H
       go_enter Tryd.func33, Tryd.ntmps33
       go_wp2_with (first | ((with_reducible refine gate_dst (N := 1) rfl ?_); refine box_event ?hg (N := 1) ?hd (cs := #[.string a0_0, .int .i64 a0_1, .int .i64 a0_2, .int .i64 a0_3, .int .i64 a0_4, .int .i64 a0_5, .int .i64 a0_6, .int .i64 a0_7, .int .i64 a0_8, .int .i64 a0_9, .int .i64 a0_10]) (t := 37) ?hr ?_; (case hd => rfl); (case hg => rfl); (case hr => go_simp <;> rfl); intro ac hg w15 hbox hb; have n0_ := qb33 (below_step (by repeat (first | (with_reducible first | exact HB.out | apply qd33 | apply qc33 | apply qe33) | exact HB.out)) hb); have n1_ := qb33 (hbox); have n2_ := qb33 ((by rw [hg]; exact (below_size (by repeat (first | (with_reducible first | exact HB.out | apply qd33 | apply qc33 | apply qe33) | exact HB.out))) : w.heap.size ≤ ac)); have n3_ := qb33 n2_.out; replace HB := n0_; have aa := n1_; have ad := n2_; have ab := n3_; clear n0_ n1_ n2_ n3_; clear hb hbox hg; have cP := bq33_ aa.out 0 rfl; have aX := bq33_ aa.out 1 rfl; have bE := bq33_ aa.out 2 rfl; have cf := bq33_ aa.out 3 rfl; have dm := bq33_ aa.out 4 rfl; have eW := bq33_ aa.out 5 rfl; have cu := bq33_ aa.out 6 rfl; have bG := bq33_ aa.out 7 rfl; have eD := bq33_ aa.out 8 rfl; have bm := bq33_ aa.out 9 rfl; have ax := bq33_ aa.out 10 rfl; have dF := qa33 aa.out 0; have bI := qa33 aa.out 1; have aT := qa33 aa.out 2; have dR := qa33 aa.out 3; have eh := qa33 aa.out 4; have ej := qa33 aa.out 5; have bX := qa33 aa.out 6; have cO := qa33 aa.out 7; have cC := qa33 aa.out 8; have c6 := qa33 aa.out 9; have aj := qa33 aa.out 10) | ((with_reducible refine gate_callee (f := 48) rfl ?_); refine goesL_ (some 5) rfl rfl Tryd.func48 (by kernel_rfl) rfl #[.string a0_0] rfl (by (try simp only [List.map_toArray, List.map_cons, List.map_nil]) <;> rfl) ?_; (with_reducible refine (spec_TxtOk.calls k a0_0 true _ A2.out).mono ?_); rintro e w' ⟨rfl, ⟨nd, rfl⟩⟩; refine ⟨_, rfl, ?_⟩) | (go_at_call 31; (with_reducible refine (spec_l1In.calls a0_1 1 4 true _ A4.out).mono ?_); rintro e w' ⟨rfl, ⟨nd, rfl⟩⟩) | (go_at_call 31; (with_reducible refine (spec_l1In.calls a0_2 1 4 true _ A6.out).mono ?_); rintro e w' ⟨rfl, ⟨nd, rfl⟩⟩) | (go_at_call 49; (with_reducible refine (spec_BrdOk.calls k a0_3 a0_4 true _ A8.out).mono ?_); rintro e w17 ⟨rfl, hb⟩; have n0_ := qb33 (blk_below (g := ac) (by (with_reducible repeat (first | apply blk_drewN | apply blk_drew | apply blk_alloc)); exact aa.out) hb); have n1_ := qb33 (below_step (by repeat (first | (with_reducible first | exact HB.out | apply qd33 | apply qc33 | apply qe33 | refine below_set ?_ ab.out) | exact HB.out)) hb); replace aa := n0_; replace HB := n1_; clear n0_ n1_; (try clear hb hk hi); have br := bq33_ aa.out 0 rfl; have cD := bq33_ aa.out 1 rfl; have c0 := bq33_ aa.out 2 rfl; have fc := bq33_ aa.out 3 rfl; have bB := bq33_ aa.out 4 rfl; have bD := bq33_ aa.out 5 rfl; have e4 := bq33_ aa.out 6 rfl; have dp := bq33_ aa.out 7 rfl; have eo := bq33_ aa.out 8 rfl; have dZ := bq33_ aa.out 9 rfl; have aG := bq33_ aa.out 10 rfl; have bQ := qa33 aa.out 0; have be := qa33 aa.out 1; have cT := qa33 aa.out 2; have b1 := qa33 aa.out 3; have dz := qa33 aa.out 4; have cz := qa33 aa.out 5; have cy := qa33 aa.out 6; have bf := qa33 aa.out 7; have ch := qa33 aa.out 8; have cA := qa33 aa.out 9; have aC := qa33 aa.out 10) | (go_at_call 49; (with_reducible refine (spec_BrdOk.calls k a0_5 a0_6 true _ A10.out).mono ?_); rintro e w19 ⟨rfl, hb⟩; have n0_ := qb33 (blk_below (g := ac) (by (with_reducible repeat (first | apply blk_drewN | apply blk_drew | apply blk_alloc)); exact aa.out) hb); have n1_ := qb33 (below_step (by repeat (first | (with_reducible first | exact HB.out | apply qd33 | apply qc33 | apply qe33 | refine below_set ?_ ab.out) | exact HB.out)) hb); replace aa := n0_; replace HB := n1_; clear n0_ n1_; (try clear hb hk hi); have aY := bq33_ aa.out 0 rfl; have dA := bq33_ aa.out 1 rfl; have eJ := bq33_ aa.out 2 rfl; have eO := bq33_ aa.out 3 rfl; have cq := bq33_ aa.out 4 rfl; have eX := bq33_ aa.out 5 rfl; have fa := bq33_ aa.out 6 rfl; have cw := bq33_ aa.out 7 rfl; have bh := bq33_ aa.out 8 rfl; have dH := bq33_ aa.out 9 rfl; have ap := bq33_ aa.out 10 rfl; have bR := qa33 aa.out 0; have dX := qa33 aa.out 1; have ci := qa33 aa.out 2; have dN := qa33 aa.out 3; have em := qa33 aa.out 4; have dS := qa33 aa.out 5; have eR := qa33 aa.out 6; have aV := qa33 aa.out 7; have bt := qa33 aa.out 8; have bU := qa33 aa.out 9; have am := qa33 aa.out 10) | (go_at_call 49; (with_reducible refine (spec_BrdOk.calls k a0_7 a0_8 true _ A12.out).mono ?_); rintro e w21 ⟨rfl, hb⟩; have n0_ := qb33 (blk_below (g := ac) (by (with_reducible repeat (first | apply blk_drewN | apply blk_drew | apply blk_alloc)); exact aa.out) hb); have n1_ := qb33 (below_step (by repeat (first | (with_reducible first | exact HB.out | apply qd33 | apply qc33 | apply qe33 | refine below_set ?_ ab.out) | exact HB.out)) hb); replace aa := n0_; replace HB := n1_; clear n0_ n1_; (try clear hb hk hi); have eY := bq33_ aa.out 0 rfl; have ck := bq33_ aa.out 1 rfl; have cJ := bq33_ aa.out 2 rfl; have dO := bq33_ aa.out 3 rfl; have cE := bq33_ aa.out 4 rfl; have aN := bq33_ aa.out 5 rfl; have bC := bq33_ aa.out 6 rfl; have c4 := bq33_ aa.out 7 rfl; have bb := bq33_ aa.out 8 rfl; have bx := bq33_ aa.out 9 rfl; have al := bq33_ aa.out 10 rfl; have ep := qa33 aa.out 0; have bs := qa33 aa.out 1; have dE := qa33 aa.out 2; have bw := qa33 aa.out 3; have e5 := qa33 aa.out 4; have dn := qa33 aa.out 5; have bk := qa33 aa.out 6; have ec := qa33 aa.out 7; have bZ := qa33 aa.out 8; have eV := qa33 aa.out 9; have au := qa33 aa.out 10) | (go_at_call 49; (with_reducible refine (spec_BrdOk.calls k a0_9 a0_10 t118 _ A14.out).mono ?_); rintro e w23 ⟨rfl, hb⟩; have n0_ := qb33 (blk_below (g := ac) (by (with_reducible repeat (first | apply blk_drewN | apply blk_drew | apply blk_alloc)); exact aa.out) hb); have n1_ := qb33 (below_step (by repeat (first | (with_reducible first | exact HB.out | apply qd33 | apply qc33 | apply qe33 | refine below_set ?_ ab.out) | exact HB.out)) hb); replace aa := n0_; replace HB := n1_; clear n0_ n1_; (try clear hb hk hi)))
       go_ret
       exact ⟨by first | rfl | (simp [errW_none, errW_some] <;> rfl) | (simp [*, errW_none, errW_some] <;> rfl), by repeat (first | (with_reducible first | exact HB.out | apply qd33 | apply qc33 | apply qe33 | refine below_set ?_ ab.out) | exact HB.out)⟩
      ·replace c13 := Bool.eq_false_iff.mpr c13
       subst c13
       have H1 : (some false) = some r := by rw [if_neg (show ¬ (false = true) by decide)] at H; exact H
       clear H
       have H := H1
       clear H1
       obtain rfl := Option.some.inj H
       go_enter Tryd.func33, Tryd.ntmps33
       go_wp2_with (first | ((with_reducible refine gate_dst (N := 1) rfl ?_); refine box_event ?hg (N := 1) ?hd (cs := #[.string a0_0, .int .i64 a0_1, .int .i64 a0_2, .int .i64 a0_3, .int .i64 a0_4, .int .i64 a0_5, .int .i64 a0_6, .int .i64 a0_7, .int .i64 a0_8, .int .i64 a0_9, .int .i64 a0_10]) (t := 37) ?hr ?_; (case hd => rfl); (case hg => rfl); (case hr => go_simp <;> rfl); intro ac hg w24 hbox hb; have n0_ := qb33 (below_step (by repeat (first | (with_reducible first | exact HB.out | apply qd33 | apply qc33 | apply qe33) | exact HB.out)) hb); have n1_ := qb33 (hbox); have n2_ := qb33 ((by rw [hg]; exact (below_size (by repeat (first | (with_reducible first | exact HB.out | apply qd33 | apply qc33 | apply qe33) | exact HB.out))) : w.heap.size ≤ ac)); have n3_ := qb33 n2_.out; replace HB := n0_; have aa := n1_; have ad := n2_; have ab := n3_; clear n0_ n1_ n2_ n3_; clear hb hbox hg; have du := bq33_ aa.out 0 rfl; have dV := bq33_ aa.out 1 rfl; have b8 := bq33_ aa.out 2 rfl; have eu := bq33_ aa.out 3 rfl; have bl := bq33_ aa.out 4 rfl; have dk := bq33_ aa.out 5 rfl; have dD := bq33_ aa.out 6 rfl; have bF := bq33_ aa.out 7 rfl; have b5 := bq33_ aa.out 8 rfl; have cF := bq33_ aa.out 9 rfl; have ai := bq33_ aa.out 10 rfl; have cc := qa33 aa.out 0; have e8 := qa33 aa.out 1; have bY := qa33 aa.out 2; have eA := qa33 aa.out 3; have de := qa33 aa.out 4; have db := qa33 aa.out 5; have aO := qa33 aa.out 6; have e6 := qa33 aa.out 7; have dc := qa33 aa.out 8; have b4 := qa33 aa.out 9; have aq := qa33 aa.out 10) | ((with_reducible refine gate_callee (f := 48) rfl ?_); refine goesL_ (some 5) rfl rfl Tryd.func48 (by kernel_rfl) rfl #[.string a0_0] rfl (by (try simp only [List.map_toArray, List.map_cons, List.map_nil]) <;> rfl) ?_; (with_reducible refine (spec_TxtOk.calls k a0_0 true _ A2.out).mono ?_); rintro e w' ⟨rfl, ⟨nd, rfl⟩⟩; refine ⟨_, rfl, ?_⟩) | (go_at_call 31; (with_reducible refine (spec_l1In.calls a0_1 1 4 true _ A4.out).mono ?_); rintro e w' ⟨rfl, ⟨nd, rfl⟩⟩) | (go_at_call 31; (with_reducible refine (spec_l1In.calls a0_2 1 4 true _ A6.out).mono ?_); rintro e w' ⟨rfl, ⟨nd, rfl⟩⟩) | (go_at_call 49; (with_reducible refine (spec_BrdOk.calls k a0_3 a0_4 true _ A8.out).mono ?_); rintro e w26 ⟨rfl, hb⟩; have n0_ := qb33 (blk_below (g := ac) (by (with_reducible repeat (first | apply blk_drewN | apply blk_drew | apply blk_alloc)); exact aa.out) hb); have n1_ := qb33 (below_step (by repeat (first | (with_reducible first | exact HB.out | apply qd33 | apply qc33 | apply qe33 | refine below_set ?_ ab.out) | exact HB.out)) hb); replace aa := n0_; replace HB := n1_; clear n0_ n1_; (try clear hb hk hi); have aK := bq33_ aa.out 0 rfl; have cH := bq33_ aa.out 1 rfl; have eK := bq33_ aa.out 2 rfl; have cM := bq33_ aa.out 3 rfl; have dT := bq33_ aa.out 4 rfl; have ez := bq33_ aa.out 5 rfl; have cW := bq33_ aa.out 6 rfl; have dq := bq33_ aa.out 7 rfl; have eU := bq33_ aa.out 8 rfl; have eL := bq33_ aa.out 9 rfl; have aE := bq33_ aa.out 10 rfl; have d7 := qa33 aa.out 0; have eM := qa33 aa.out 1; have ds := qa33 aa.out 2; have eP := qa33 aa.out 3; have bg := qa33 aa.out 4; have cR := qa33 aa.out 5; have cZ := qa33 aa.out 6; have bV := qa33 aa.out 7; have ee := qa33 aa.out 8; have eE := qa33 aa.out 9; have aH := qa33 aa.out 10) | (go_at_call 49; (with_reducible refine (spec_BrdOk.calls k a0_5 a0_6 true _ A10.out).mono ?_); rintro e w28 ⟨rfl, hb⟩; have n0_ := qb33 (blk_below (g := ac) (by (with_reducible repeat (first | apply blk_drewN | apply blk_drew | apply blk_alloc)); exact aa.out) hb); have n1_ := qb33 (below_step (by repeat (first | (with_reducible first | exact HB.out | apply qd33 | apply qc33 | apply qe33 | refine below_set ?_ ab.out) | exact HB.out)) hb); replace aa := n0_; replace HB := n1_; clear n0_ n1_; (try clear hb hk hi); have bu := bq33_ aa.out 0 rfl; have e1 := bq33_ aa.out 1 rfl; have dI := bq33_ aa.out 2 rfl; have eG := bq33_ aa.out 3 rfl; have cV := bq33_ aa.out 4 rfl; have aR := bq33_ aa.out 5 rfl; have cb := bq33_ aa.out 6 rfl; have bd := bq33_ aa.out 7 rfl; have bJ := bq33_ aa.out 8 rfl; have c2 := bq33_ aa.out 9 rfl; have av := bq33_ aa.out 10 rfl; have dQ := qa33 aa.out 0; have cm := qa33 aa.out 1; have bn := qa33 aa.out 2; have cY := qa33 aa.out 3; have cS := qa33 aa.out 4; have b7 := qa33 aa.out 5; have di := qa33 aa.out 6; have dw := qa33 aa.out 7; have bj := qa33 aa.out 8; have cj := qa33 aa.out 9; have aw := qa33 aa.out 10) | (go_at_call 49; (with_reducible refine (spec_BrdOk.calls k a0_7 a0_8 false _ A12.out).mono ?_); rintro e w30 ⟨rfl, hb⟩; have n0_ := qb33 (blk_below (g := ac) (by (with_reducible repeat (first | apply blk_drewN | apply blk_drew | apply blk_alloc)); exact aa.out) hb); have n1_ := qb33 (below_step (by repeat (first | (with_reducible first | exact HB.out | apply qd33 | apply qc33 | apply qe33 | refine below_set ?_ ab.out) | exact HB.out)) hb); replace aa := n0_; replace HB := n1_; clear n0_ n1_; (try clear hb hk hi)))
       go_ret
       exact ⟨by first | rfl | (simp [errW_none, errW_some] <;> rfl) | (simp [*, errW_none, errW_some] <;> rfl), by repeat (first | (with_reducible first | exact HB.out | apply qd33 | apply qc33 | apply qe33 | refine below_set ?_ ab.out) | exact HB.out)⟩
     ·replace c11 := Bool.eq_false_iff.mpr c11
      subst c11
      have H1 : (some false) = some r := by rw [if_neg (show ¬ (false = true) by decide)] at H; exact H
      clear H
      have H := H1
      clear H1
      obtain rfl := Option.some.inj H
      go_enter Tryd.func33, Tryd.ntmps33
      go_wp2_with (first | ((with_reducible refine gate_dst (N := 1) rfl ?_); refine box_event ?hg (N := 1) ?hd (cs := #[.string a0_0, .int .i64 a0_1, .int .i64 a0_2, .int .i64 a0_3, .int .i64 a0_4, .int .i64 a0_5, .int .i64 a0_6, .int .i64 a0_7, .int .i64 a0_8, .int .i64 a0_9, .int .i64 a0_10]) (t := 37) ?hr ?_; (case hd => rfl); (case hg => rfl); (case hr => go_simp <;> rfl); intro ac hg w31 hbox hb; have n0_ := qb33 (below_step (by repeat (first | (with_reducible first | exact HB.out | apply qd33 | apply qc33 | apply qe33) | exact HB.out)) hb); have n1_ := qb33 (hbox); have n2_ := qb33 ((by rw [hg]; exact (below_size (by repeat (first | (with_reducible first | exact HB.out | apply qd33 | apply qc33 | apply qe33) | exact HB.out))) : w.heap.size ≤ ac)); have n3_ := qb33 n2_.out; replace HB := n0_; have aa := n1_; have ad := n2_; have ab := n3_; clear n0_ n1_ n2_ n3_; clear hb hbox hg; have d2 := bq33_ aa.out 0 rfl; have cn := bq33_ aa.out 1 rfl; have bc := bq33_ aa.out 2 rfl; have dx := bq33_ aa.out 3 rfl; have es := bq33_ aa.out 4 rfl; have eI := bq33_ aa.out 5 rfl; have er := bq33_ aa.out 6 rfl; have bq := bq33_ aa.out 7 rfl; have aM := bq33_ aa.out 8 rfl; have dy := bq33_ aa.out 9 rfl; have ar := bq33_ aa.out 10 rfl; have d0 := qa33 aa.out 0; have eN := qa33 aa.out 1; have ew := qa33 aa.out 2; have cB := qa33 aa.out 3; have da := qa33 aa.out 4; have bH := qa33 aa.out 5; have et := qa33 aa.out 6; have eg := qa33 aa.out 7; have co := qa33 aa.out 8; have aP := qa33 aa.out 9; have aB := qa33 aa.out 10) | ((with_reducible refine gate_callee (f := 48) rfl ?_); refine goesL_ (some 5) rfl rfl Tryd.func48 (by kernel_rfl) rfl #[.string a0_0] rfl (by (try simp only [List.map_toArray, List.map_cons, List.map_nil]) <;> rfl) ?_; (with_reducible refine (spec_TxtOk.calls k a0_0 true _ A2.out).mono ?_); rintro e w' ⟨rfl, ⟨nd, rfl⟩⟩; refine ⟨_, rfl, ?_⟩) | (go_at_call 31; (with_reducible refine (spec_l1In.calls a0_1 1 4 true _ A4.out).mono ?_); rintro e w' ⟨rfl, ⟨nd, rfl⟩⟩) | (go_at_call 31; (with_reducible refine (spec_l1In.calls a0_2 1 4 true _ A6.out).mono ?_); rintro e w' ⟨rfl, ⟨nd, rfl⟩⟩) | (go_at_call 49; (with_reducible refine (spec_BrdOk.calls k a0_3 a0_4 true _ A8.out).mono ?_); rintro e w33 ⟨rfl, hb⟩; have n0_ := qb33 (blk_below (g := ac) (by (with_reducible repeat (first | apply blk_drewN | apply blk_drew | apply blk_alloc)); exact aa.out) hb); have n1_ := qb33 (below_step (by repeat (first | (with_reducible first | exact HB.out | apply qd33 | apply qc33 | apply qe33 | refine below_set ?_ ab.out) | exact HB.out)) hb); replace aa := n0_; replace HB := n1_; clear n0_ n1_; (try clear hb hk hi); have d3 := bq33_ aa.out 0 rfl; have dh := bq33_ aa.out 1 rfl; have e0 := bq33_ aa.out 2 rfl; have eQ := bq33_ aa.out 3 rfl; have b9 := bq33_ aa.out 4 rfl; have ev := bq33_ aa.out 5 rfl; have c8 := bq33_ aa.out 6 rfl; have d1 := bq33_ aa.out 7 rfl; have cd := bq33_ aa.out 8 rfl; have bK := bq33_ aa.out 9 rfl; have az := bq33_ aa.out 10 rfl; have bL := qa33 aa.out 0; have ct := qa33 aa.out 1; have cL := qa33 aa.out 2; have dU := qa33 aa.out 3; have eT := qa33 aa.out 4; have bA := qa33 aa.out 5; have dJ := qa33 aa.out 6; have bi := qa33 aa.out 7; have cg := qa33 aa.out 8; have b6 := qa33 aa.out 9; have aA := qa33 aa.out 10) | (go_at_call 49; (with_reducible refine (spec_BrdOk.calls k a0_5 a0_6 false _ A10.out).mono ?_); rintro e w35 ⟨rfl, hb⟩; have n0_ := qb33 (blk_below (g := ac) (by (with_reducible repeat (first | apply blk_drewN | apply blk_drew | apply blk_alloc)); exact aa.out) hb); have n1_ := qb33 (below_step (by repeat (first | (with_reducible first | exact HB.out | apply qd33 | apply qc33 | apply qe33 | refine below_set ?_ ab.out) | exact HB.out)) hb); replace aa := n0_; replace HB := n1_; clear n0_ n1_; (try clear hb hk hi)))
      go_ret
      exact ⟨by first | rfl | (simp [errW_none, errW_some] <;> rfl) | (simp [*, errW_none, errW_some] <;> rfl), by repeat (first | (with_reducible first | exact HB.out | apply qd33 | apply qc33 | apply qe33 | refine below_set ?_ ab.out) | exact HB.out)⟩
    ·replace c9 := Bool.eq_false_iff.mpr c9
     subst c9
     have H1 : (some false) = some r := by rw [if_neg (show ¬ (false = true) by decide)] at H; exact H
     clear H
     have H := H1
     clear H1
     obtain rfl := Option.some.inj H
     go_enter Tryd.func33, Tryd.ntmps33
     go_wp2_with (first | ((with_reducible refine gate_dst (N := 1) rfl ?_); refine box_event ?hg (N := 1) ?hd (cs := #[.string a0_0, .int .i64 a0_1, .int .i64 a0_2, .int .i64 a0_3, .int .i64 a0_4, .int .i64 a0_5, .int .i64 a0_6, .int .i64 a0_7, .int .i64 a0_8, .int .i64 a0_9, .int .i64 a0_10]) (t := 37) ?hr ?_; (case hd => rfl); (case hg => rfl); (case hr => go_simp <;> rfl); intro ac hg w36 hbox hb; have n0_ := qb33 (below_step (by repeat (first | (with_reducible first | exact HB.out | apply qd33 | apply qc33 | apply qe33) | exact HB.out)) hb); have n1_ := qb33 (hbox); have n2_ := qb33 ((by rw [hg]; exact (below_size (by repeat (first | (with_reducible first | exact HB.out | apply qd33 | apply qc33 | apply qe33) | exact HB.out))) : w.heap.size ≤ ac)); have n3_ := qb33 n2_.out; replace HB := n0_; have aa := n1_; have ad := n2_; have ab := n3_; clear n0_ n1_ n2_ n3_; clear hb hbox hg; have ce := bq33_ aa.out 0 rfl; have dK := bq33_ aa.out 1 rfl; have dr := bq33_ aa.out 2 rfl; have cx := bq33_ aa.out 3 rfl; have cX := bq33_ aa.out 4 rfl; have d5 := bq33_ aa.out 5 rfl; have e7 := bq33_ aa.out 6 rfl; have bS := bq33_ aa.out 7 rfl; have dB := bq33_ aa.out 8 rfl; have aU := bq33_ aa.out 9 rfl; have aI := bq33_ aa.out 10 rfl; have b2 := qa33 aa.out 0; have aQ := qa33 aa.out 1; have ek := qa33 aa.out 2; have cN := qa33 aa.out 3; have bO := qa33 aa.out 4; have cl := qa33 aa.out 5; have eb := qa33 aa.out 6; have dG := qa33 aa.out 7; have d8 := qa33 aa.out 8; have d9 := qa33 aa.out 9; have ah := qa33 aa.out 10) | ((with_reducible refine gate_callee (f := 48) rfl ?_); refine goesL_ (some 5) rfl rfl Tryd.func48 (by kernel_rfl) rfl #[.string a0_0] rfl (by (try simp only [List.map_toArray, List.map_cons, List.map_nil]) <;> rfl) ?_; (with_reducible refine (spec_TxtOk.calls k a0_0 true _ A2.out).mono ?_); rintro e w' ⟨rfl, ⟨nd, rfl⟩⟩; refine ⟨_, rfl, ?_⟩) | (go_at_call 31; (with_reducible refine (spec_l1In.calls a0_1 1 4 true _ A4.out).mono ?_); rintro e w' ⟨rfl, ⟨nd, rfl⟩⟩) | (go_at_call 31; (with_reducible refine (spec_l1In.calls a0_2 1 4 true _ A6.out).mono ?_); rintro e w' ⟨rfl, ⟨nd, rfl⟩⟩) | (go_at_call 49; (with_reducible refine (spec_BrdOk.calls k a0_3 a0_4 false _ A8.out).mono ?_); rintro e w38 ⟨rfl, hb⟩; have n0_ := qb33 (blk_below (g := ac) (by (with_reducible repeat (first | apply blk_drewN | apply blk_drew | apply blk_alloc)); exact aa.out) hb); have n1_ := qb33 (below_step (by repeat (first | (with_reducible first | exact HB.out | apply qd33 | apply qc33 | apply qe33 | refine below_set ?_ ab.out) | exact HB.out)) hb); replace aa := n0_; replace HB := n1_; clear n0_ n1_; (try clear hb hk hi)))
     go_ret
     exact ⟨by first | rfl | (simp [errW_none, errW_some] <;> rfl) | (simp [*, errW_none, errW_some] <;> rfl), by repeat (first | (with_reducible first | exact HB.out | apply qd33 | apply qc33 | apply qe33 | refine below_set ?_ ab.out) | exact HB.out)⟩
   ·replace c7 := Bool.eq_false_iff.mpr c7
    subst c7
    have H1 : (some false) = some r := by rw [if_neg (show ¬ (false = true) by decide)] at H; exact H
    clear H
    have H := H1
    clear H1
    obtain rfl := Option.some.inj H
    go_enter Tryd.func33, Tryd.ntmps33
    go_wp2_with (first | ((with_reducible refine gate_dst (N := 1) rfl ?_); refine box_event ?hg (N := 1) ?hd (cs := #[.string a0_0, .int .i64 a0_1, .int .i64 a0_2, .int .i64 a0_3, .int .i64 a0_4, .int .i64 a0_5, .int .i64 a0_6, .int .i64 a0_7, .int .i64 a0_8, .int .i64 a0_9, .int .i64 a0_10]) (t := 37) ?hr ?_; (case hd => rfl); (case hg => rfl); (case hr => go_simp <;> rfl); intro ac hg w39 hbox hb; have n0_ := qb33 (below_step (by repeat (first | (with_reducible first | exact HB.out | apply qd33 | apply qc33 | apply qe33) | exact HB.out)) hb); have n1_ := qb33 (hbox); have n2_ := qb33 ((by rw [hg]; exact (below_size (by repeat (first | (with_reducible first | exact HB.out | apply qd33 | apply qc33 | apply qe33) | exact HB.out))) : w.heap.size ≤ ac)); have n3_ := qb33 n2_.out; replace HB := n0_; have aa := n1_; have ad := n2_; have ab := n3_; clear n0_ n1_ n2_ n3_; clear hb hbox hg; have cK := bq33_ aa.out 0 rfl; have dW := bq33_ aa.out 1 rfl; have bP := bq33_ aa.out 2 rfl; have cG := bq33_ aa.out 3 rfl; have bp := bq33_ aa.out 4 rfl; have ea := bq33_ aa.out 5 rfl; have aW := bq33_ aa.out 6 rfl; have bM := bq33_ aa.out 7 rfl; have cQ := bq33_ aa.out 8 rfl; have dP := bq33_ aa.out 9 rfl; have aD := bq33_ aa.out 10 rfl; have b0 := qa33 aa.out 0; have aZ := qa33 aa.out 1; have cU := qa33 aa.out 2; have bN := qa33 aa.out 3; have en := qa33 aa.out 4; have c1 := qa33 aa.out 5; have b3 := qa33 aa.out 6; have e2 := qa33 aa.out 7; have ex := qa33 aa.out 8; have e9 := qa33 aa.out 9; have an := qa33 aa.out 10) | ((with_reducible refine gate_callee (f := 48) rfl ?_); refine goesL_ (some 5) rfl rfl Tryd.func48 (by kernel_rfl) rfl #[.string a0_0] rfl (by (try simp only [List.map_toArray, List.map_cons, List.map_nil]) <;> rfl) ?_; (with_reducible refine (spec_TxtOk.calls k a0_0 true _ A2.out).mono ?_); rintro e w' ⟨rfl, ⟨nd, rfl⟩⟩; refine ⟨_, rfl, ?_⟩) | (go_at_call 31; (with_reducible refine (spec_l1In.calls a0_1 1 4 true _ A4.out).mono ?_); rintro e w' ⟨rfl, ⟨nd, rfl⟩⟩) | (go_at_call 31; (with_reducible refine (spec_l1In.calls a0_2 1 4 false _ A6.out).mono ?_); rintro e w' ⟨rfl, ⟨nd, rfl⟩⟩))
    go_ret
    exact ⟨by first | rfl | (simp [errW_none, errW_some] <;> rfl) | (simp [*, errW_none, errW_some] <;> rfl), by repeat (first | (with_reducible first | exact HB.out | apply qd33 | apply qc33 | apply qe33 | refine below_set ?_ ab.out) | exact HB.out)⟩
  ·replace c5 := Bool.eq_false_iff.mpr c5
   subst c5
   have H1 : (some false) = some r := by rw [if_neg (show ¬ (false = true) by decide)] at H; exact H
   clear H
   have H := H1
   clear H1
   obtain rfl := Option.some.inj H
   go_enter Tryd.func33, Tryd.ntmps33
   go_wp2_with (first | ((with_reducible refine gate_dst (N := 1) rfl ?_); refine box_event ?hg (N := 1) ?hd (cs := #[.string a0_0, .int .i64 a0_1, .int .i64 a0_2, .int .i64 a0_3, .int .i64 a0_4, .int .i64 a0_5, .int .i64 a0_6, .int .i64 a0_7, .int .i64 a0_8, .int .i64 a0_9, .int .i64 a0_10]) (t := 37) ?hr ?_; (case hd => rfl); (case hg => rfl); (case hr => go_simp <;> rfl); intro ac hg w41 hbox hb; have n0_ := qb33 (below_step (by repeat (first | (with_reducible first | exact HB.out | apply qd33 | apply qc33 | apply qe33) | exact HB.out)) hb); have n1_ := qb33 (hbox); have n2_ := qb33 ((by rw [hg]; exact (below_size (by repeat (first | (with_reducible first | exact HB.out | apply qd33 | apply qc33 | apply qe33) | exact HB.out))) : w.heap.size ≤ ac)); have n3_ := qb33 n2_.out; replace HB := n0_; have aa := n1_; have ad := n2_; have ab := n3_; clear n0_ n1_ n2_ n3_; clear hb hbox hg; have cI := bq33_ aa.out 0 rfl; have df := bq33_ aa.out 1 rfl; have bW := bq33_ aa.out 2 rfl; have dt := bq33_ aa.out 3 rfl; have eF := bq33_ aa.out 4 rfl; have bv := bq33_ aa.out 5 rfl; have ed := bq33_ aa.out 6 rfl; have ei := bq33_ aa.out 7 rfl; have fb := bq33_ aa.out 8 rfl; have dd := bq33_ aa.out 9 rfl; have ao := bq33_ aa.out 10 rfl; have dY := qa33 aa.out 0; have el := qa33 aa.out 1; have aS := qa33 aa.out 2; have ey := qa33 aa.out 3; have ba := qa33 aa.out 4; have dj := qa33 aa.out 5; have d6 := qa33 aa.out 6; have eH := qa33 aa.out 7; have aL := qa33 aa.out 8; have eB := qa33 aa.out 9; have aF := qa33 aa.out 10) | ((with_reducible refine gate_callee (f := 48) rfl ?_); refine goesL_ (some 5) rfl rfl Tryd.func48 (by kernel_rfl) rfl #[.string a0_0] rfl (by (try simp only [List.map_toArray, List.map_cons, List.map_nil]) <;> rfl) ?_; (with_reducible refine (spec_TxtOk.calls k a0_0 true _ A2.out).mono ?_); rintro e w' ⟨rfl, ⟨nd, rfl⟩⟩; refine ⟨_, rfl, ?_⟩) | (go_at_call 31; (with_reducible refine (spec_l1In.calls a0_1 1 4 false _ A4.out).mono ?_); rintro e w' ⟨rfl, ⟨nd, rfl⟩⟩))
   go_ret
   exact ⟨by first | rfl | (simp [errW_none, errW_some] <;> rfl) | (simp [*, errW_none, errW_some] <;> rfl), by repeat (first | (with_reducible first | exact HB.out | apply qd33 | apply qc33 | apply qe33 | refine below_set ?_ ab.out) | exact HB.out)⟩
 ·replace c3 := Bool.eq_false_iff.mpr c3
  subst c3
  have H1 : (some false) = some r := by rw [if_neg (show ¬ (false = true) by decide)] at H; exact H
  clear H
  have H := H1
  clear H1
  obtain rfl := Option.some.inj H
  go_enter Tryd.func33, Tryd.ntmps33
  go_wp2_with (first | ((with_reducible refine gate_dst (N := 1) rfl ?_); refine box_event ?hg (N := 1) ?hd (cs := #[.string a0_0, .int .i64 a0_1, .int .i64 a0_2, .int .i64 a0_3, .int .i64 a0_4, .int .i64 a0_5, .int .i64 a0_6, .int .i64 a0_7, .int .i64 a0_8, .int .i64 a0_9, .int .i64 a0_10]) (t := 37) ?hr ?_; (case hd => rfl); (case hg => rfl); (case hr => go_simp <;> rfl); intro ac hg w43 hbox hb; have n0_ := qb33 (below_step (by repeat (first | (with_reducible first | exact HB.out | apply qd33 | apply qc33 | apply qe33) | exact HB.out)) hb); have n1_ := qb33 (hbox); have n2_ := qb33 ((by rw [hg]; exact (below_size (by repeat (first | (with_reducible first | exact HB.out | apply qd33 | apply qc33 | apply qe33) | exact HB.out))) : w.heap.size ≤ ac)); have n3_ := qb33 n2_.out; replace HB := n0_; have aa := n1_; have ad := n2_; have ab := n3_; clear n0_ n1_ n2_ n3_; clear hb hbox hg; have dl := bq33_ aa.out 0 rfl; have eS := bq33_ aa.out 1 rfl; have dM := bq33_ aa.out 2 rfl; have d4 := bq33_ aa.out 3 rfl; have cv := bq33_ aa.out 4 rfl; have dv := bq33_ aa.out 5 rfl; have bT := bq33_ aa.out 6 rfl; have bo := bq33_ aa.out 7 rfl; have dC := bq33_ aa.out 8 rfl; have ef := bq33_ aa.out 9 rfl; have ay := bq33_ aa.out 10 rfl; have ca := qa33 aa.out 0; have dg := qa33 aa.out 1; have eC := qa33 aa.out 2; have cp := qa33 aa.out 3; have aJ := qa33 aa.out 4; have bz := qa33 aa.out 5; have dL := qa33 aa.out 6; have e3 := qa33 aa.out 7; have cr := qa33 aa.out 8; have eZ := qa33 aa.out 9; have ak := qa33 aa.out 10) | ((with_reducible refine gate_callee (f := 48) rfl ?_); refine goesL_ (some 5) rfl rfl Tryd.func48 (by kernel_rfl) rfl #[.string a0_0] rfl (by (try simp only [List.map_toArray, List.map_cons, List.map_nil]) <;> rfl) ?_; (with_reducible refine (spec_TxtOk.calls k a0_0 false _ A2.out).mono ?_); rintro e w' ⟨rfl, ⟨nd, rfl⟩⟩; refine ⟨_, rfl, ?_⟩))
  go_ret
  exact ⟨by first | rfl | (simp [errW_none, errW_some] <;> rfl) | (simp [*, errW_none, errW_some] <;> rfl), by repeat (first | (with_reducible first | exact HB.out | apply qd33 | apply qc33 | apply qe33 | refine below_set ?_ ab.out) | exact HB.out)⟩
end Go.Proofs.YtnednnnegofhkaaDoor.Pr
