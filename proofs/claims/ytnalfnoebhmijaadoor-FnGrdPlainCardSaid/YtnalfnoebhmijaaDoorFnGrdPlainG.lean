/- A part of what the claim of 'FnGrdPlain' leans on. -/
import Derived.Test.YtnalfnoebhmijaaDoorFnGrdPlainWWords
import Derived.Test.YtnalfnoebhmijaaDoorFnGrdPlainWLast
import Derived.Test.YtnalfnoebhmijaaDoorFnGrdPlainWMore
import Derived.Test.YtnalfnoebhmijaaDoorFnGrdPlainWTab
import Derived.Lib.SliceRun
namespace Go.Proofs.YtnalfnoebhmijaaDoor.Pr
open Go.RowKit Go.Proofs.YtnalfnoebhmijaaDoorW.PrintWords Go.Proofs.YtnalfnoebhmijaaDoorW.PrintLast Go.Proofs.YtnalfnoebhmijaaDoorW.PrintMore
set_option linter.unusedVariables false
def idxOf {α : Type} (p : α → Bool) : List α → Int
  | [] => -1
  | x :: l => if p x = true then 0 else if idxOf p l < 0 then -1 else idxOf p l + 1
theorem idxOf_range {α : Type} (p : α → Bool) (l : List α) : -1 ≤ idxOf p l ∧ idxOf p l < l.length ∧ (0 ≤ idxOf p l ↔ l.any p = true) := by
 induction l with
 | nil => simp [idxOf]
 | cons x l ih =>
  obtain ⟨i1, i2, i3⟩ := ih
  unfold idxOf
  rw [List.any_cons, List.length_cons]
  by_cases h : p x = true
  ·rw [if_pos h, h]; exact ⟨by omega, by omega, by simp⟩
  ·rw [if_neg h, Bool.eq_false_iff.mpr h, Bool.false_or, ← i3]
   by_cases h2 : idxOf p l < 0
   ·rw [if_pos h2]; exact ⟨by omega, by omega, by omega⟩
   ·rw [if_neg h2]; exact ⟨by omega, by omega, by omega⟩
theorem idxOf_hit {α : Type} (p : α → Bool) : ∀ (l : List α) (k : Nat) (x : α), l[k]? = some x → p x = true → (∀ j y, j < k → l[j]? = some y → p y = false) → idxOf p l = k
 | [], k, x, h, _, _ => by simp at h
 | a :: l, 0, x, h, hp, _ => by simp at h; subst h; simp [idxOf, hp]
 | a :: l, k + 1, x, h, hp, hn => by
  have ha : p a = false := hn 0 a (by omega) (by simp)
  have ih := idxOf_hit p l k x (by simpa using h) hp (fun j y hj hy => hn (j + 1) y (by omega) (by simpa using hy))
  unfold idxOf
  rw [if_neg (by simp [ha]), ih, if_neg (by omega)]
  omega
theorem idxOf_miss {α : Type} (p : α → Bool) (l : List α) (h : ∀ j y, j < l.length → l[j]? = some y → p y = false) : idxOf p l = -1 := by
 have r := idxOf_range p l
 have : ¬ l.any p = true := by
  intro q
  obtain ⟨x, hx, hp⟩ := List.any_eq_true.1 q
  obtain ⟨j, hj⟩ := List.getElem?_of_mem hx
  have := h j x (List.getElem?_eq_some_iff.1 hj).1 hj
  rw [this] at hp; cases hp
 have : ¬ 0 ≤ idxOf p l := fun q => this (r.2.2.mp q)
 omega
theorem getD_at {α : Type} (l : List α) (k : Nat) (z : α) (h : k < l.length) : l[k]? = some (l.getD (k : Int).toNat z) := by
  simp [List.getD_eq_getElem?_getD, h]
theorem qa_ {α : Type _} (l : List α) (i : Nat) (a : α) : l.toArray.setIfInBounds i a = (l.set i a).toArray := by simp
theorem qb_ {α : Type _} (a b : α) (l : List α) : (a :: l).set 0 b = b :: l := rfl
theorem qc_ {α : Type _} (a b : α) (l : List α) (i : Nat) : (a :: l).set (i + 1) b = a :: l.set i b := rfl
theorem bl_ {b : Nat} {w W W' : World} (h : Below b w W) (e : Below b w W → Below b w W' := by intro h_; repeat (first | (with_reducible first | exact h_ | apply below_alloc | apply pw_below_drewN | apply below_drew1 | refine below_set ?_ (Aside0.out (by assumption))) | exact h_)) : Below b w W' := e h
theorem kk_ {w W W' : World} {g : Nat} {row : Option Nat} (h : KeepBut w W g row) (e : KeepBut w W g row → KeepBut w W' g row := by intro h_; repeat (first | (with_reducible first | exact h_ | apply KeepBut.set_ | apply keep_drewN | apply keep_drew | apply keep_alloc | refine keep_far ?_ (Aside0.out (by assumption)) _) | exact h_)) : KeepBut w W' g row := e h
theorem kb_ {p q : Prop} (h : p) (e : p → q := by intro h_; (with_reducible repeat (first | apply blk_drewN | apply blk_drew | apply blk_alloc)); exact h_) : q := e h
theorem far_ {w : World} {g : Nat} {o : Obj} (h : w.heap[g]? = some o) {p : Addr} (hp : g ≠ p.block) (u : Value) : (w.setCell p u).heap[g]? = some o := (Below.heap_setCell w p u g hp).trans h
theorem kf_ {p q : Prop} (h : p) (e : p → q := by intro h_; repeat (first | (with_reducible first | exact h_ | apply blk_drewN | apply blk_drew | apply blk_alloc | refine far_ ?_ (Aside0.out (by assumption)) _ | apply blk_put) | (simp only [qa_, qb_, qc_] <;> rfl) | exact h_)) : q := e h
theorem kr_ {p q : Prop} (h : p) (e : p → q := by intro h_; (with_reducible repeat (first | apply Kd.R_alloc | apply Kd.R_drewN | apply Kd.R_drew)); exact h_) : q := e h
theorem ks_ {p q : Prop} (h : p) (e : p → q := by intro h_; (with_reducible repeat (first | apply Kd.S_alloc | apply Kd.S_drewN | apply Kd.S_drew)); exact h_) : q := e h
theorem kc_ {p q : Prop} (h : p) (e : p → q := by intro h_; repeat (first | exact h_ | (with_reducible refine Kd.C_alloc ?_ _) | (with_reducible refine Kd.C_drewN ?_ _) | (with_reducible refine Kd.C_drew ?_))) : q := e h
theorem sz_ {n m g : Nat} (h : n ≤ m) (hg : g = m) : n ≤ g := hg ▸ h
theorem nl_ {n m g : Nat} (h : n < m) (hg : g = m) : n ≠ g := hg ▸ Nat.ne_of_lt h
theorem ob_ {α β : Type _} {x : Option α} {f : α → Option β} {b : β} (h : x.bind f = some b) : ∃ a, Aside0 (x = some a) ∧ f a = some b := by
  obtain ⟨a, h1, h2⟩ := Option.bind_eq_some_iff.mp h
  exact ⟨a, ⟨h1⟩, h2⟩
theorem dq_ {p : Prop} [Decidable p] (h : decide p = true := by first | (with_reducible assumption) | assumption) : p := of_decide_eq_true h
theorem rf_ {α : Sort _} {a b : α} (h : a = b := by first | rfl | (simp; done) | (simp [*]; done)) : a = b := h
theorem rg_ {α : Sort _} {a b : α} (h : a = b := by first | rfl | (simp [errW_none, errW_some] <;> rfl) | (simp [*, errW_none, errW_some] <;> rfl)) : a = b := h
theorem hb_ {α : Type _} {y x : α} {p q : Prop} (e : y = x) (h : p) (g : y = x → p → q := by intro bP H; first | (rw [bP]; with_reducible exact H) | (have H2_ := (Option.bind_some _ _).symm.trans H; rw [bP]; with_reducible exact H2_) | (have H2_ := (Option.bind_some _ _).symm.trans H; with_reducible exact H2_) | with_reducible exact H | (rw [bP]; exact H) | exact H) : q := g e h
theorem bq_ {w : World} {g : Nat} {t : TypeId} {cs : Array Value} {v : Value} (h : w.heap[g]? = some (.cells cs t (0, 0))) (i : Nat) (e : cs[i]? = some v := by rfl) : w.cell? ⟨g, i, none⟩ = some v := (blk_cell h i).trans e
theorem c2_ {w : World} {g : Nat} {t : TypeId} {v0 v1 : Value} (h : w.heap[g]? = some (.cells #[v0, v1] t (0, 0))) : w.cell? ⟨g, 0, none⟩ = some v0 ∧ w.cell? ⟨g, 1, none⟩ = some v1 ∧ w.frozen? ⟨g, 0, none⟩ = false ∧ w.frozen? ⟨g, 1, none⟩ = false := ⟨blk_cell h 0, blk_cell h 1, blk_frozen h 0, blk_frozen h 1⟩
theorem c3_ {w : World} {g : Nat} {t : TypeId} {v0 v1 v2 : Value} (h : w.heap[g]? = some (.cells #[v0, v1, v2] t (0, 0))) : w.cell? ⟨g, 0, none⟩ = some v0 ∧ w.cell? ⟨g, 1, none⟩ = some v1 ∧ w.cell? ⟨g, 2, none⟩ = some v2 ∧ w.frozen? ⟨g, 0, none⟩ = false ∧ w.frozen? ⟨g, 1, none⟩ = false ∧ w.frozen? ⟨g, 2, none⟩ = false := ⟨blk_cell h 0, blk_cell h 1, blk_cell h 2, blk_frozen h 0, blk_frozen h 1, blk_frozen h 2⟩
theorem c5_ {w : World} {g : Nat} {t : TypeId} {v0 v1 v2 v3 v4 : Value} (h : w.heap[g]? = some (.cells #[v0, v1, v2, v3, v4] t (0, 0))) : w.cell? ⟨g, 0, none⟩ = some v0 ∧ w.cell? ⟨g, 1, none⟩ = some v1 ∧ w.cell? ⟨g, 2, none⟩ = some v2 ∧ w.cell? ⟨g, 3, none⟩ = some v3 ∧ w.cell? ⟨g, 4, none⟩ = some v4 ∧ w.frozen? ⟨g, 0, none⟩ = false ∧ w.frozen? ⟨g, 1, none⟩ = false ∧ w.frozen? ⟨g, 2, none⟩ = false ∧ w.frozen? ⟨g, 3, none⟩ = false ∧ w.frozen? ⟨g, 4, none⟩ = false := ⟨blk_cell h 0, blk_cell h 1, blk_cell h 2, blk_cell h 3, blk_cell h 4, blk_frozen h 0, blk_frozen h 1, blk_frozen h 2, blk_frozen h 3, blk_frozen h 4⟩
theorem c11_ {w : World} {g : Nat} {t : TypeId} {v0 v1 v2 v3 v4 v5 v6 v7 v8 v9 v10 : Value} (h : w.heap[g]? = some (.cells #[v0, v1, v2, v3, v4, v5, v6, v7, v8, v9, v10] t (0, 0))) : w.cell? ⟨g, 0, none⟩ = some v0 ∧ w.cell? ⟨g, 1, none⟩ = some v1 ∧ w.cell? ⟨g, 2, none⟩ = some v2 ∧ w.cell? ⟨g, 3, none⟩ = some v3 ∧ w.cell? ⟨g, 4, none⟩ = some v4 ∧ w.cell? ⟨g, 5, none⟩ = some v5 ∧ w.cell? ⟨g, 6, none⟩ = some v6 ∧ w.cell? ⟨g, 7, none⟩ = some v7 ∧ w.cell? ⟨g, 8, none⟩ = some v8 ∧ w.cell? ⟨g, 9, none⟩ = some v9 ∧ w.cell? ⟨g, 10, none⟩ = some v10 ∧ w.frozen? ⟨g, 0, none⟩ = false ∧ w.frozen? ⟨g, 1, none⟩ = false ∧ w.frozen? ⟨g, 2, none⟩ = false ∧ w.frozen? ⟨g, 3, none⟩ = false ∧ w.frozen? ⟨g, 4, none⟩ = false ∧ w.frozen? ⟨g, 5, none⟩ = false ∧ w.frozen? ⟨g, 6, none⟩ = false ∧ w.frozen? ⟨g, 7, none⟩ = false ∧ w.frozen? ⟨g, 8, none⟩ = false ∧ w.frozen? ⟨g, 9, none⟩ = false ∧ w.frozen? ⟨g, 10, none⟩ = false := ⟨blk_cell h 0, blk_cell h 1, blk_cell h 2, blk_cell h 3, blk_cell h 4, blk_cell h 5, blk_cell h 6, blk_cell h 7, blk_cell h 8, blk_cell h 9, blk_cell h 10, blk_frozen h 0, blk_frozen h 1, blk_frozen h 2, blk_frozen h 3, blk_frozen h 4, blk_frozen h 5, blk_frozen h 6, blk_frozen h 7, blk_frozen h 8, blk_frozen h 9, blk_frozen h 10⟩
theorem bp5_ {w : World} {g : Nat} {t : TypeId} {v0 v1 v2 v3 v4 u0 u1 u2 u3 u4 : Value} (h : w.heap[g]? = some (.cells #[v0, v1, v2, v3, v4] t (0, 0))) : (((((w.setCell ⟨g, 0, none⟩ u0).setCell ⟨g, 1, none⟩ u1).setCell ⟨g, 2, none⟩ u2).setCell ⟨g, 3, none⟩ u3).setCell ⟨g, 4, none⟩ u4).heap[g]? = some (.cells #[u0, u1, u2, u3, u4] t (0, 0)) := by
  have h := blk_put (cs' := #[u0, v1, v2, v3, v4]) h 0 u0 rfl
  have h := blk_put (cs' := #[u0, u1, v2, v3, v4]) h 1 u1 rfl
  have h := blk_put (cs' := #[u0, u1, u2, v3, v4]) h 2 u2 rfl
  have h := blk_put (cs' := #[u0, u1, u2, u3, v4]) h 3 u3 rfl
  have h := blk_put (cs' := #[u0, u1, u2, u3, u4]) h 4 u4 rfl
  exact h
theorem bp11_ {w : World} {g : Nat} {t : TypeId} {v0 v1 v2 v3 v4 v5 v6 v7 v8 v9 v10 u0 u1 u2 u3 u4 u5 u6 u7 u8 u9 u10 : Value} (h : w.heap[g]? = some (.cells #[v0, v1, v2, v3, v4, v5, v6, v7, v8, v9, v10] t (0, 0))) : (((((((((((w.setCell ⟨g, 0, none⟩ u0).setCell ⟨g, 1, none⟩ u1).setCell ⟨g, 2, none⟩ u2).setCell ⟨g, 3, none⟩ u3).setCell ⟨g, 4, none⟩ u4).setCell ⟨g, 5, none⟩ u5).setCell ⟨g, 6, none⟩ u6).setCell ⟨g, 7, none⟩ u7).setCell ⟨g, 8, none⟩ u8).setCell ⟨g, 9, none⟩ u9).setCell ⟨g, 10, none⟩ u10).heap[g]? = some (.cells #[u0, u1, u2, u3, u4, u5, u6, u7, u8, u9, u10] t (0, 0)) := by
  have h := blk_put (cs' := #[u0, v1, v2, v3, v4, v5, v6, v7, v8, v9, v10]) h 0 u0 rfl
  have h := blk_put (cs' := #[u0, u1, v2, v3, v4, v5, v6, v7, v8, v9, v10]) h 1 u1 rfl
  have h := blk_put (cs' := #[u0, u1, u2, v3, v4, v5, v6, v7, v8, v9, v10]) h 2 u2 rfl
  have h := blk_put (cs' := #[u0, u1, u2, u3, v4, v5, v6, v7, v8, v9, v10]) h 3 u3 rfl
  have h := blk_put (cs' := #[u0, u1, u2, u3, u4, v5, v6, v7, v8, v9, v10]) h 4 u4 rfl
  have h := blk_put (cs' := #[u0, u1, u2, u3, u4, u5, v6, v7, v8, v9, v10]) h 5 u5 rfl
  have h := blk_put (cs' := #[u0, u1, u2, u3, u4, u5, u6, v7, v8, v9, v10]) h 6 u6 rfl
  have h := blk_put (cs' := #[u0, u1, u2, u3, u4, u5, u6, u7, v8, v9, v10]) h 7 u7 rfl
  have h := blk_put (cs' := #[u0, u1, u2, u3, u4, u5, u6, u7, u8, v9, v10]) h 8 u8 rfl
  have h := blk_put (cs' := #[u0, u1, u2, u3, u4, u5, u6, u7, u8, u9, v10]) h 9 u9 rfl
  have h := blk_put (cs' := #[u0, u1, u2, u3, u4, u5, u6, u7, u8, u9, u10]) h 10 u10 rfl
  exact h
theorem ar3_ {w : World} {g : Nat} {T : TypeId} {a b c : Int} (h : w.heap[g]? = some (.cells #[.int .i64 a, .int .i64 b, .int .i64 c] T (0, 0))) {t : Int} (h0 : 0 ≤ t) (h1 : t < 3) : w.cell? ⟨g, t.toNat, none⟩ = some (.int .i64 (rd ([a, b, c] : List Int) t)) := by
  have : t = 0 ∨ t = 1 ∨ t = 2 := by omega
  rcases this with rfl | rfl | rfl
  · exact (blk_cell h 0).trans rfl
  · exact (blk_cell h 1).trans rfl
  · exact (blk_cell h 2).trans rfl
def bmL_ : Nat → Nat → List Bool
  | 0, _ => []
  | n + 1, x => (x % 2 == 1) :: bmL_ n (x / 2)
def bm_ (n x : Nat) : Array Bool := (bmL_ n x).toArray
section
variable {P : Program} {ops : Array Oper} {Q : Exit → Act → World → Prop} {oi : Oper} {N : Option Tmp} {a : Act} {w : World} {md : Region.Mode} {S : World → Prop} {ds : List Nat} {fuel : Nat} {l : Array Bool} {T : Bool × List (List Nat × List Nat)} {B : List Nat} {v : Value}
theorem gs_ {K : Act → World → Prop} {f : FuncId} {fn : Func} {as : Array Operand} {ts : Array TypeId} (hf : P.funcs[f]? = some fn) (args : Array Value) (h : Calls P f args w fun e w' => ∃ v, e = .returned v ∧ K (a.put N v) w') (hname : (fn.name == "runtime.NumGoroutine") = false := by kernel_rfl) (hb : fn.body.isSome = true := by rfl)
  (hw : Region.wanted oi (yielded ops a.tmps) = true := by rfl) (hN : oi.dst = N := by rfl) (hop : oi.op = .call { callee := .value (.func f), args := as, argTypes := ts } := by rfl) (hargs : as.map a.eval = args := by (try simp only [List.map_toArray, List.map_cons, List.map_nil]); first | done | rfl | (simp only [List.length_drop, List.length_take]; rfl)) :
  if Region.wanted oi (yielded ops a.tmps) = true then Oper.wp P oi a w K Q else K (a.put N undef) w := goes_ hf hname hb args hw hN hop hargs h
theorem gl_ {rest : List Oper} (N : Option Tmp) {f : FuncId} {fn : Func} {as : Array Operand} {ts : Array TypeId} (hf : P.funcs[f]? = some fn) (args : Array Value) (h : Calls P f args w fun e w' => ∃ v, e = .returned v ∧ wpList P ops Q rest (a.put N v) w') (hd : oi.dst = N := by rfl) (hg : oi.guard = none := by rfl) (hname : (fn.name == "runtime.NumGoroutine") = false := by kernel_rfl) (hb : fn.body.isSome = true := by rfl)
  (hop : oi.op = .call { callee := .value (.func f), args := as, argTypes := ts } := by rfl) (hargs : as.map a.eval = args := by (try simp only [List.map_toArray, List.map_cons, List.map_nil]); first | done | rfl | (simp only [List.length_drop, List.length_take]; rfl)) : wpList P ops Q (oi :: rest) a w := goesL_ N hd hg hf hname hb args hop hargs h
theorem bx_ {rest : List Oper} (N : Tmp) (cs : Array Value) (t : TypeId) (h : ∀ g, g = w.heap.size → ∀ w1, w1.heap[g]? = some (.cells cs t (0, 0)) → Below w.heap.size w w1 → wpList P ops Q rest (a.put oi.dst (.pointer (some ⟨g, 0, none⟩))) w1) (hd : oi.dst = some N := by rfl) (hg : oi.guard = none := by rfl)
  (hr : (execOp a.eval oi).run P w = .ok (.value (.pointer (some ⟨w.heap.size, 0, none⟩))) (w.alloc (.cells cs t (0, 0))) := by go_simp <;> rfl) : wpList P ops Q (oi :: rest) a w := box_event hg hd hr h
theorem bs_ {K : Act → World → Prop} (N : Tmp) (cs : Array Value) (t : TypeId) (h : ∀ g, g = w.heap.size → ∀ w1, w1.heap[g]? = some (.cells cs t (0, 0)) → Below w.heap.size w w1 → K (a.put oi.dst (.pointer (some ⟨g, 0, none⟩))) w1) (hd : oi.dst = some N := by rfl) (hw : Region.wanted oi (yielded ops a.tmps) = true := by rfl)
  (hr : (execOp a.eval oi).run P w = .ok (.value (.pointer (some ⟨w.heap.size, 0, none⟩))) (w.alloc (.cells cs t (0, 0))) := by go_simp <;> rfl) : if Region.wanted oi (yielded ops a.tmps) = true then Oper.wp P oi a w K Q else K (a.put oi.dst undef) w := box_step hw hd hr h
theorem nm_ (N : Option Tmp) {a' : Act} (h : wpAnyLast P md ops Q S ds fuel l a' w) (ha : a.put N v = a' := by simp only [Act.put, qa_, qb_, qc_, i64_w, i32_w]; rfl) : wpAnyLast P md ops Q S ds fuel l (a.put N v) w := norm_ ha h
theorem pv_ (i N : Nat) (l' : Array Bool) (hT : Aside0 (rtab md ops = T)) {a' : Act} (h : wpAnyLast P md ops Q S ds fuel l' a' w) (hc : anyT T l.toList l'.toList i = true := by kernel_rfl) (hi : ops[i]? = some oi := by exact rfl) (hN : oi.dst = some N := by exact rfl) (hQ : ∀ c a w, Q (.panic c) (a.put oi.dst v) w → Q (.panic c) a w := by exact fun _ _ _ h => h)
  (hy : Yields P ops oi v a := by refine Or.inl ⟨by rfl, ?_⟩; intro w'; go_simp; with_reducible rfl) (ha : a.put (some N) v = a' := by simp only [Act.put, qa_, qb_, qc_, i64_w, i32_w]; rfl) : wpAnyLast P md ops Q S ds (fuel + 1) l a w := pure_ l' hi hN (any_of hT.out hc) hQ hy ha h
theorem pn_ (i N : Nat) (l' : Array Bool) {a' : Act} (h : wpAnyLast P md ops Q S ds fuel l' a' w) (hc : anyB md ops l l' i = true := by kernel_rfl) (hi : ops[i]? = some oi := by exact rfl) (hN : oi.dst = some N := by exact rfl) (hQ : ∀ c a w, Q (.panic c) (a.put oi.dst v) w → Q (.panic c) a w := by exact fun _ _ _ h => h)
  (hy : Yields P ops oi v a := by refine Or.inl ⟨by rfl, ?_⟩; intro w'; go_simp; with_reducible rfl) (ha : a.put (some N) v = a' := by simp only [Act.put, qa_, qb_, qc_, i64_w, i32_w]; rfl) : wpAnyLast P md ops Q S ds (fuel + 1) l a w := pure_ l' hi hN hc hQ hy ha h
theorem pw_ (i N : Nat) (l' : Array Bool) (hT : Aside0 (rtab md ops = T)) {a' : Act} (h : wpAnyLast P md ops Q S ds fuel l' a' w) (hc : anyT T l.toList l'.toList i = true := by kernel_rfl) (hi : ops[i]? = some oi := by exact rfl) (hN : oi.dst = some N := by exact rfl) (hQ : ∀ c a w, Q (.panic c) (a.put oi.dst undef) w → Q (.panic c) a w := by exact fun _ _ _ h => h)
  (hy : Yields P ops oi undef a := by exact Or.inr ⟨by rfl, rfl⟩) (ha : a.put (some N) undef = a' := by simp only [Act.put, qa_, qb_, qc_, i64_w, i32_w]; rfl) : wpAnyLast P md ops Q S ds (fuel + 1) l a w := pure_ l' hi hN (any_of hT.out hc) hQ hy ha h
theorem tk_ (i N : Nat) (l' : Array Bool) (hT : Aside0 (rtab md ops = T)) (hB : Aside0 (waitsOk T.2 B = true)) (hS : S w) {a' : Act} (h : wpAnyLast P md ops Q S ds fuel l' a' w) (hc : takeW T B ds l.toList l'.toList i = true := by kernel_rfl) (hi : ops[i]? = some oi := by exact rfl) (hN : oi.dst = some N := by exact rfl) (hQ : ∀ c a w, Q (.panic c) (a.put oi.dst v) w → Q (.panic c) a w := by exact fun _ _ _ h => h)
  (hy : YieldsIf P ops S oi v a := by refine Or.inl ⟨by rfl, ?_⟩; intro w' hs_; (repeat (have hsx_ := hs_.1; replace hs_ := hs_.2)); go_simp; with_reducible rfl) (ha : a.put (some N) v = a' := by simp only [Act.put, qa_, qb_, qc_, i64_w, i32_w]; rfl) : wpAnyLast P md ops Q S ds (fuel + 1) l a w := take_ l' hi hN (take_ofW hT.out hB.out hc) hQ hy hS ha h
theorem tn_ (i N : Nat) (l' : Array Bool) (hS : S w) {a' : Act} (h : wpAnyLast P md ops Q S ds fuel l' a' w) (hc : takeB md ops ds l l' i = true := by kernel_rfl) (hi : ops[i]? = some oi := by exact rfl) (hN : oi.dst = some N := by exact rfl) (hQ : ∀ c a w, Q (.panic c) (a.put oi.dst v) w → Q (.panic c) a w := by exact fun _ _ _ h => h)
  (hy : YieldsIf P ops S oi v a := by refine Or.inl ⟨by rfl, ?_⟩; intro w' hs_; (repeat (have hsx_ := hs_.1; replace hs_ := hs_.2)); go_simp; with_reducible rfl) (ha : a.put (some N) v = a' := by simp only [Act.put, qa_, qb_, qc_, i64_w, i32_w]; rfl) : wpAnyLast P md ops Q S ds (fuel + 1) l a w := take_ l' hi hN hc hQ hy hS ha h
theorem hc_ {w W : World} {p : Addr} {v : Value} (hB : Below w.heap.size w W) (h : w.cell? p = some v) : W.cell? p = some v := (hB.cell (World.block_lt_of_cell? w _ h)).trans h
theorem hh_ {X K : Act → World → Prop} (hK : Shut (∀ a' w', S w' → (S w' → X a' w') → K a' w')) (h : S w → X a w) (hs : S w := by repeat' (first | (with_reducible apply And.intro) | exact bq_ (by with_reducible repeat (first | exact Aside0.out (by assumption) | apply blk_drewN | apply blk_drew | apply blk_alloc)) _ (by rfl) | exact hc_ (by with_reducible repeat (first | exact Aside0.out (by assumption) | apply below_alloc | apply pw_below_drewN | apply below_drew1)) (by with_reducible assumption))) : K a w := hK.out _ _ hs h
end
end Go.Proofs.YtnalfnoebhmijaaDoor.Pr
