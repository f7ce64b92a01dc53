/- A part of what the claim of 'FnExactCellOk' leans on. -/
import Derived.Test.YtldmepofbkcmnaaDoorFnExactCellOkPr0
import Derived.ProofKit
import Derived.OpenShut
import Derived.ShutString
import Derived.ChangeOld
import Derived.Below
import Derived.SizedLaws
import Derived.DataElems
set_option linter.unusedVariables false
set_option linter.unusedSimpArgs false
namespace Go.Proofs.YtldmepofbkcmnaaDoor.Pure
open Go.RowKit Go.Proofs.YtldmepofbkcmnaaDoor.Pr Go.Proofs.YtldmepofbkcmnaaDoorW.PrintWords Go.Proofs.YtldmepofbkcmnaaDoorW.PrintLast Go.Proofs.YtldmepofbkcmnaaDoorW.PrintMore
section
variable {H : Type} {enc : TypeId × Value → H} {P : Program} {W : World} {α β γ : Type}
structure Opens (enc : TypeId × Value → H) (P : Program) (W : World) (t : TypeId) (d : Kd α) (I : α → Prop) : Prop where
  out : ∀ (fuel : Nat) (cs : List Value) (x : DataW H × List MemPlace), DataW.trod enc P W 0 (fun _ => true) true fuel t cs = some x → ∃ y, d.K W y cs ∧ I y
theorem opens_int {t : TypeId} {k : IntKind} (hu : P.underlying t = some (.int k)) : Opens enc P W t (Kd.int k) (fun n => (Lit.int k n).wf = true) := ⟨by
  intro fuel cs x h
  cases fuel with
  | zero => simp [DataW.trod] at h
  | succ fuel =>
    simp only [DataW.trod, hu] at h
    split at h <;> simp_all
    exact ⟨_, rfl, h.1.2⟩⟩
theorem opens_string {t : TypeId} (hu : P.underlying t = some .string) : Opens enc P W t Kd.string (fun s => s.size ≤ maxLen) := ⟨by
  intro fuel cs x h
  cases fuel with
  | zero => simp [DataW.trod] at h
  | succ fuel =>
    simp only [DataW.trod, hu] at h
    split at h <;> simp_all
    exact ⟨_, rfl, h.1⟩⟩
theorem mapM_get {δ ε : Type} {f : δ → Option ε} : ∀ {xs : List δ} {ys : List ε}, xs.mapM f = some ys → ys.length = xs.length ∧ ∀ (j : Nat) x, xs[j]? = some x → ∃ y, ys[j]? = some y ∧ f x = some y
  | [], ys, h => by simp at h; subst h; simp
  | a :: xs, ys, h => by
    rw [List.mapM_cons] at h
    simp only [Option.bind_eq_bind, Option.bind_eq_some_iff, Option.pure_def, Option.some.injEq] at h
    obtain ⟨b, hb, zs, hz, rfl⟩ := h
    obtain ⟨h1, h2⟩ := mapM_get hz
    refine ⟨by simp [h1], ?_⟩
    intro j x hx
    cases j with
    | zero => simp at hx; subst hx; exact ⟨b, by simp, hb⟩
    | succ j => simpa using h2 j x (by simpa using hx)
structure OpensF (enc : TypeId × Value → H) (P : Program) (W : World) (fs : List Field) (off : Nat) (d : Kd α) (I : α → Prop) : Prop where
  out : ∀ (fuel : Nat) (cs : List Value) (x : List (DataW H × List MemPlace)), (fs.mapM fun f => DataW.trod enc P W 0 (fun _ => true) true fuel f.type ((cs.drop f.offset).take (P.cellsOf f.type))) = some x → cs.length = off + d.sz → ∃ y, d.K W y (cs.drop off) ∧ I y
theorem opensF_last {f : Field} {off : Nat} {d : Kd α} {I : α → Prop} (ho : f.offset = off) (hc : P.cellsOf f.type = d.sz) (h : Opens enc P W f.type d I) : OpensF enc P W [f] off d I := ⟨by
  intro fuel cs x hx hl
  obtain ⟨_, hg⟩ := mapM_get hx
  obtain ⟨y, _, hy⟩ := hg 0 f rfl
  rw [ho, hc, List.take_of_length_le (by simp; omega)] at hy
  exact h.out fuel _ _ hy⟩
theorem opensF_cons {f : Field} {fs : List Field} {off : Nat} {d : Kd α} {d' : Kd β} {I : α → Prop} {I' : β → Prop} (ho : f.offset = off) (hc : P.cellsOf f.type = d.sz) (h : Opens enc P W f.type d I) (hs : OpensF enc P W fs (off + d.sz) d' I') :
    OpensF enc P W (f :: fs) off (Kd.pair d d') (fun p => I p.1 ∧ I' p.2) := ⟨by
  intro fuel cs x hx hl
  rw [List.mapM_cons] at hx
  simp only [Option.bind_eq_bind, Option.bind_eq_some_iff, Option.pure_def, Option.some.injEq] at hx
  obtain ⟨b, hb, zs, hz, rfl⟩ := hx
  have hsz : (Kd.pair d d').sz = d.sz + d'.sz := rfl
  rw [hsz] at hl
  obtain ⟨y', hK', hI'⟩ := hs.out fuel cs zs hz (by omega)
  rw [ho, hc] at hb
  obtain ⟨y, hK, hI⟩ := h.out fuel _ _ hb
  refine ⟨(y, y'), ⟨_, _, ?_, hK, hK'⟩, hI, hI'⟩
  rw [← List.drop_drop, List.take_append_drop]⟩
theorem opens_struct {t : TypeId} {fs : Array Field} {d : Kd α} {I : α → Prop} (hu : P.underlying t = some (.struct fs)) (hc : P.cellsOf t = d.sz) (h : OpensF enc P W fs.toList 0 d I) (f : β → α) (g : α → β) (hfg : ∀ x, f (g x) = x) :
    Opens enc P W t (Kd.iso d f) (fun y => I (f y)) := ⟨by
  intro fuel cs x hx
  cases fuel with
  | zero => simp [DataW.trod] at hx
  | succ fuel =>
    simp only [DataW.trod, hu] at hx
    split at hx
    · rename_i hl
      simp only [Option.map_eq_some_iff] at hx
      obtain ⟨xs, hxs, _⟩ := hx
      obtain ⟨y, hK, hI⟩ := h.out fuel cs xs hxs (by omega)
      refine ⟨g y, ?_, by rw [hfg]; exact hI⟩
      show d.K W (f (g y)) cs
      rw [hfg]
      simpa using hK
    · cases hx⟩
theorem Opens.imp {t : TypeId} {d : Kd α} {I I' : α → Prop} (h : Opens enc P W t d I) (hi : ∀ x, I x → I' x) : Opens enc P W t d I' := ⟨fun fuel cs x hx => by
  obtain ⟨y, a, b⟩ := h.out fuel cs x hx
  exact ⟨y, a, hi y b⟩⟩
end
end Go.Proofs.YtldmepofbkcmnaaDoor.Pure
