/- An array of three integers as a parameter: opened, and shut. -/
import Derived.Test.YtmongghhagbokaaKit
import Derived.ChangeSame
import Derived.OpenShut
import Derived.Laws.IdiomArrays
namespace Go.Proofs.Ytmongghhagbokaa.Arr3
open Go.ChangeShapes Go.WideShapes
section
variable {H : Type} {enc : TypeId × Value → H} {P : Program} {w : World} {base : Nat} {spare : Nat → Bool} {held : Bool}
theorem list3 {α : Type} (l : List α) (h : (⟨l⟩ : Array α).size = 3) : ∃ a b c, l = [a, b, c] := by
  match l, h with
  | [a, b, c], _ => exact ⟨a, b, c, rfl⟩
theorem open_arr3 {r : Reach} {b0 : Nat} {t e : TypeId} {k : IntKind} {v : Value} {d : DataW H} {p : List MemPlace} (ht : P.underlying t = some (.array 3 e)) (he : P.underlying e = some (.int k)) (hc : P.cellsOf t = 3) (hce : P.cellsOf e = 1)
    (hval : Value.okWide P w r b0 t v) (h : DataW.Trod enc P w base spare held t v d p) :
    ∃ x y z : Int, v = .agg #[.int k x, .int k y, .int k z] ∧ d = .agg [.lit (.int k x), .lit (.int k y), .lit (.int k z)] ∧ p = [] ∧ (Lit.int k x).wf = true ∧ (Lit.int k y).wf = true ∧ (Lit.int k z).wf = true := by
  obtain ⟨cs, rfl, hsz⟩ : ∃ cs, v = .agg cs ∧ cs.size = P.cellsOf t := by
    simp only [Value.okWide, ht] at hval
    obtain ⟨cs, h1, h2, _⟩ := hval
    exact ⟨cs, h1, h2⟩
  rw [hc] at hsz
  obtain ⟨l⟩ := cs
  obtain ⟨c0, c1, c2, rfl⟩ := list3 l hsz
  obtain ⟨fuel, hf⟩ := h
  obtain ⟨y0, y1, y2, m, hx, hy0, hy1, hy2⟩ := trod_array3 ht hce hf
  obtain ⟨x0, e0, rfl, w0⟩ := DataW.trod_int he hy0
  obtain ⟨x1, e1, rfl, w1⟩ := DataW.trod_int he hy1
  obtain ⟨x2, e2, rfl, w2⟩ := DataW.trod_int he hy2
  simp at e0 e1 e2
  subst e0 e1 e2
  simp only [Prod.mk.injEq] at hx
  obtain ⟨rfl, rfl⟩ := hx
  exact ⟨x0, x1, x2, rfl, rfl, rfl, w0, w1, w2⟩
theorem shut_arr3 {t e : TypeId} {k : IntKind} {x y z : Int} (ht : P.underlying t = some (.array 3 e)) (he : P.underlying e = some (.int k)) (hc : P.cellsOf t = 3) (hce : P.cellsOf e = 1)
    (w0 : (Lit.int k x).wf = true) (w1 : (Lit.int k y).wf = true) (w2 : (Lit.int k z).wf = true) :
    DataW.Trod enc P w base spare held t (.agg #[.int k x, .int k y, .int k z]) (.agg [.lit (.int k x), .lit (.int k y), .lit (.int k z)]) [] := by
  refine ⟨2, ?_⟩
  have r3 : List.range 3 = [0, 1, 2] := rfl
  simp [DataW.trod, Value.cells, ht, he, hc, hce, r3, w0, w1, w2]
end
end Go.Proofs.Ytmongghhagbokaa.Arr3
