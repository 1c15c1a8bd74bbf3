/- An array of two integers, and a deed, as parameters: opened, and shut. -/
import Derived.Test.YtnidcnmeonjjbaaLayDeedK
import Derived.ChangeSame
import Derived.OpenShut
import Derived.Laws.IdiomArrays
namespace Go.Proofs.Ytnidcnmeonjjbaa.LayArgs
open Go.RowKit Go.ChangeShapes Go.WideShapes Go.Deep Go.Proofs.Ytnidcnmeonjjbaa.LayDeedK Go.Proofs.YtnidcnmeonjjbaaW.PrintWords
section
variable {H : Type} {enc : TypeId × Value → H} {P : Program} {w : World} {base : Nat} {spare : Nat → Bool} {held : Bool}
theorem list2 {α : Type} (l : List α) (h : (⟨l⟩ : Array α).size = 2) : ∃ a b, l = [a, b] := by
  match l, h with
  | [a, b], _ => exact ⟨a, b, rfl⟩
theorem trod_array2 {t e : TypeId} {fuel : Nat} {c0 c1 : Value} {x : DataW H × List MemPlace} (ht : P.underlying t = some (.array 2 e)) (hce : P.cellsOf e = 1)
    (h : DataW.trod enc P w base spare held fuel t [c0, c1] = some x) :
    ∃ y0 y1 n, x = (.agg [y0.1, y1.1], y0.2 ++ y1.2) ∧ DataW.trod enc P w base spare held n e [c0] = some y0 ∧ DataW.trod enc P w base spare held n e [c1] = some y1 := by
  cases fuel with
  | zero => simp [DataW.trod] at h
  | succ n =>
    unfold DataW.trod at h
    rw [ht] at h
    have r2 : List.range 2 = [0, 1] := rfl
    simp [r2, hce] at h
    obtain ⟨_, h⟩ := h
    cases h0 : DataW.trod enc P w base spare held n e [c0] with
    | none => simp [h0] at h
    | some y0 =>
      cases h1 : DataW.trod enc P w base spare held n e [c1] with
      | none => simp [h0, h1] at h
      | some y1 =>
        simp [h0, h1] at h
        exact ⟨y0, y1, n, h.symm, h0, h1⟩
theorem open_arr2 {r : Reach} {b0 : Nat} {t e : TypeId} {k : IntKind} {v : Value} {d : DataW H} {p : List MemPlace} (ht : P.underlying t = some (.array 2 e)) (he : P.underlying e = some (.int k)) (hc : P.cellsOf t = 2) (hce : P.cellsOf e = 1)
    (hval : Value.okWide P w r b0 t v) (h : DataW.Trod enc P w base spare held t v d p) :
    ∃ x y : Int, v = .agg #[.int k x, .int k y] ∧ d = .agg [.lit (.int k x), .lit (.int k y)] ∧ p = [] ∧ (Lit.int k x).wf = true ∧ (Lit.int k y).wf = true := by
  obtain ⟨cs, rfl, hsz⟩ : ∃ cs, v = .agg cs ∧ cs.size = P.cellsOf t := by
    simp only [Value.okWide, ht] at hval
    obtain ⟨cs, h1, h2, _⟩ := hval
    exact ⟨cs, h1, h2⟩
  rw [hc] at hsz
  obtain ⟨l⟩ := cs
  obtain ⟨c0, c1, rfl⟩ := list2 l hsz
  obtain ⟨fuel, hf⟩ := h
  obtain ⟨y0, y1, m, hx, hy0, hy1⟩ := trod_array2 ht hce hf
  obtain ⟨x0, e0, rfl, w0⟩ := DataW.trod_int he hy0
  obtain ⟨x1, e1, rfl, w1⟩ := DataW.trod_int he hy1
  simp at e0 e1
  subst e0 e1
  simp only [Prod.mk.injEq] at hx
  obtain ⟨rfl, rfl⟩ := hx
  exact ⟨x0, x1, rfl, rfl, rfl, w0, w1⟩
theorem shut_arr2 {t e : TypeId} {k : IntKind} {x y : Int} (ht : P.underlying t = some (.array 2 e)) (he : P.underlying e = some (.int k)) (hc : P.cellsOf t = 2) (hce : P.cellsOf e = 1)
    (w0 : (Lit.int k x).wf = true) (w1 : (Lit.int k y).wf = true) :
    DataW.Trod enc P w base spare held t (.agg #[.int k x, .int k y]) (.agg [.lit (.int k x), .lit (.int k y)]) [] := by
  refine ⟨2, ?_⟩
  have r3 : List.range 2 = [0, 1] := rfl
  simp [DataW.trod, Value.cells, ht, he, hc, hce, r3, w0, w1]
end
section
variable {H : Type} {enc : TypeId × Value → H} {w : World} {base : Nat} {spare : Nat → Bool} {held : Bool}
theorem open_deed {r : Reach} {b0 : Nat} {v : Value} {d : DataW H} {p : List MemPlace} (hval : Value.okWide Try.prog w r b0 29 v) (h : DataW.Trod enc Try.prog w base spare held 29 v d p) :
    ∃ x : SD, v = .agg #[.int .i64 x.p, .int .i64 x.q, .bool x.f, .bool x.a] ∧ deedwf x := by
  obtain ⟨cs, rfl, hsz⟩ : ∃ cs, v = .agg cs ∧ cs.size = Try.prog.cellsOf 29 := by
    simp only [Value.okWide, Try.underlying29] at hval
    obtain ⟨cs, h1, h2, _⟩ := hval
    exact ⟨cs, h1, h2⟩
  obtain ⟨fuel, hf⟩ := h
  have hf2 : DataW.trod enc Try.prog w base spare held fuel 29 cs.toList = some (d, p) := hf
  obtain ⟨x, hk, hw⟩ := el_deed hf2
  have e := kD_open hk
  refine ⟨x, ?_, hw⟩
  obtain ⟨l⟩ := cs
  rw [show l = [.int .i64 x.p, .int .i64 x.q, .bool x.f, .bool x.a] from e]
end
end Go.Proofs.Ytnidcnmeonjjbaa.LayArgs
