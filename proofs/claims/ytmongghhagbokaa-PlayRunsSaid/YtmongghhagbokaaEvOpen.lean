/- An event as an element of a law's slice, opened. -/
import Derived.Test.YtmongghhagbokaaOpens
import Derived.Test.YtmongghhagbokaaPPlayRightsx0
import Derived.ChangeArms
namespace Go.Proofs.Ytmongghhagbokaa.EvOpen
open Go.RowKit Go.ChangeShapes Go.WideShapes Go.Deep Go.Proofs.YtmongghhagbokaaW.PrintWords
open Go.Proofs.Ytmongghhagbokaa.PPlayRights (S54 k54 k54_mk)
def evwf (x : S54) : Prop := (Lit.int .i64 x.f0).wf = true ∧ (Lit.int .i64 x.f1).wf = true ∧ (Lit.int .i64 x.f3).wf = true ∧ (Lit.int .i64 x.f4).wf = true
section
variable {H : Type} {enc : TypeId × Value → H} {w : World} {base : Nat} {spare : Nat → Bool} {held : Bool}
theorem el_ev {fuel : Nat} {cs : List Value} {x : DataW H × List MemPlace} (h : DataW.trod enc Try.prog w base spare held fuel 54 cs = some x) : ∃ p : S54, k54.K w p cs ∧ evwf p := by
  obtain ⟨xs, n, _, rfl, hl, hlen, hf⟩ := DataW.trod_struct Try.underlying54 h
  have hc : Try.prog.cellsOf 54 = 5 := by kernel_rfl
  have c3 : Try.prog.cellsOf 3 = 1 := by kernel_rfl
  have c9 : Try.prog.cellsOf 9 = 1 := by kernel_rfl
  rw [hc] at hl
  match cs, hl with
  | [v0, v1, v2, v3, v4], _ =>
    match xs, hlen with
    | [y0, y1, y2, y3, y4], _ =>
      have h0 : DataW.trod enc Try.prog w base spare held _ 3 (([v0, v1, v2, v3, v4].drop 0).take (Try.prog.cellsOf 3)) = some y0 := hf 0 _ rfl
      rw [c3] at h0
      have h1 : DataW.trod enc Try.prog w base spare held _ 3 (([v0, v1, v2, v3, v4].drop 1).take (Try.prog.cellsOf 3)) = some y1 := hf 1 _ rfl
      rw [c3] at h1
      have h2 : DataW.trod enc Try.prog w base spare held _ 9 (([v0, v1, v2, v3, v4].drop 2).take (Try.prog.cellsOf 9)) = some y2 := hf 2 _ rfl
      rw [c9] at h2
      have h3 : DataW.trod enc Try.prog w base spare held _ 3 (([v0, v1, v2, v3, v4].drop 3).take (Try.prog.cellsOf 3)) = some y3 := hf 3 _ rfl
      rw [c3] at h3
      have h4 : DataW.trod enc Try.prog w base spare held _ 3 (([v0, v1, v2, v3, v4].drop 4).take (Try.prog.cellsOf 3)) = some y4 := hf 4 _ rfl
      rw [c3] at h4
      obtain ⟨a0, e0, _, w0⟩ := DataW.trod_int Try.underlying3 h0
      obtain ⟨a1, e1, _, w1⟩ := DataW.trod_int Try.underlying3 h1
      obtain ⟨a2, e2, _, _⟩ := DataW.trod_string Try.underlying9 h2
      obtain ⟨a3, e3, _, w3⟩ := DataW.trod_int Try.underlying3 h3
      obtain ⟨a4, e4, _, w4⟩ := DataW.trod_int Try.underlying3 h4
      simp at e0 e1 e2 e3 e4
      subst e0 e1 e2 e3 e4
      exact ⟨⟨a0, a1, a2, a3, a4⟩, k54_mk w ⟨a0, a1, a2, a3, a4⟩, w0, w1, w3, w4⟩
end
end Go.Proofs.Ytmongghhagbokaa.EvOpen
