/- A deed of the player's laws as a kind of element; a deed of a law's slice, opened. -/
import Derived.Test.YtmongghhagbokaaOpens
import Derived.Test.YtmongghhagbokaaPPlayRightsx0
import Derived.ChangeArms
namespace Go.Proofs.Ytmongghhagbokaa.DeedK
open Go.RowKit Go.ChangeShapes Go.WideShapes Go.Deep Go.Proofs.YtmongghhagbokaaW.PrintWords Go.Proofs.YtmongghhagbokaaW.PrintLast Go.Proofs.YtmongghhagbokaaW.PrintMore
set_option linter.unusedVariables false
structure SD where
  f0 : Int
  f1 : Int
  f2 : Int
def zD : SD := ⟨0, 0, 0⟩
def kD : Kd SD := Kd.iso (Kd.pair (Kd.int .i64) (Kd.pair (Kd.int .i64) (Kd.int .i64))) (fun x : SD => (x.f0, x.f1, x.f2))
theorem kD_open {w : World} {x : SD} {cs : List Value} (h : kD.K w x cs) : cs = [.int .i64 x.f0, .int .i64 x.f1, .int .i64 x.f2] := by
  obtain ⟨_, _, rfl, rfl, ⟨_, _, rfl, rfl, rfl⟩⟩ := h
  exact rfl
theorem kD_mk (w : World) (x : SD) : kD.K w x [.int .i64 x.f0, .int .i64 x.f1, .int .i64 x.f2] := ⟨[.int .i64 x.f0], [.int .i64 x.f1, .int .i64 x.f2], rfl, rfl, ⟨[.int .i64 x.f1], [.int .i64 x.f2], rfl, rfl, rfl⟩⟩
theorem at_D {w : World} {A : Option Addr} {n : Nat} {xs : List SD} (h : Kd.C kD w A n xs) (i : Nat) (hi : i < n) : ∃ (ad : Addr) (x : SD), A = some ad ∧ w.cell? (ad.add (i * 3)) = some (.int .i64 x.f0) ∧ w.cell? ⟨(ad.add (i * 3)).block, (ad.add (i * 3)).off + 1, none⟩ = some (.int .i64 x.f1) ∧ w.cell? ⟨(ad.add (i * 3)).block, (ad.add (i * 3)).off + 2, none⟩ = some (.int .i64 x.f2) := by
  obtain ⟨ad, c, e, _, hK, hc0⟩ := Kd.C_get h zD (i : Int) (by omega) (by omega)
  rw [Int.toNat_natCast] at hK hc0
  have hc : ∀ j u, c[j]? = some u → w.cell? (ad.add (i * 3 + j)) = some u := hc0
  obtain rfl := kD_open hK
  exact ⟨ad, _, e, hc 0 _ rfl, by rw [← add_field _ _ 1 (by omega)]; exact hc 1 _ rfl, by rw [← add_field _ _ 2 (by omega)]; exact hc 2 _ rfl⟩
def deedwf (x : SD) : Prop := (Lit.int .i64 x.f0).wf = true ∧ (Lit.int .i64 x.f1).wf = true ∧ (Lit.int .i64 x.f2).wf = true
section
variable {H : Type} {enc : TypeId × Value → H} {w : World} {base : Nat} {spare : Nat → Bool} {held : Bool}
theorem el_deed {fuel : Nat} {cs : List Value} {x : DataW H × List MemPlace} (h : DataW.trod enc Try.prog w base spare held fuel 42 cs = some x) : ∃ p : SD, kD.K w p cs ∧ deedwf p := by
  obtain ⟨xs, n, _, rfl, hl, hlen, hf⟩ := DataW.trod_struct Try.underlying42 h
  have hc : Try.prog.cellsOf 42 = 3 := by kernel_rfl
  have c3 : Try.prog.cellsOf 3 = 1 := by kernel_rfl
  rw [hc] at hl
  match cs, hl with
  | [v0, v1, v2], _ =>
    match xs, hlen with
    | [y0, y1, y2], _ =>
      have h0 : DataW.trod enc Try.prog w base spare held _ 3 (([v0, v1, v2].drop 0).take (Try.prog.cellsOf 3)) = some y0 := hf 0 _ rfl
      rw [c3] at h0
      have h1 : DataW.trod enc Try.prog w base spare held _ 3 (([v0, v1, v2].drop 1).take (Try.prog.cellsOf 3)) = some y1 := hf 1 _ rfl
      rw [c3] at h1
      have h2 : DataW.trod enc Try.prog w base spare held _ 3 (([v0, v1, v2].drop 2).take (Try.prog.cellsOf 3)) = some y2 := hf 2 _ rfl
      rw [c3] at h2
      obtain ⟨a0, e0, _, w0⟩ := DataW.trod_int Try.underlying3 h0
      obtain ⟨a1, e1, _, w1⟩ := DataW.trod_int Try.underlying3 h1
      obtain ⟨a2, e2, _, w2⟩ := DataW.trod_int Try.underlying3 h2
      simp at e0 e1 e2
      subst e0 e1 e2
      exact ⟨⟨a0, a1, a2⟩, kD_mk w ⟨a0, a1, a2⟩, w0, w1, w2⟩
end
end Go.Proofs.Ytmongghhagbokaa.DeedK
