/- The check at the head of the statements of layer 1, as a contract: it is met; no condition. -/
import Derived.Test.YtmkcblcgjjjkiaaReader
namespace Go.Proofs.Ytmkcblcgjjjkiaa.VFit
open Go.RowKit Go.Proofs.Ytmkcblcgjjjkiaa.Kit Go.Proofs.Ytmkcblcgjjjkiaa.Plain Go.Proofs.Ytmkcblcgjjjkiaa.Mine Go.Proofs.Ytmkcblcgjjjkiaa.Vary Go.Proofs.Ytmkcblcgjjjkiaa.Reader Go.Proofs.YtmkcblcgjjjkiaaW.PrintWords Go.Proofs.YtmkcblcgjjjkiaaW.PrintLast Go.Proofs.YtmkcblcgjjjkiaaW.PrintMore
set_option linter.unusedVariables false
set_option linter.unusedSimpArgs false
theorem enc300 : encs [300] = [172, 2] := by decide +kernel
theorem dec300 : decI [172, 2] 0 0 = (300, 2) := by decide +kernel
set_option maxHeartbeats 800000 in
theorem zig7 (w : World) : Calls Try.prog 12 #[.int .i64 (-7)] w fun e w' => e = .returned (.int .u64 13) ∧ Below w.heap.size w w' := by
  go_enter Try.func12, Try.ntmps12
  go_wp2
  go_ret
  exact ⟨rfl, Below.refl _ _⟩
set_option maxHeartbeats 800000 in
theorem zag13 (w : World) : Calls Try.prog 13 #[.int .u64 13] w fun e w' => e = .returned (.int .i64 (-7)) ∧ Below w.heap.size w w' := by
  go_enter Try.func13, Try.ntmps13
  go_wp2
  go_ret
  exact ⟨congrArg (fun x => Ending.returned (Value.int .i64 x)) (show Go.bits .xor .i64 6 (wrap64 (-wrap64 (Go.bits .and .u64 13 1))) = (-7 : Int) from by decide +kernel), Below.refl _ _⟩
set_option maxHeartbeats 800000 in
set_option maxRecDepth 100000 in
theorem fit_c (w : World) : Calls Try.prog 9 #[] w fun e w' => e = .returned (.bool true) ∧ Below w.heap.size w w' := by
  go_enter Try.func9, Try.ntmps9
  go_wp2_with fail
  refine (put_lit (.slice none 0 0) [] [300] (fun _ => False) w w (Below.refl _ _) (Kd.R_nil _ _ _ _ _) (by simp) (by simp) (by simp)).mono ?_
  rintro e w1 ⟨v1, rfl, hro, hb1, _⟩
  rw [List.nil_append, enc300] at hro
  obtain ⟨A, c, rfl⟩ := Kd.R_slice hro
  obtain ⟨_, hc, hr⟩ := Kd.R_reads' hro
  have HB1 := Aside0.mk hb1
  have ht := take_c A c [172, 2] w1 hr hc (by simp) (by simp)
  rw [dec300] at ht
  have HT := Aside0.mk ht
  clear hro hb1 hc hr ht
  go_wp2_with fail
  refine HT.out.mono ?_
  rintro e w2 ⟨rfl, hb2⟩
  have HB2 := Aside0.mk (below_kept HB1.out hb2)
  clear hb2
  go_wp2_with fail
  refine (zig7 w2).mono ?_
  rintro e w3 ⟨rfl, hb3⟩
  have HB3 := Aside0.mk (below_kept HB2.out hb3)
  clear hb3
  go_wp2_with fail
  refine (zag13 w3).mono ?_
  rintro e w4 ⟨rfl, hb4⟩
  have HB4 := Aside0.mk (below_kept HB3.out hb4)
  clear hb4
  go_wp2
  go_ret
  exact ⟨rfl, HB4.out⟩
end Go.Proofs.Ytmkcblcgjjjkiaa.VFit
