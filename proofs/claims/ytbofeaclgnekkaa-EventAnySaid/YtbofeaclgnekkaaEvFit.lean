/- The check at the head of the statements of layer 12, as a contract: it is met; no condition. -/
import Derived.Test.YtbofeaclgnekkaaEvPut
namespace Go.Proofs.Ytbofeaclgnekkaa.EvFit
open Go.RowKit Go.Proofs.Ytbofeaclgnekkaa.Kit Go.Proofs.Ytbofeaclgnekkaa.Plain Go.Proofs.Ytbofeaclgnekkaa.Mine Go.Proofs.Ytbofeaclgnekkaa.Vary Go.Proofs.Ytbofeaclgnekkaa.Reader Go.Proofs.Ytbofeaclgnekkaa.Event Go.Proofs.Ytbofeaclgnekkaa.EvPut Go.Proofs.YtbofeaclgnekkaaW.PrintWords Go.Proofs.YtbofeaclgnekkaaW.PrintLast Go.Proofs.YtbofeaclgnekkaaW.PrintMore
open Go.Proofs.Ytbofeaclgnekkaa.PEventRights (S25 z25 k25 k25_open k25_mk k25_mkM rd_T25 at_T25 info25)
set_option linter.unusedVariables false
set_option linter.unusedSimpArgs false
theorem evb3 : evb 3 ⟨5, 0, ⟨#[120]⟩, 0, 0⟩ = [0, 2, 1, 120] := by decide +kernel
theorem str3 : strOfNums [0, 2, 1, 120] = ⟨#[0, 2, 1, 120]⟩ := by decide +kernel
theorem r0 (w : World) : Calls Try.prog 9 #[.agg #[.int .i64 0, .int .i64 0, .string ⟨#[]⟩, .int .i64 0, .int .i64 0]] w fun e w' => e = .returned (.bool true) ∧ Below w.heap.size w w' := right_raw 0 0 ⟨#[]⟩ 0 0 w
theorem r9 (w : World) : Calls Try.prog 9 #[.agg #[.int .i64 0, .int .i64 9, .string ⟨#[]⟩, .int .i64 0, .int .i64 0]] w fun e w' => e = .returned (.bool false) ∧ Below w.heap.size w w' := right_raw 0 9 ⟨#[]⟩ 0 0 w
set_option maxHeartbeats 800000 in
set_option maxRecDepth 100000 in
theorem fit_c (w : World) : Calls Try.prog 8 #[] w fun e w' => e = .returned (.bool true) ∧ Below w.heap.size w w' := by
  have hu := Try.underlying25
  go_enter Try.func8, Try.ntmps8
  go_wp2_with fail
  refine (put_raw (fun _ => False) (.slice none 0 0) [] 3 5 0 ⟨#[120]⟩ 0 0 w w (Below.refl _ _) (Kd.R_nil _ _ _ _ _) (by omega) (by omega) (by omega) (by omega) (by decide) (by simp)).mono ?_
  rintro e w1 ⟨v1, rfl, hro, hb1⟩
  rw [List.nil_append, evb3] at hro
  obtain ⟨A, c, rfl⟩ := Kd.R_slice hro
  obtain ⟨_, hc, hr⟩ := Kd.R_reads' hro
  have HB1 := Aside0.mk hb1
  have hcv0 := Kd.C_string (P := Try.prog) (src := 34) (dst := 9) (e := 5) (c := c) Try.underlying34 Try.underlying5 Try.underlying9 hr
  rw [str3] at hcv0
  have hcv : (convert 34 9 (.slice A 4 c)).run Try.prog w1 = .ok (.string ⟨#[0, 2, 1, 120]⟩) w1 := hcv0
  clear hcv0
  clear hro hb1 hc hr
  go_wp2_with fail
  refine (r0 w1).mono ?_
  rintro e w2 ⟨rfl, hb2⟩
  have HB2 := Aside0.mk (below_kept HB1.out hb2)
  clear hb2 hcv
  go_wp2_with fail
  refine (r9 w2).mono ?_
  rintro e w3 ⟨rfl, hb3⟩
  have HB3 := Aside0.mk (below_kept HB2.out hb3)
  clear hb3
  go_wp2
  go_ret
  exact ⟨rfl, HB3.out⟩
end Go.Proofs.Ytbofeaclgnekkaa.EvFit
