/- The known sum of the statements of layer 2, as a contract: it is met; no condition. -/
import Derived.Test.YtmomfoedbkapfaaCrcSplit
import Derived.Lib.SlBytesConst
namespace Go.Proofs.Ytmomfoedbkapfaa.CrcFit
open Go.RowKit Go.Proofs.Ytmomfoedbkapfaa.Kit Go.Proofs.Ytmomfoedbkapfaa.Plain Go.Proofs.Ytmomfoedbkapfaa.Crc Go.Proofs.Ytmomfoedbkapfaa.CrcCode Go.Proofs.Ytmomfoedbkapfaa.Mine Go.Proofs.Ytmomfoedbkapfaa.Vary Go.Proofs.YtmomfoedbkapfaaW.PrintWords Go.Proofs.YtmomfoedbkapfaaW.PrintLast Go.Proofs.YtmomfoedbkapfaaW.PrintMore
set_option linter.unusedVariables false
set_option linter.unusedSimpArgs false

theorem known : sum [49, 50, 51, 52, 53, 54, 55, 56, 57] = 3421780262 := by decide +kernel
theorem dec5 : decI [5] 0 0 = (5, 1) := by decide +kernel
set_option maxHeartbeats 800000 in
set_option maxRecDepth 100000 in
theorem fit_c (w : World) : Calls Try.prog 8 #[] w fun e w' => e = .returned (.bool true) ∧ Below w.heap.size w w' := by
  go_enter Try.func8, Try.ntmps8
  go_wp2_with fail
  have hr1 := (Kd.R_reads' (lit_R w w.heap.size 5 .u8 (fun _ => True) [5] (Nat.le_refl _) trivial (by simp))).2.2
  have ht := take_c (some ⟨w.heap.size, 0, none⟩) 1 [5] _ hr1 (by simp) (by simp) (by simp)
  rw [dec5] at ht
  refine ht.mono ?_
  rintro e w1 ⟨rfl, hb1⟩
  have HB1 := Aside0.mk (below_then (below_alloc (Below.refl w.heap.size w) _) (by simp) hb1)
  clear hb1 ht hr1
  have kc := Lib.run_convert_bytes_const (P := Try.prog) w1 22 5 (nums .u8 [49, 50, 51, 52, 53, 54, 55, 56, 57]).toArray 9 9 Try.underlying22 Try.underlying5
  simp only [nums, List.map_cons, List.map_nil] at kc
  go_wp2_with fail
  have hr2 := lit_C w1 5 .u8 (9, 10) [49, 50, 51, 52, 53, 54, 55, 56, 57] (by simp)
  have hs := sum_c (some ⟨w1.heap.size, 0, none⟩) 9 [49, 50, 51, 52, 53, 54, 55, 56, 57] _ hr2 (by simp) (by simp)
  rw [known] at hs
  refine hs.mono ?_
  rintro e w2 ⟨rfl, hb2⟩
  have HB2 := Aside0.mk (below_then (below_alloc HB1.out _) (by have := HB1.out.size; simp; omega) hb2)
  clear hb2 hs hr2
  go_wp2_with fail
  refine (frame_nil_c none 0 [] w2 (Kd.C_nil _ _) (by simp) (by simp) (by simp)).mono ?_
  rintro e w3 ⟨A3, c3, rfl, _, _, _, hb3⟩
  have HB3 := Aside0.mk (below_kept HB2.out hb3)
  have hl : (frame []).length = 5 := by rw [frame_len]; simp [enc_small]
  rw [hl]
  clear hb3 hl
  go_wp2
  go_ret
  exact ⟨rfl, HB3.out⟩
end Go.Proofs.Ytmomfoedbkapfaa.CrcFit
