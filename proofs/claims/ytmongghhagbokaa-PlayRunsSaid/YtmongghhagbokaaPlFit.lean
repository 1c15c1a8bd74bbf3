/- The check at the head of the statements of layer 15, as a contract: it is met; no condition. -/
import Derived.Test.YtmongghhagbokaaPlNew
namespace Go.Proofs.Ytmongghhagbokaa.PlFit
open Go.RowKit Go.Proofs.Ytmongghhagbokaa.Kit Go.Proofs.Ytmongghhagbokaa.Plain Go.Proofs.Ytmongghhagbokaa.Mine Go.Proofs.Ytmongghhagbokaa.Event Go.Proofs.Ytmongghhagbokaa.EventRef Go.Proofs.Ytmongghhagbokaa.EventList Go.Proofs.Ytmongghhagbokaa.EvUntil Go.Proofs.Ytmongghhagbokaa.PlScale Go.Proofs.Ytmongghhagbokaa.PlNow Go.Proofs.Ytmongghhagbokaa.PlDue Go.Proofs.Ytmongghhagbokaa.PlNew Go.Proofs.YtmongghhagbokaaW.PrintWords Go.Proofs.YtmongghhagbokaaW.PrintLast Go.Proofs.YtmongghhagbokaaW.PrintMore
open Go.Proofs.Ytmongghhagbokaa.PPlayRights (S54 z54 k54 k54_open k54_mk k54_mkM rd_T54 at_T54 info54)
set_option linter.unusedVariables false
set_option linter.unusedSimpArgs false
def e5 : S54 := ⟨5, 0, ⟨#[97]⟩, 0, 0⟩
theorem e5_C {W : World} {g : Nat} (h : W.heap[g]? = some (.cells #[.int .i64 5, .int .i64 0, .string ⟨#[97]⟩, .int .i64 0, .int .i64 0] 54 (0, 0))) : Kd.C k54 W (some ⟨g, 0, none⟩) 1 [e5] := by
  refine ⟨rfl, by omega, fun _ => ⟨_, rfl, fun j p hj => ?_⟩⟩
  match j, hj with
  | 0, hj =>
    cases hj
    refine ⟨[.int .i64 5, .int .i64 0, .string ⟨#[97]⟩, .int .i64 0, .int .i64 0], rfl, k54_mk W e5, fun i u hu => ?_⟩
    have e : (⟨g, 0, none⟩ : Addr).add (0 * k54.sz + i) = ⟨g, i, none⟩ := by rw [Nat.zero_mul, Nat.zero_add]; unfold Addr.add; split <;> simp_all
    rw [e, blk_cell h i]
    simpa using hu
theorem n0 : ((countT 0 [e5] : Nat)) = 0 := by decide +kernel
theorem n1 : toN 0 1 2 9 0 [e5] = 0 := by decide +kernel
theorem n2 : toN 0 1 2 10 0 [e5] = 1 := by decide +kernel
theorem n3 : nowN 0 1 2 10 = 5 := by decide +kernel
theorem l5 : listR 0 [e5] = true := by decide +kernel
set_option maxHeartbeats 1600000 in
set_option maxRecDepth 100000 in
theorem fit_c (w : World) : Calls Try.prog 8 #[] w fun e w' => e = .returned (.bool true) ∧ Below w.heap.size w w' := by
  have hu := Try.underlying54
  have HRI := Aside0.mk (listR_rising [e5] 0 l5)
  go_enter Try.func8, Try.ntmps8
  go_wp2_with fail
  obtain ⟨w1, hw1⟩ : ∃ w1, w1 = w.alloc (.cells #[.int .i64 5, .int .i64 0, .string ⟨#[97]⟩, .int .i64 0, .int .i64 0] 54) := ⟨_, rfl⟩
  obtain ⟨b, hb⟩ : ∃ b, b = w.heap.size := ⟨_, rfl⟩
  have HC1 := Aside0.mk (e5_C (show w1.heap[b]? = some (.cells #[.int .i64 5, .int .i64 0, .string ⟨#[97]⟩, .int .i64 0, .int .i64 0] 54 (0, 0)) from by rw [hw1, hb]; exact blk_new w _))
  have HB1 := Aside0.mk (show Below w.heap.size w w1 from by rw [hw1]; exact below_alloc (Below.refl _ _) _)
  rw [← hw1, ← hb]
  clear hw1 hb
  refine (new_ok (some ⟨b, 0, none⟩) 1 [e5] 0 1 2 w1 HC1.out (by decide) (by decide) (by decide) l5).mono ?_
  rintro e w2 ⟨g, A2, c2, rfl, hg, hk, hR, hb2⟩
  rw [show (((0 : Nat) : Int)) = 0 from rfl, n0] at hk
  have HG := Aside0.mk (show w.heap.size ≤ g from Nat.le_trans HB1.out.size hg)
  have HK2 := Aside0.mk hk
  have HR2 := Aside0.mk hR
  have HB2 := Aside0.mk (below_kept HB1.out hb2)
  clear hg hk hR hb2 HC1
  go_wp2_with fail
  refine (tick_c g A2 c2 [e5] 9 0 1 2 0 9 0 w2 _ HK2.out HR2.out HRI.out (by decide) (by decide) (by decide) ⟨by decide, by decide, by decide, by decide, by decide, by decide, by decide⟩ (by decide)).mono ?_
  rintro e w3 ⟨v3, rfl, hv, hk, hR, hb⟩
  rw [n1] at hv hk
  obtain ⟨A3, c3, rfl⟩ := Kd.R_slice hv
  have HK3 := Aside0.mk hk
  have HR3 := Aside0.mk hR
  have HB3 := Aside0.mk (HB2.out.trans (hb _ HG.out))
  rw [show (List.drop 0 (List.take 0 [e5])).length = 0 from rfl]
  clear hv hk hR hb
  go_wp2_with fail
  refine (tick_c g A2 c2 [e5] 1 0 1 2 9 10 0 w3 _ HK3.out HR3.out HRI.out (by decide) (by decide) (by decide) ⟨by decide, by decide, by decide, by decide, by decide, by decide, by decide⟩ (by decide)).mono ?_
  rintro e w4 ⟨v4, rfl, hv, hk, hR, hb⟩
  rw [n2] at hv hk
  obtain ⟨A4, c4, rfl⟩ := Kd.R_slice hv
  have HK4 := Aside0.mk hk
  have HB4 := Aside0.mk (HB3.out.trans (hb _ HG.out))
  rw [show (List.drop 0 (List.take 1 [e5])).length = 1 from rfl]
  clear hv hk hR hb
  go_wp2_with fail
  refine (left_c g A2 1 c2 0 1 2 10 1 false w4 HK4.out (by decide) (by decide)).mono ?_
  rintro e w5 ⟨rfl, hb⟩
  have HK5 := Aside0.mk (show PC w5 g (.slice A2 [e5].length c2) 0 1 2 10 1 false from blk_below HK4.out hb)
  have HB5 := Aside0.mk (below_kept HB4.out hb)
  rw [show ((1 - 1 : Nat) : Int) = 0 from rfl]
  clear hb
  go_wp2_with fail
  refine (now_c g _ 0 1 2 10 1 false w5 HK5.out ⟨by decide, by decide, by decide, by decide, by decide, by decide, by decide⟩).mono ?_
  rintro e w6 ⟨rfl, hb⟩
  have HB6 := Aside0.mk (below_kept HB5.out hb)
  rw [n3, show ((5 : Nat) : Int) = 5 from rfl]
  clear hb
  go_wp2
  go_ret
  exact ⟨rfl, HB6.out⟩
end Go.Proofs.Ytmongghhagbokaa.PlFit
