/- What event.Put writes, as a contract; no condition but that its numbers are none below zero. -/
import Derived.Test.YtbofeaclgnekkaaTameC
namespace Go.Proofs.Ytbofeaclgnekkaa.EvPut
open Go.RowKit Go.Proofs.Ytbofeaclgnekkaa.Kit Go.Proofs.Ytbofeaclgnekkaa.Plain Go.Proofs.Ytbofeaclgnekkaa.Mine Go.Proofs.Ytbofeaclgnekkaa.Vary Go.Proofs.Ytbofeaclgnekkaa.Reader Go.Proofs.Ytbofeaclgnekkaa.Event Go.Proofs.YtbofeaclgnekkaaW.PrintWords Go.Proofs.YtbofeaclgnekkaaW.PrintLast Go.Proofs.YtbofeaclgnekkaaW.PrintMore
open Go.Proofs.Ytbofeaclgnekkaa.PEventRights (S25 z25 k25 k25_open k25_mk k25_mkM rd_T25 at_T25 info25)
set_option linter.unusedVariables false
set_option linter.unusedSimpArgs false
/-- An event's bytes behind a time. -/
def evb (fr : Int) (x : S25) : List Int := encs [x.f1, x.f0 - fr] ++ (if x.f1 = 2 then encs [x.f3, x.f4] else enc x.f2.size ++ bytesOf x.f2)
set_option maxHeartbeats 1600000 in
set_option maxRecDepth 100000 in
theorem put_raw (P0 : Nat → Prop) (v : Value) (x0 : List Int) (fr t k : Int) (d : ByteArray) (a b : Int) (w0 w : World) (hB : Below w0.heap.size w0 w) (ho : Kd.R (Kd.int .u8) 5 w w0.heap.size P0 v x0)
    (hk : 0 ≤ k ∧ k < 1000) (ht : 0 ≤ t - fr ∧ t - fr < 9223372036854775808) (ha : 0 ≤ a ∧ a < 100000) (hb : 0 ≤ b ∧ b < 100000) (hd : d.size < 1000000) (hx : x0.length ≤ 1000000000) :
    Calls Try.prog 18 #[v, .int .i64 fr, .agg #[.int .i64 t, .int .i64 k, .string d, .int .i64 a, .int .i64 b]] w fun e w' => ∃ v0 : Value, e = .returned v0 ∧ Kd.R (Kd.int .u8) 5 w' w0.heap.size (fun _ => True) v0 (x0 ++ evb fr ⟨t, k, d, a, b⟩) ∧ Below w0.heap.size w0 w' := by
  have HO := Aside0.mk (show Kd.R (Kd.int .u8) 5 w w0.heap.size (fun k => P0 k ∧ k < w.heap.size) v x0 from Kd.R_mono (Kd.R_bound ho) (fun k hk => ⟨hk.1, hk.2.2.1⟩))
  have HB := Aside0.mk hB
  have HX := Aside0.mk hx
  have HD := Aside0.mk hd
  have hu := Try.underlying25
  obtain ⟨n, hn⟩ : ∃ n : Nat, t - fr = (n : Int) := ⟨(t - fr).toNat, by omega⟩
  have hn2 : n < 9223372036854775808 := by omega
  have HE := Aside0.mk (show evb fr ⟨t, k, d, a, b⟩ = encs [k, (n : Int)] ++ (if k = 2 then encs [a, b] else enc d.size ++ bytesOf d) from by unfold evb; rw [show (⟨t, k, d, a, b⟩ : S25).f0 - fr = (n : Int) from hn])
  have HK := Aside0.mk (show ∀ y ∈ [k, (n : Int)], 0 ≤ y ∧ y < 18446744073709551616 from by intro y hy; simp at hy; omega)
  have HL := Aside0.mk (show (encs [k, (n : Int)]).length ≤ 20 from encs_len [k, (n : Int)] HK.out)
  have HAB := Aside0.mk (show ∀ y ∈ [a, b], 0 ≤ y ∧ y < 18446744073709551616 from by intro y hy; simp at hy; omega)
  have hn0 : (0 : Int) ≤ n := by omega
  have hwp : wrap64 (n : Int) = (n : Int) := by unfold wrap64; omega
  have HWN := Aside0.mk (wraps_u64 (n : Int) (by omega) (by omega))
  have HWK := Aside0.mk (wraps_u64 k (by omega) (by omega))
  have HWA := Aside0.mk (wraps_u64 a (by omega) (by omega))
  have HWB := Aside0.mk (wraps_u64 b (by omega) (by omega))
  obtain ⟨k0, k1⟩ := hk
  obtain ⟨a0, a1⟩ := ha
  obtain ⟨b0, b1⟩ := hb
  clear ho hB hx hd hn2 ht
  go_enter Try.func18, Try.ntmps18
  go_upto_region 1 with (first | ((with_reducible refine gate_dst (N := 5) rfl ?_); (try (refine gate_guard (by rfl) ?_; dsimp only)); refine box_event ?hg (N := 5) ?hd (cs := #[.int .i64 t, .int .i64 k, .string d, .int .i64 a, .int .i64 b]) (t := 25) ?hr ?_; (case hd => rfl); (case hg => rfl); (case hr => first | (go_simp; done) | (go_simp; rfl)); intro g hg w3 hbox hb; have HB3 := Aside0.mk (below_kept (below_then HB.out HB.out.size (Below.refl _ _)) hb); have HO3 := Aside0.mk (Kd.R_below HO.out hb); have BK := Aside0.mk hbox; have HNG := Aside0.mk (show ∀ j, (P0 j ∧ j < w.heap.size) → j ≠ g from fun j hj => by have := hj.2; omega); clear hb hbox hg))
  have c0 : w3.cell? ⟨g, 0, none⟩ = some (.int .i64 t) := (blk_cell BK.out 0).trans rfl
  have c1 : w3.cell? ⟨g, 1, none⟩ = some (.int .i64 k) := (blk_cell BK.out 1).trans rfl
  go_wp2_with fail
  rw [HWN.out]
  refine (put_lit v x0 [k, (n : Int)] (fun k => P0 k ∧ k < w.heap.size) w0 w3 HB3.out HO3.out HK.out (by simp) (by have := HX.out; omega)).mono ?_
  rintro e w4 ⟨v4, rfl, hro, hb4, hk4⟩
  have BK4 := Aside0.mk (blk_kept BK.out hk4 (fun h => HNG.out g h rfl))
  have HO4 := Aside0.mk (Kd.R_mono (ok' := fun _ => True) hro (fun _ _ => trivial))
  have HB4 := Aside0.mk hb4
  obtain ⟨x1, hx1⟩ : ∃ x1, x1 = x0 ++ encs [k, (n : Int)] := ⟨_, rfl⟩
  rw [← hx1] at HO4
  have HE1 := Aside0.mk (show x0 ++ evb fr ⟨t, k, d, a, b⟩ = x1 ++ (if k = 2 then encs [a, b] else enc d.size ++ bytesOf d) from by rw [HE.out, hx1, List.append_assoc])
  have HX1 := Aside0.mk (show x1.length ≤ 1000000100 from by rw [hx1, List.length_append]; have := HX.out; have := HL.out; omega)
  clear hro hb4 hk4 hx1 c0 c1 hn hn0 hwp
  have d1 : w4.cell? ⟨g, 1, none⟩ = some (.int .i64 k) := (blk_cell BK4.out 1).trans rfl
  have d2 : w4.cell? ⟨g, 2, none⟩ = some (.string d) := (blk_cell BK4.out 2).trans rfl
  have d3 : w4.cell? ⟨g, 3, none⟩ = some (.int .i64 a) := (blk_cell BK4.out 3).trans rfl
  have d4 : w4.cell? ⟨g, 4, none⟩ = some (.int .i64 b) := (blk_cell BK4.out 4).trans rfl
  by_cases hk : k = 2
  · subst hk
    go_wp2_with fail
    refine (put_lit v4 x1 [a, b] (fun _ => True) w0 w4 HB4.out HO4.out HAB.out (by simp) (by have := HX1.out; omega)).mono ?_
    rintro e w5 ⟨v5, rfl, hro, hb5, _⟩
    have HO5 := Aside0.mk (Kd.R_mono (ok' := fun _ => True) hro (fun _ _ => trivial))
    have HB5 := Aside0.mk hb5
    clear hro hb5
    go_wp2
    go_ret
    exact ⟨_, rfl, by rw [HE1.out, if_pos trivial]; exact HO5.out, HB5.out⟩
  · have hk2 : ((k : Int) == 2) = false := beq_eq_false_iff_ne.mpr hk
    have HKK := Aside0.mk hk
    clear hk
    go_wp2_with fail
    refine (puttext_c (fun _ => True) v4 x1 d w0 w4 HB4.out HO4.out (by have := HD.out; omega) (by have := HX1.out; omega)).mono ?_
    rintro e w5 ⟨v5, rfl, hro, hb5, _⟩
    have HO5 := Aside0.mk hro
    have HB5 := Aside0.mk hb5
    clear hro hb5
    go_wp2
    go_ret
    exact ⟨_, rfl, by rw [HE1.out, if_neg HKK.out]; exact HO5.out, HB5.out⟩
end Go.Proofs.Ytbofeaclgnekkaa.EvPut
