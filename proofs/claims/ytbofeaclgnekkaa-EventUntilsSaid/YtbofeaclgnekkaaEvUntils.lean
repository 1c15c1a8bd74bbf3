/- The law EventUntils returns true: a walk through its text; no condition but that the list can be read. -/
import Derived.Test.YtbofeaclgnekkaaEvFit
import Derived.Test.YtbofeaclgnekkaaEvOpen
import Derived.Test.YtbofeaclgnekkaaEvUntil
namespace Go.Proofs.Ytbofeaclgnekkaa.EvUntils
open Go.RowKit Go.Proofs.Ytbofeaclgnekkaa.Kit Go.Proofs.Ytbofeaclgnekkaa.Plain Go.Proofs.Ytbofeaclgnekkaa.Mine Go.Proofs.Ytbofeaclgnekkaa.Vary Go.Proofs.Ytbofeaclgnekkaa.Reader Go.Proofs.Ytbofeaclgnekkaa.Event Go.Proofs.Ytbofeaclgnekkaa.EventRef Go.Proofs.Ytbofeaclgnekkaa.EventList Go.Proofs.Ytbofeaclgnekkaa.EventListR Go.Proofs.Ytbofeaclgnekkaa.Tame Go.Proofs.Ytbofeaclgnekkaa.EvFit Go.Proofs.Ytbofeaclgnekkaa.EvUntil Go.Proofs.YtbofeaclgnekkaaW.PrintWords Go.Proofs.YtbofeaclgnekkaaW.PrintLast Go.Proofs.YtbofeaclgnekkaaW.PrintMore
open Go.Proofs.Ytbofeaclgnekkaa.PEventRights (S25 z25 k25 k25_open k25_mk k25_mkM rd_T25 at_T25 info25)
set_option linter.unusedVariables false
set_option linter.unusedSimpArgs false
set_option maxHeartbeats 800000 in
set_option maxRecDepth 100000 in
theorem untils_big (A : Option Addr) (c : Nat) (l : List S25) (t : Int) (w : World) (h : 100 < l.length) :
    Calls Try.prog 5 #[.slice A l.length c, .int .i64 t] w fun e w' => e = .returned (.bool true) ∧ Below w.heap.size w w' := by
  have h2 : 100 < (l.length : Int) := by omega
  clear h
  go_enter Try.func5, Try.ntmps5
  go_wp2_with (go_at_call 8; refine (fit_c _).mono ?_; rintro e w1 ⟨rfl, hb⟩; have HB := Aside0.mk hb; clear hb)
  go_ret
  exact ⟨rfl, HB.out⟩
set_option maxHeartbeats 1600000 in
set_option maxRecDepth 100000 in
theorem untils_small (A : Option Addr) (c : Nat) (l : List S25) (t : Int) (w : World) (hr : Kd.C k25 w A l.length l) (hl : l.length ≤ 100) :
    Calls Try.prog 5 #[.slice A l.length c, .int .i64 t] w fun e w' => e = .returned (.bool true) ∧ Below w.heap.size w w' := by
  have hu := Try.underlying25
  have h2 : (l.length : Int) ≤ 100 := by omega
  have HR := Aside0.mk hr
  have HLL := Aside0.mk hl
  have htr := tame_right l 0 (by omega) (by omega)
  have hris := listR_rising _ _ htr
  have htl := tame_len l 0
  have hcs := count_split t _ hris
  have HTM := Aside0.mk (fun W (h : Below w.heap.size w W) => tame_c A c l W (Kd.C_below hr h) (by omega))
  obtain ⟨lt, hlt⟩ : ∃ lt, lt = tame 0 l := ⟨_, rfl⟩
  rw [← hlt] at HTM hris htl hcs
  have hU := fun A c W h => until_c A c lt t W h (by omega) hris
  have hV := fun A c W h => runtil_c A c lt t W h (by omega)
  obtain ⟨k, hk⟩ : ∃ k, k = countT t lt := ⟨_, rfl⟩
  rw [← hk] at hU hV hcs
  have HU := Aside0.mk hU
  have HV := Aside0.mk hV
  have HCS := Aside0.mk hcs
  have hkl : (k : Int) ≤ lt.length := by have := hcs.1; omega
  have hll : (lt.length : Int) ≤ 100 := by omega
  clear hr hl htr hris htl hcs hlt hU hV hk
  go_enter Try.func5, Try.ntmps5
  go_wp2_with (go_at_call 8; refine (fit_c _).mono ?_; rintro e w1 ⟨rfl, hb⟩; have HB0 := Aside0.mk hb; clear hb)
  refine (HTM.out _ HB0.out).mono ?_
  rintro e w5 ⟨v5, rfl, ho, hb⟩
  have HB5 := Aside0.mk (below_kept HB0.out hb)
  obtain ⟨A5, c5, rfl⟩ := Kd.R_slice ho
  have HC5 := Aside0.mk (Kd.R_reads' ho).2.2
  clear hb ho HTM HR
  go_wp2_with fail
  refine (HU.out A5 c5 _ HC5.out).mono ?_
  rintro e w6 ⟨rfl, hb⟩
  have HB6 := Aside0.mk (below_kept HB5.out hb)
  have HC6 := Aside0.mk (Kd.C_below HC5.out hb)
  clear hb HC5
  have hcase : (k = 0 ∧ k = lt.length) ∨ (k = 0 ∧ k < lt.length) ∨ (0 < k ∧ k = lt.length) ∨ (0 < k ∧ k < lt.length) := by omega
  have low : ∀ W, Kd.C k25 W A5 lt.length lt → 0 < k → ∃ (ad : Addr) (p : Nat) (y : Int), A5 = some ad ∧ (k : Int) - 1 = (p : Int) ∧ (p : Int) < lt.length ∧ W.cell? (ad.add (p * 5)) = some (.int .i64 y) ∧ y ≤ t := fun W h h0 => by
    obtain ⟨ad, e, h3, _⟩ := at_ev h (k - 1) (by omega)
    exact ⟨ad, k - 1, _, e, by omega, by omega, h3, HCS.out.2.1 (k - 1) (by omega) (by omega)⟩
  have high : ∀ W, Kd.C k25 W A5 lt.length lt → k < lt.length → ∃ (ad : Addr) (y : Int), A5 = some ad ∧ W.cell? (ad.add (k * 5)) = some (.int .i64 y) ∧ t < y := fun W h h0 => by
    obtain ⟨ad, e, h3, _⟩ := at_ev h k (by omega)
    exact ⟨ad, _, e, h3, HCS.out.2.2 k (by omega) (by omega)⟩
  have LOW := Aside0.mk low
  have HIGH := Aside0.mk high
  clear low high HCS
  rcases hcase with ⟨h0, hn⟩ | ⟨h0, hn⟩ | ⟨h0, hn⟩ | ⟨h0, hn⟩
  · have e0 : ((k : Int) == 0) = true := beq_iff_eq.mpr (by omega)
    have e1 : ((k : Int) == (lt.length : Int)) = true := beq_iff_eq.mpr (by omega)
    clear h0 hn LOW HIGH
    go_wp2_with fail
    refine (HV.out A5 c5 _ HC6.out).mono ?_
    rintro e w7 ⟨rfl, hb⟩
    have HB7 := Aside0.mk (below_kept HB6.out hb)
    clear hb
    go_wp2
    go_ret
    exact ⟨by first | rfl | (simp; done), HB7.out⟩
  · have e0 : ((k : Int) == 0) = true := beq_iff_eq.mpr (by omega)
    have e1 : ((k : Int) == (lt.length : Int)) = false := beq_eq_false_iff_ne.mpr (by omega)
    have hkn : (k : Int) < lt.length := by omega
    have HN := Aside0.mk hn
    clear h0 LOW hn
    go_wp2_with fail
    refine (HV.out A5 c5 _ HC6.out).mono ?_
    rintro e w7 ⟨rfl, hb⟩
    have HB7 := Aside0.mk (below_kept HB6.out hb)
    obtain ⟨ad, z, rfl, hz, htz⟩ := HIGH.out _ (Kd.C_below HC6.out hb) HN.out
    have e2 : decide (t < z) = true := decide_eq_true htz
    clear hb htz HIGH
    go_wp2
    go_ret
    exact ⟨by first | rfl | (simp; done), HB7.out⟩
  · have e0 : ((k : Int) == 0) = false := beq_eq_false_iff_ne.mpr (by omega)
    have e1 : ((k : Int) == (lt.length : Int)) = true := beq_iff_eq.mpr (by omega)
    have H0 := Aside0.mk h0
    clear h0 hn HIGH
    go_wp2_with fail
    refine (HV.out A5 c5 _ HC6.out).mono ?_
    rintro e w7 ⟨rfl, hb⟩
    have HB7 := Aside0.mk (below_kept HB6.out hb)
    obtain ⟨ad, p, y, rfl, hpi, hpl, hy, hyt⟩ := LOW.out _ (Kd.C_below HC6.out hb) H0.out
    have e2 : decide (y ≤ t) = true := decide_eq_true hyt
    have hwp : wrap64 (p : Int) = (p : Int) := by unfold wrap64; omega
    clear hb hyt LOW
    go_wp2
    go_ret
    exact ⟨by first | rfl | (simp; done), HB7.out⟩
  · have e0 : ((k : Int) == 0) = false := beq_eq_false_iff_ne.mpr (by omega)
    have e1 : ((k : Int) == (lt.length : Int)) = false := beq_eq_false_iff_ne.mpr (by omega)
    have hkn : (k : Int) < lt.length := by omega
    have H0 := Aside0.mk h0
    have HN := Aside0.mk hn
    clear h0 hn
    go_wp2_with fail
    refine (HV.out A5 c5 _ HC6.out).mono ?_
    rintro e w7 ⟨rfl, hb⟩
    have HB7 := Aside0.mk (below_kept HB6.out hb)
    obtain ⟨ad, p, y, rfl, hpi, hpl, hy, hyt⟩ := LOW.out _ (Kd.C_below HC6.out hb) H0.out
    obtain ⟨ad2, z, ead2, hz, htz⟩ := HIGH.out _ (Kd.C_below HC6.out hb) HN.out
    cases ead2
    have e2 : decide (y ≤ t) = true := decide_eq_true hyt
    have e3 : decide (t < z) = true := decide_eq_true htz
    have hwp : wrap64 (p : Int) = (p : Int) := by unfold wrap64; omega
    clear hb hyt LOW htz HIGH
    go_wp2
    go_ret
    exact ⟨by first | rfl | (simp; done), HB7.out⟩
/-- As the row hands it over. -/
theorem untils_row {W : World} (a : Option Addr) (cap : Nat) (l : List S25) (hr : Kd.C k25 W a l.length l) (hc : l.length ≤ cap) (hw : ∀ x ∈ l, EvOpen.evwf x) (t : Int) (_ : (Lit.int .i64 t).wf = true) :
    Calls Try.prog 5 #[.slice a l.length cap, .int .i64 t] W fun e w' => e = .returned (.bool true) ∧ Below W.heap.size W w' := by
  by_cases h : 100 < l.length
  · exact untils_big a cap l t W h
  · exact untils_small a cap l t W hr (by omega)
end Go.Proofs.Ytbofeaclgnekkaa.EvUntils
