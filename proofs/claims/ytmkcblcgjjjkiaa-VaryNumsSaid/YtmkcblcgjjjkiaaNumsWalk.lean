/- The law VaryNums returns true: a walk through its text; no condition but that the slice can be read. -/
import Derived.Test.YtmkcblcgjjjkiaaBase
import Derived.Test.YtmkcblcgjjjkiaaMine
namespace Go.Proofs.Ytmkcblcgjjjkiaa.NumsWalk
open Go.RowKit Go.Proofs.Ytmkcblcgjjjkiaa.PVaryNums Go.Proofs.Ytmkcblcgjjjkiaa.Plain Go.Proofs.Ytmkcblcgjjjkiaa.Base Go.Proofs.Ytmkcblcgjjjkiaa.Mine Go.Proofs.YtmkcblcgjjjkiaaW.PrintWords Go.Proofs.YtmkcblcgjjjkiaaW.PrintLast Go.Proofs.YtmkcblcgjjjkiaaW.PrintMore
set_option linter.unusedVariables false
set_option linter.unusedSimpArgs false

set_option maxHeartbeats 200000 in
set_option maxRecDepth 100000 in
theorem nums_walk (A : Option Addr) (c : Nat) (l : List Int) (w : World) (hr : Kd.C (Kd.int .u64) w A l.length l) (hc : l.length ≤ c) (hl : ∀ x ∈ l, 0 ≤ x ∧ x < 18446744073709551616) :
    Calls Try.prog 3 #[.slice A l.length c] w fun e w' => e = .returned (.bool true) ∧ Below w.heap.size w w' := by
  have HR := Aside0.mk hr
  have HC := Aside0.mk hc
  have HL := Aside0.mk hl
  clear hr hc hl
  by_cases h60 : 60 < l.length
  · have t1 : 60 < (l.length : Int) := by omega
    clear h60
    go_enter Try.func3, Try.ntmps3
    go_wp2_with (go_at_call 9; refine (fit_c _).mono ?_; rintro e w1 ⟨rfl, hb⟩; have HB := Aside0.mk hb; clear hb)
    go_ret
    exact ⟨rfl, HB.out⟩
  · have t1 : (l.length : Int) ≤ 60 := by omega
    clear h60
    go_enter Try.func3, Try.ntmps3
    go_wp2_with (go_at_call 9; refine (fit_c _).mono ?_; rintro e w1 ⟨rfl, hb⟩; have HB := Aside0.mk hb; clear hb)
    refine (put_c (fun k => w.heap.size ≤ k) _ [9] A c l w _ (HB.out.alloc HB.out.size _) (lit_R w1 _ 5 .u8 _ [9] HB.out.size HB.out.size (by simp)) (fun W hW => Kd.C_kept_came (Kd.heap_int _) HR.out (HB.out.alloc HB.out.size _) (fun _ h => h) W hW) HC.out HL.out (by omega) (by simp)).mono ?_
    rintro e w2 ⟨v0, rfl, ho, hb, hk⟩
    obtain ⟨b, hbe⟩ : ∃ b, b = [9] ++ encs l := ⟨_, rfl⟩
    rw [← hbe] at ho
    obtain ⟨A2, c2, rfl⟩ := Kd.R_slice ho
    have HB2 := Aside0.mk hb
    have HC2 := Aside0.mk (Kd.R_reads' ho).2.1
    have HR2 := Aside0.mk (Kd.R_reads' ho).2.2
    clear ho hb hk
    have hbl := encs_len l HL.out
    have HBE := Aside0.mk hbe
    have hlen : b.length = 1 + (encs l).length := by rw [hbe]; simp; omega
    have hb0 : rd b 0 = 9 := by rw [hbe]; rfl
    have HB0 := Aside0.mk hb0
    have HLEN := Aside0.mk hlen
    have hb1 : b.drop (1 : Int).toNat = encs l := by rw [hbe]; rfl
    have HB1 := Aside0.mk hb1
    have q1 : 1 ≤ b.length := by omega
    have q2 : b.length < 1000 := by omega
    clear hbe hlen hb0 hb1
    have t2 : ((b.length : Int) == 0) = false := beq_eq_false_iff_ne.mpr (by omega)
    obtain ⟨ad, ead, hcell⟩ := Kd.at_int HR2.out 0 (by omega) (by omega)
    subst ead
    rw [HB0.out, show ((0 : Int)).toNat = 0 from rfl, Addr.add_zero'] at hcell
    have qi : (0 < b.length) = True := eq_true (by omega)
    obtain ⟨A3, c3, hcut, hc3, hr3⟩ := cut_from_ex (P := Try.prog) (Kd.int .u8) 24 5 (.int .u8 0) 1 Try.underlying24 info5 (some ad) c2 b 1 (by omega) (by omega) HC2.out
    obtain ⟨d0, hd0⟩ : ∃ d0, d0 = b.drop (1 : Int).toNat := ⟨_, rfl⟩
    rw [← hd0] at hcut hc3 hr3
    have HD0 := Aside0.mk (show d0 = encs (l.drop 0) by rw [hd0, HB1.out, List.drop_zero])
    have HR3 := Aside0.mk (hr3 w2 HR2.out)
    have HC3 := Aside0.mk hc3
    clear hr3 hc3 hd0
    go_wp2
    clear hcell t2 qi hcut
    go_loopg [3, 33] (l.length) (fun g v3 v33 W => ∃ (j : Nat) (d : List Int) (A' : Option Addr) (c' : Nat), v33 = .int .i64 (j : Int) ∧ v3 = .slice A' d.length c' ∧ Aside0 (g + j = l.length) ∧ Aside0 (d = encs (l.drop j)) ∧ Aside0 (d.length ≤ c') ∧ Aside0 (Kd.C (Kd.int .u8) W A' d.length d) ∧ Aside0 (Below w.heap.size w W))
    case atStart => exact ⟨0, d0, A3, c3, rfl, rfl, ⟨by omega⟩, HD0, HC3, HR3, HB2⟩
    case round =>
      clear HD0 HC3 HR3 HB2 HR2 HC2 HBE HB0 HLEN HB1 HB
      obtain ⟨j, d, A4, c4, rfl, rfl, HG, HD, HC4, HR4, HB4⟩ := hrel
      by_cases hj : j < l.length
      · have hjl : (j : Int) < l.length := by omega
        obtain ⟨ad1, ead1, hcell1⟩ := Kd.at_int (Kd.C_below HR.out HB4.out) (j : Int) (by omega) (by omega)
        subst ead1
        obtain ⟨g0, rfl⟩ : ∃ m, gk = m + 1 := ⟨gk - 1, by have := HG.out; omega⟩
        have hmem := HL.out l[j] (List.getElem_mem hj)
        obtain ⟨n, hn⟩ : ∃ n : Nat, l[j] = (n : Int) := ⟨l[j].toNat, by omega⟩
        rw [Int.toNat_natCast, rd_nth l j hj, hn] at hcell1
        rw [hn] at hmem
        have hlen := enc_len10 n (by omega)
        have hde : d = enc n ++ encs (l.drop (j + 1)) := by rw [HD.out, List.drop_eq_getElem_cons hj, encs_cons, hn, Int.toNat_natCast]
        have hdl : d.length = (enc n).length + (encs (l.drop (j + 1))).length := by rw [hde, List.length_append]
        have hrest := encs_len (l.drop (j + 1)) (fun x hx => HL.out x (List.mem_of_mem_drop hx))
        have hbytes : ∀ x ∈ d, 0 ≤ x ∧ x < 256 := by rw [HD.out]; exact encs_bytes _
        rw [List.length_drop] at hrest
        have hdec : decI d 0 0 = ((n : Int), ((enc n).length : Int)) := by rw [hde]; exact decI_enc n (by omega) _
        have hdrop : d.drop ((((enc n).length : Nat) : Int)).toNat = encs (l.drop (j + 1)) := by rw [Int.toNat_natCast, hde, List.drop_left]
        have HBY := Aside0.mk hbytes
        have HDEC := Aside0.mk hdec
        have HDROP := Aside0.mk hdrop
        obtain ⟨L, hL⟩ : ∃ L, L = (enc n).length := ⟨_, rfl⟩
        rw [← hL] at hlen hdl HDEC HDROP
        have HL2 := Aside0.mk hL
        have hdl2 : L ≤ d.length := by omega
        have hd3 : d.length < 10000 := by omega
        clear hde hdl hrest hbytes hdec hdrop hL hn
        go_wp2
        go_loopg [6, 7] (n + 1) (fun g v6 v7 W => ∃ s m : Nat, v6 = .int .i64 (s : Int) ∧ v7 = .int .u64 (m : Int) ∧ Aside0 (s + (enc m).length = 1 + L) ∧ Aside0 (m < g) ∧ Aside0 (m ≤ n) ∧ Aside0 (1 ≤ s) ∧ Aside0 (Kd.C (Kd.int .u8) W A4 d.length d) ∧ Aside0 (Below w.heap.size w W))
        case atStart => exact ⟨1, n, rfl, rfl, ⟨by have := HL2.out; omega⟩, ⟨by omega⟩, ⟨by omega⟩, ⟨by omega⟩, HR4, HB4⟩
        case round =>
          clear HB4 hcell1 HR4
          obtain ⟨s, m, rfl, rfl, HS, HM, HMN, HS1, HR4, HB4⟩ := hrel
          have hm0 := HMN.out
          have hpos := enc_pos m
          have hs1 := HS1.out
          have hs := HS.out
          have hs2 : s ≤ L := by omega
          by_cases hm : m < 128
          · have hsL : s = L := by rw [enc_small hm] at hs; simp at hs; omega
            subst hsL
            clear hs
            have hmi : (m : Int) < 128 := by omega
            have ht := take_c A4 c4 d wr HR4.out HC4.out HBY.out (by omega)
            rw [HDEC.out] at ht
            go_wp2_with fail
            refine ht.mono ?_
            rintro e w5 ⟨rfl, hd⟩
            have hb5 := below_then HB4.out HB4.out.size hd.below
            have HR5 := Aside0.mk (Kd.C_below HR4.out hd.below)
            have HB5 := Aside0.mk hb5
            clear hd hb5 ht HR4 HB4
            obtain ⟨A6, c6, hcut, hc6, hr6⟩ := cut_from_ex (P := Try.prog) (Kd.int .u8) 24 5 (.int .u8 0) 1 Try.underlying24 info5 A4 c4 d (s : Int) (by omega) (by omega) HC4.out
            obtain ⟨d2, hd2⟩ : ∃ d2, d2 = d.drop ((s : Nat) : Int).toNat := ⟨_, rfl⟩
            rw [← hd2] at hcut hc6 hr6
            have HD2 := Aside0.mk (hd2.trans HDROP.out)
            have HR6 := Aside0.mk (hr6 w5 HR5.out)
            have HC6 := Aside0.mk hc6
            clear hr6 hc6 hd2
            have hsd : (s : Int) ≤ d.length := by omega
            go_wp2
            go_roundg g0
            case measure => omega
            case rel => exact ⟨j + 1, d2, A6, c6, by go_num, rfl, ⟨by have := HG.out; omega⟩, HD2, HC6, HR6, HB5⟩
          · have hmi : (128 : Int) ≤ m := by omega
            have he : (enc m).length = 1 + (enc (m / 128)).length := by rw [enc_big hm, List.length_cons]; omega
            clear hs
            go_wp2
            go_roundg m
            case measure => exact HM.out
            case rel => exact ⟨s + 1, m / 128, by go_num, by go_num, ⟨by have := HS.out; omega⟩, ⟨by omega⟩, ⟨by omega⟩, ⟨by omega⟩, HR4, HB4⟩
      · have hjl : (l.length : Int) ≤ j := by omega
        have hd0 : d = [] := by rw [HD.out, List.drop_eq_nil_of_le (by omega)]; rfl
        have ht := take_c A4 c4 d wr HR4.out HC4.out (by rw [hd0]; simp) (by rw [hd0]; simp)
        rw [show decI d 0 0 = (0, 0) from by rw [hd0]; rfl] at ht
        have hl0 : ((d.length : Int) == 0) = true := by rw [hd0]; rfl
        have Ht := Aside0.mk ht
        clear ht hd0
        go_wp2_with fail
        refine Ht.out.mono ?_
        rintro e w5 ⟨rfl, hd⟩
        have HB5 := Aside0.mk (below_then HB4.out HB4.out.size hd.below)
        clear hd Ht HR4 HB4
        go_wp2
        go_ret
        exact ⟨rfl, HB5.out⟩
/-- As the row hands it over. -/
theorem nums_row {W : World} (a : Option Addr) (cap : Nat) (l : List Int) (hr : ReadsInt W .u64 a l.length l) (hc : l.length ≤ cap) (hw : ∀ x ∈ l, (Lit.int .u64 x).wf = true) (_ : l.length * 8 ≤ 140737488351232) :
    Calls Try.prog 3 #[.slice a l.length cap] W fun e w' => e = .returned (.bool true) ∧ Below W.heap.size W w' :=
  nums_walk a cap l W (Kd.C_of_reads (d := (0 : Int)) (h1 := fun _ => rfl) hr) hc (fun x hx => wf_u64 (hw x hx))
end Go.Proofs.Ytmkcblcgjjjkiaa.NumsWalk
