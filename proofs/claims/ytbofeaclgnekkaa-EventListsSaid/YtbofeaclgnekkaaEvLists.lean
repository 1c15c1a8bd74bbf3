/- The law EventLists returns true: a walk through its text; no condition but that the slices can be read. -/
import Derived.Test.YtbofeaclgnekkaaEvFit
import Derived.Test.YtbofeaclgnekkaaEvOpen
import Derived.Test.YtbofeaclgnekkaaEvPut2
import Derived.Test.YtbofeaclgnekkaaEvPure
namespace Go.Proofs.Ytbofeaclgnekkaa.EvLists
open Go.RowKit Go.Proofs.Ytbofeaclgnekkaa.Kit Go.Proofs.Ytbofeaclgnekkaa.Plain Go.Proofs.Ytbofeaclgnekkaa.Mine Go.Proofs.Ytbofeaclgnekkaa.Vary Go.Proofs.Ytbofeaclgnekkaa.Reader3 Go.Proofs.Ytbofeaclgnekkaa.Event Go.Proofs.Ytbofeaclgnekkaa.EventRef Go.Proofs.Ytbofeaclgnekkaa.EventList Go.Proofs.Ytbofeaclgnekkaa.EventListR Go.Proofs.Ytbofeaclgnekkaa.Tame Go.Proofs.Ytbofeaclgnekkaa.EvFit Go.Proofs.Ytbofeaclgnekkaa.EvPut2 Go.Proofs.Ytbofeaclgnekkaa.EvTake Go.Proofs.Ytbofeaclgnekkaa.EvPure Go.Proofs.YtbofeaclgnekkaaW.PrintWords Go.Proofs.YtbofeaclgnekkaaW.PrintLast Go.Proofs.YtbofeaclgnekkaaW.PrintMore
open Go.Proofs.Ytbofeaclgnekkaa.EvPut (evb)
open Go.Proofs.Ytbofeaclgnekkaa.PEventRights (S25 z25 k25 k25_open k25_mk k25_mkM rd_T25 at_T25 info25)
set_option linter.unusedVariables false
set_option linter.unusedSimpArgs false
/-- All events' bytes, each behind the time of that ahead. -/
def evbs : Int → List S25 → List Int
  | _, [] => []
  | fr, x :: l => evb fr x ++ evbs x.f0 l
theorem evbs_cons (fr : Int) (x : S25) (l : List S25) : evbs fr (x :: l) = evb fr x ++ evbs x.f0 l := rfl
theorem evb_len (fr : Int) (x : S25) (hx : right x = true) (h0 : 0 ≤ fr) (h1 : fr ≤ x.f0) : (evb fr x).length ≤ 450 := by
  obtain ⟨t, k, d, a, b⟩ := x
  obtain ⟨p0, p1, p2, p3⟩ := right_parts hx
  dsimp only at p0 p1 p2 p3 h1
  unfold evb
  dsimp only
  have e1 := encs_len [k, t - fr] (by intro y hy; simp at hy; omega)
  rw [List.length_append]
  by_cases hk : k = 2
  · rw [if_pos hk]
    have e2 := encs_len [a, b] (by intro y hy; simp at hy; omega)
    simp only [List.length_cons, List.length_nil] at e1 e2
    omega
  · rw [if_neg hk, List.length_append, bytesOf_length]
    have e2 := enc_len10 d.size (by omega)
    simp only [List.length_cons, List.length_nil] at e1
    omega
theorem evb_bytes (fr : Int) (x : S25) : ∀ y ∈ evb fr x, 0 ≤ y ∧ y < 256 := by
  intro y hy
  unfold evb at hy
  rcases List.mem_append.1 hy with hy | hy
  · exact encs_bytes _ y hy
  · by_cases hk : x.f1 = 2
    · rw [if_pos hk] at hy; exact encs_bytes _ y hy
    · rw [if_neg hk] at hy
      rcases List.mem_append.1 hy with hy | hy
      · exact enc_bytes _ y hy
      · exact bytesOf_byte _ y hy
theorem evbs_bytes (l : List S25) : ∀ fr, ∀ y ∈ evbs fr l, 0 ≤ y ∧ y < 256 := by
  induction l with
  | nil => intro fr y hy; simp [evbs] at hy
  | cons x l ih =>
    intro fr y hy
    rw [evbs_cons] at hy
    exact (List.mem_append.1 hy).elim (evb_bytes fr x y) (ih _ y)
set_option maxHeartbeats 800000 in
set_option maxRecDepth 100000 in
theorem lists_big (A A2 : Option Addr) (c c2 : Nat) (l : List S25) (m : List Int) (w : World) (h : 60 < l.length ∨ 100 < m.length) :
    Calls Try.prog 6 #[.slice A l.length c, .slice A2 m.length c2] w fun e w' => e = .returned (.bool true) ∧ Below w.heap.size w w' := by
  have h2 : (60 < (l.length : Int)) ∨ ((l.length : Int) ≤ 60 ∧ 100 < (m.length : Int)) := by omega
  clear h
  rcases h2 with h | ⟨h, h2⟩
  all_goals
    go_enter Try.func6, Try.ntmps6
    go_wp2_with (go_at_call 8; refine (fit_c _).mono ?_; rintro e w1 ⟨rfl, hb⟩; have HB := Aside0.mk hb; clear hb)
    go_ret
    exact ⟨rfl, HB.out⟩
set_option maxHeartbeats 3200000 in
set_option maxRecDepth 100000 in
theorem lists_small (A A2 : Option Addr) (c c2 : Nat) (l : List S25) (m : List Int) (w : World) (hr : Kd.C k25 w A l.length l) (hr2 : Kd.C (Kd.int .u8) w A2 m.length m) (hm : ∀ y ∈ m, 0 ≤ y ∧ y < 256) (hl : l.length ≤ 60) (hml : m.length ≤ 100) :
    Calls Try.prog 6 #[.slice A l.length c, .slice A2 m.length c2] w fun e w' => e = .returned (.bool true) ∧ Below w.heap.size w w' := by
  have hu := Try.underlying25
  have h2 : (l.length : Int) ≤ 60 := by omega
  have h3 : (m.length : Int) ≤ 100 := by omega
  have htr := tame_right l 0 (by omega) (by omega)
  have htl := tame_len l 0
  have HTM := Aside0.mk (fun W (h : Below w.heap.size w W) => tame_c A c l W (Kd.C_below hr h) (by omega))
  obtain ⟨lt, hlt⟩ : ∃ lt, lt = tame 0 l := ⟨_, rfl⟩
  rw [← hlt] at HTM htr htl
  obtain ⟨n, hn⟩ : ∃ n, n = lt.length := ⟨_, rfl⟩
  have hni : (n : Int) ≤ 60 := by omega
  have HLT := Aside0.mk hn.symm
  have HTR := Aside0.mk htr
  have HM := Aside0.mk hm
  have HR2 := Aside0.mk hr2
  clear hr hl htr htl hlt hn hm hr2 hml
  go_enter Try.func6, Try.ntmps6
  go_wp2_with (go_at_call 8; refine (fit_c _).mono ?_; rintro e w1 ⟨rfl, hb⟩; have HB0 := Aside0.mk hb; clear hb)
  refine (HTM.out _ HB0.out).mono ?_
  rintro e w5 ⟨v5, rfl, ho, hb⟩
  have HB5 := Aside0.mk (below_kept HB0.out hb)
  obtain ⟨A5, c5, rfl⟩ := Kd.R_slice ho
  have HC5 := Aside0.mk (Kd.R_reads' ho).2.2
  rw [HLT.out]
  clear hb ho HTM HB0
  go_wp2_with fail
  go_loopg [5, 6, 28] n (fun g v5 v6 v28 W => ∃ (i : Nat) (last : Int) (xs : List Int), v28 = .int .i64 (i : Int) ∧ v6 = .int .i64 last ∧ Aside0 (g + i = n) ∧ Aside0 (xs ++ evbs last (lt.drop i) = evbs 0 lt) ∧ Aside0 (listR last (lt.drop i) = true ∧ 0 ≤ last) ∧ Aside0 (xs.length ≤ 450 * i) ∧
    Aside0 (Kd.R (Kd.int .u8) 5 W w5.heap.size (fun _ => True) v5 xs) ∧ Aside0 (Below w5.heap.size w5 W))
  case atStart => exact ⟨0, 0, [], rfl, rfl, ⟨by omega⟩, ⟨rfl⟩, ⟨⟨HTR.out, by omega⟩⟩, ⟨by simp⟩, ⟨Kd.R_nil _ _ _ _ _⟩, ⟨Below.refl _ _⟩⟩
  case round =>
    obtain ⟨i, last, xs, rfl, rfl, HG, HX, HL, HXL, HO, HB⟩ := hrel
    have hgi := HG.out
    by_cases hi : i < n
    · obtain ⟨g0, rfl⟩ : ∃ g0, gk = g0 + 1 := ⟨gk - 1, by omega⟩
      have hi1 : i < lt.length := by rw [HLT.out]; exact hi
      obtain ⟨ad, ead, hc0, hc1, hc2, hc3, hc4⟩ := at_ev (Kd.C_below HC5.out HB.out) i hi1
      have hd : lt.drop i = lt[i] :: lt.drop (i + 1) := List.drop_eq_getElem_cons hi1
      obtain ⟨x, hx⟩ : ∃ x, x = lt[i] := ⟨_, rfl⟩
      have hxx := HX.out
      have hll := HL.out
      rw [hd, ← hx] at hxx hll
      rw [listR_cons, Bool.and_eq_true, Bool.and_eq_true] at hll
      rw [evbs_cons, ← List.append_assoc] at hxx
      rw [← hx] at hc0 hc1 hc2 hc3 hc4
      have hrx := hll.1.1.1
      have hlx := of_decide_eq_true hll.1.1.2
      have hpt := right_parts hrx
      have hel := evb_len last x hrx hll.2 hlx
      have HNL := Aside0.mk (show listR x.f0 (lt.drop (i + 1)) = true ∧ 0 ≤ x.f0 from ⟨hll.1.2, hpt.1⟩)
      have HNX := Aside0.mk hxx
      have hxl := HXL.out
      have HNXL := Aside0.mk (show (xs ++ evb last x).length ≤ 450 * (i + 1) by rw [List.length_append]; omega)
      have HPUT := Aside0.mk (fun (P0 : Nat → Prop) (v : Value) (W : World) hB ho => put_raw2 P0 v xs last x.f0 x.f1 x.f2 x.f3 x.f4 w5 W hB ho (by omega) (by have := hll.2; omega) (by omega) (by omega) (by omega) (by omega))
      have hil : (i : Int) < n := by omega
      have HI := Aside0.mk hi
      obtain ⟨xt, xk, xd, xw, xh⟩ := x
      dsimp only at hc0 hc1 hc2 hc3 hc4 HPUT HNL HNX
      obtain ⟨ys, hys⟩ : ∃ ys, ys = xs ++ evb last ⟨xt, xk, xd, xw, xh⟩ := ⟨_, rfl⟩
      rw [← hys] at HPUT HNX HNXL
      subst ead
      clear hx hgi hi hi1 hd hxx hll hrx hlx hpt hel hxl HL HX HXL hys
      go_upto_region 10 with fail
      go_cut [8] (fun v8 W => ∃ g : Nat, v8 = .pointer (some ⟨g, 0, none⟩) ∧ Aside0 (W.heap[g]? = some (.cells #[.int .i64 xt, .int .i64 xk, .string xd, .int .i64 xw, .int .i64 xh] 25 (0, 0))) ∧ Aside0 (Kd.R (Kd.int .u8) 5 W w5.heap.size (fun k => k ≠ g) u5 xs) ∧ Aside0 (Below w5.heap.size w5 W))
      case first =>
        go_wp2_with fail
        go_meet
        case rel => exact ⟨wr.heap.size, rfl, ⟨blk_new wr _⟩, ⟨Kd.R_mono (ok' := fun k => k ≠ wr.heap.size) (Kd.R_alloc (Kd.R_bound HO.out) _) (fun k hk => (by have h7 := hk.2.2.1; omega))⟩, ⟨below_alloc HB.out _⟩⟩
      case rest =>
        obtain ⟨g, rfl, BK, HO3, HB3⟩ := hcut
        clear hc0 hc1 hc2 hc3 hc4 HB HO
        have d0 : wc.cell? ⟨g, 0, none⟩ = some (.int .i64 xt) := (blk_cell BK.out 0).trans rfl
        have d1 : wc.cell? ⟨g, 1, none⟩ = some (.int .i64 xk) := (blk_cell BK.out 1).trans rfl
        have d2 : wc.cell? ⟨g, 2, none⟩ = some (.string xd) := (blk_cell BK.out 2).trans rfl
        have d3 : wc.cell? ⟨g, 3, none⟩ = some (.int .i64 xw) := (blk_cell BK.out 3).trans rfl
        have d4 : wc.cell? ⟨g, 4, none⟩ = some (.int .i64 xh) := (blk_cell BK.out 4).trans rfl
        go_wp2_with fail
        refine (HPUT.out _ u5 wc HB3.out HO3.out).mono ?_
        rintro e w8 ⟨v8, rfl, ho, hb, hk⟩
        have HO8 := Aside0.mk ho
        have HB8 := Aside0.mk hb
        have e0 : w8.cell? ⟨g, 0, none⟩ = some (.int .i64 xt) := (blk_cell (blk_kept BK.out hk (fun h => h rfl)) 0).trans rfl
        clear d0 d1 d2 d3 d4 ho hb hk HPUT BK HO3 HB3
        go_wp2_with fail
        go_roundg g0
        case measure => omega
        case rel => exact ⟨i + 1, xt, ys, by first | go_num | (congr 1; unfold wrap64; omega), rfl, ⟨by have := HG.out; omega⟩, HNX, HNL, HNXL, HO8, HB8⟩
    · have hil : (n : Int) ≤ i := by omega
      have hxx := HX.out
      have hxl := HXL.out
      rw [List.drop_eq_nil_of_le (by rw [HLT.out]; omega)] at hxx
      rw [show evbs last [] = [] from rfl, List.append_nil] at hxx
      obtain ⟨F, hF⟩ : ∃ F, F = evbs 0 lt := ⟨_, rfl⟩
      have hxF : xs = F := hxx.trans hF.symm
      subst hxF
      have HFB := Aside0.mk (show ∀ y ∈ xs, 0 ≤ y ∧ y < 256 from by rw [hF]; exact evbs_bytes lt 0)
      have HF := Aside0.mk hF
      have HFL := Aside0.mk (show xs.length ≤ 27000 by have := HG.out; omega)
      have HM2 := Aside0.mk (Kd.C_below HR2.out (below_kept HB5.out HB.out))
      clear hxx hxl hF hgi HX HXL HL HR2
      obtain ⟨gm, hgm⟩ : ∃ gm, gm = xs ++ m := ⟨_, rfl⟩
      have HGM := Aside0.mk hgm
      have HGB := Aside0.mk (show ∀ y ∈ gm, 0 ≤ y ∧ y < 256 from fun y hy => by rw [hgm] at hy; exact (List.mem_append.1 hy).elim (HFB.out y) (HM.out y))
      have HGL := Aside0.mk (show gm.length ≤ 27100 by rw [hgm, List.length_append]; have := HFL.out; omega)
      clear hgm
      go_wp2_with (first
        | ((with_reducible refine gate_builtin (b := .append) (xs := #[.tmp 39, .tmp 40]) rfl ?_); at_builtin; go_must ((refine Kd.R_append_row (h1 := fun _ => rfl) (Value.int .u8) (0 : Int) (w0 := w5) w5.heap.size rfl (.tmp 39) (.tmp 40) 34 5 (.int .u8 0) 1 rfl Try.underlying34 info_u8 rfl (by decide) u5 xs m A2 m.length c2 (fun _ => True) rfl rfl ?aF HO.out HM2.out HB.out HB.out.size ?aL ?_; (case aF => exact fun _ _ => trivial); (case aL => have := HFL.out; omega); intro v2 w8 ho hb hg hat; rw [← HGM.out] at ho; obtain ⟨A8, c8, rfl⟩ := Kd.R_slice ho; have HC8 := Aside0.mk (Kd.R_reads' ho).2.1; have HR8 := Aside0.mk (Kd.R_reads' ho).2.2; have HW8 := Aside0.mk hb; clear ho hb hg hat)))
        | fail)
      refine (of_c A8 c8 gm w8 HR8.out HC8.out).mono ?_
      rintro e w9 ⟨g, rfl, hrs, hb⟩
      have HS9 := Aside0.mk hrs
      have HC9 := Aside0.mk (Kd.C_below HC5.out HW8.out)
      have HW9 := Aside0.mk (below_kept HB5.out HW8.out)
      clear hrs hb HR8 HC8 HB HO HM2 HC5
      go_wp2_with fail
      go_loopg [6, 45] n (fun g2 v6 v45 W => ∃ (i : Nat) (last : Int) (rb : List Int), v45 = .int .i64 (i : Int) ∧ v6 = .int .i64 last ∧ Aside0 (g2 + i = n) ∧ Aside0 (rb = evbs last (lt.drop i) ++ m) ∧ Aside0 (listR last (lt.drop i) = true ∧ 0 ≤ last) ∧ Aside0 (rb.length ≤ 27100) ∧ Aside0 (∀ y ∈ rb, 0 ≤ y ∧ y < 256) ∧ Aside0 (RS w8 W g rb false))
      case atStart => exact ⟨0, 0, gm, rfl, rfl, ⟨by omega⟩, ⟨by rw [HGM.out, HF.out]; rfl⟩, ⟨⟨HTR.out, by omega⟩⟩, HGL, HGB, HS9⟩
      case round =>
        clear HG HS9 HGL HGB
        obtain ⟨i, last, rb, rfl, rfl, HG, HX, HL, HRL, HRB, HS⟩ := hrel
        have hgi := HG.out
        by_cases hi : i < n
        · obtain ⟨g0, rfl⟩ : ∃ g0, gk = g0 + 1 := ⟨gk - 1, by omega⟩
          have hi1 : i < lt.length := by rw [HLT.out]; exact hi
          obtain ⟨ad, ead, hc0, hc1, hc2, hc3, hc4⟩ := at_ev (Kd.C_below HC9.out HS.out.2.1) i hi1
          have hd : lt.drop i = lt[i] :: lt.drop (i + 1) := List.drop_eq_getElem_cons hi1
          obtain ⟨x, hx⟩ : ∃ x, x = lt[i] := ⟨_, rfl⟩
          have hxx := HX.out
          have hll := HL.out
          rw [hd, ← hx] at hxx hll
          rw [listR_cons, Bool.and_eq_true, Bool.and_eq_true] at hll
          rw [evbs_cons, List.append_assoc] at hxx
          rw [← hx] at hc0 hc1 hc2 hc3 hc4
          have hrx := hll.1.1.1
          have hlx := of_decide_eq_true hll.1.1.2
          have hpt := right_parts hrx
          have HNL := Aside0.mk (show listR x.f0 (lt.drop (i + 1)) = true ∧ 0 ≤ x.f0 from ⟨hll.1.2, hpt.1⟩)
          obtain ⟨rn, hrn⟩ : ∃ rn, rn = evbs x.f0 (lt.drop (i + 1)) ++ m := ⟨_, rfl⟩
          rw [← hrn] at hxx
          have htk := take_evb last x rn hrx hll.2 hlx
          rw [← hxx] at htk
          have HNRL := Aside0.mk (show rn.length ≤ 27100 by have h7 := HRL.out; rw [hxx, List.length_append] at h7; omega)
          have HNRB := Aside0.mk (show ∀ y ∈ rn, 0 ≤ y ∧ y < 256 from fun y hy => HRB.out y (by rw [hxx]; simp [hy]))
          have hok : takeOk last rb = true := by unfold takeOk; rw [htk, hrx]; rfl
          have htake := fun W h => take_raw w8 W g rb last h HRB.out (by have := HRL.out; omega) hll.2 (by omega)
          rw [htk, hok] at htake
          have HRN := Aside0.mk hrn
          have hil : (i : Int) < n := by omega
          have HI := Aside0.mk hi
          obtain ⟨xt, xk, xd, xw, xh⟩ := x
          dsimp only at hc0 hc1 hc2 hc3 hc4 HNL HRN
          have HTK := Aside0.mk (show ∀ W, RS w8 W g rb false → Calls Try.prog 20 #[.pointer (some ⟨g, 0, none⟩), .int .i64 last] W (fun e w' => e = .returned (.tuple #[.agg #[.int .i64 xt, .int .i64 xk, .string xd, .int .i64 xw, .int .i64 xh], .bool true]) ∧ RS w8 w' g rn false ∧ KeepBut W w' g none) from htake)
          subst ead
          clear hx hgi hi hi1 hd hxx hll hrx hlx hpt HL HX HRL HRB hrn htk hok htake
          go_upto_region 18 with fail
          go_cut [11] (fun v11 W => ∃ g2 : Nat, v11 = .pointer (some ⟨g2, 0, none⟩) ∧ g ≠ g2 ∧ Aside0 (W.heap[g2]? = some (.cells #[.int .i64 xt, .int .i64 xk, .string xd, .int .i64 xw, .int .i64 xh] 25 (0, 0))) ∧ Aside0 (RS w8 W g rb false))
          case first =>
            go_wp2_with fail
            go_meet
            case rel => exact ⟨wr.heap.size, rfl, by have := (rs_lt HS.out).1; omega, ⟨blk_new wr _⟩, ⟨rs_below HS.out (below_alloc (Below.refl _ _) _)⟩⟩
          case rest =>
            obtain ⟨g2, rfl, hne, BK, HS3⟩ := hcut
            have HNE := Aside0.mk hne
            clear hc0 hc1 hc2 hc3 hc4 HS hne
            go_wp2_with fail
            refine (HTK.out wc HS3.out).mono ?_
            rintro e w10 ⟨rfl, hrs, hk⟩
            have BK2 := Aside0.mk (hk.blk BK.out (fun h => HNE.out h.symm) (by simp))
            have HS4 := Aside0.mk hrs
            clear hrs hk HTK HS3 BK
            go_upto_region 20 with fail
            obtain ⟨w11, hw11⟩ : ∃ w11, w11 = w10.alloc (.cells #[.int .i64 xt, .int .i64 xk, .string xd, .int .i64 xw, .int .i64 xh] 25) := ⟨_, rfl⟩
            obtain ⟨g3, hg3⟩ : ∃ g3, g3 = w10.heap.size := ⟨_, rfl⟩
            have hb11 : Below w10.heap.size w10 w11 := by rw [hw11]; exact below_alloc (Below.refl _ _) _
            have BK3 := blk_below BK2.out hb11
            have BK4 : w11.heap[g3]? = some (.cells #[.int .i64 xt, .int .i64 xk, .string xd, .int .i64 xw, .int .i64 xh] 25 (0, 0)) := by rw [hw11, hg3]; exact blk_new w10 _
            have HS5 := Aside0.mk (rs_below HS4.out hb11)
            rw [← hw11, ← hg3]
            have d0 : w11.cell? ⟨g2, 0, none⟩ = some (.int .i64 xt) := (blk_cell BK3 0).trans rfl
            have d1 : w11.cell? ⟨g2, 1, none⟩ = some (.int .i64 xk) := (blk_cell BK3 1).trans rfl
            have d2 : w11.cell? ⟨g2, 2, none⟩ = some (.string xd) := (blk_cell BK3 2).trans rfl
            have d3 : w11.cell? ⟨g2, 3, none⟩ = some (.int .i64 xw) := (blk_cell BK3 3).trans rfl
            have d4 : w11.cell? ⟨g2, 4, none⟩ = some (.int .i64 xh) := (blk_cell BK3 4).trans rfl
            have e0 : w11.cell? ⟨g3, 0, none⟩ = some (.int .i64 xt) := (blk_cell BK4 0).trans rfl
            have e1 : w11.cell? ⟨g3, 1, none⟩ = some (.int .i64 xk) := (blk_cell BK4 1).trans rfl
            have e2 : w11.cell? ⟨g3, 2, none⟩ = some (.string xd) := (blk_cell BK4 2).trans rfl
            have e3 : w11.cell? ⟨g3, 3, none⟩ = some (.int .i64 xw) := (blk_cell BK4 3).trans rfl
            have e4 : w11.cell? ⟨g3, 4, none⟩ = some (.int .i64 xh) := (blk_cell BK4 4).trans rfl
            clear hw11 hg3 hb11 BK3 BK4 BK2 HS4
            go_wp2_with fail
            go_roundg g0
            case measure => omega
            case rel => exact ⟨i + 1, xt, rn, by first | go_num | (congr 1; unfold wrap64; omega), rfl, ⟨by have := HG.out; omega⟩, HRN, HNL, HNRL, HNRB, HS5⟩
        · have hil : (n : Int) ≤ i := by omega
          have hxx := HX.out
          rw [List.drop_eq_nil_of_le (by rw [HLT.out]; omega)] at hxx
          have hrm : rb = m := hxx
          subst hrm
          have hgd := good_c w8 wr g rb false HS.out
          have HGD := Aside0.mk hgd
          clear hxx hgi hgd HX
          go_wp2_with fail
          refine HGD.out.mono ?_
          rintro e w12 ⟨rfl, hb⟩
          have HS12 := Aside0.mk (rs_below HS.out hb)
          have hdn := done_c w8 w12 g rb false HS12.out
          have hz : ((rb.length : Int) == 0) = decide (rb.length = 0) := by
            by_cases h : rb.length = 0
            · rw [h]; rfl
            · rw [decide_eq_false h]; exact beq_eq_false_iff_ne.mpr (by omega)
          obtain ⟨z, hzz⟩ : ∃ z, z = decide (rb.length = 0) := ⟨_, rfl⟩
          rw [← hzz] at hdn hz
          have HZ := Aside0.mk hz
          clear hb hzz hz HGD HS
          cases z
          all_goals
            have hz := HZ.out
            go_wp2_with fail
            refine hdn.mono ?_
            rintro e w13 ⟨rfl, hb⟩
            have HB13 := Aside0.mk (below_kept HW9.out (rs_below HS12.out hb).2.1)
            clear hdn hb
            go_wp2
            go_ret
            exact ⟨by first | rfl | (simp; done) | (simp [hz]; done), HB13.out⟩
theorem wf_u8 {x : Int} (h : (Lit.int .u8 x).wf = true) : 0 ≤ x ∧ x < 256 := by
  have h2 : 0 ≤ x ∧ x ≤ 255 := by simpa [Lit.wf, IntKind.min, IntKind.max, IntKind.bits, IntKind.signed] using h
  omega
/-- As the row hands it over. -/
theorem lists_row {W : World} (a : Option Addr) (cap : Nat) (l : List S25) (hr : Kd.C k25 W a l.length l) (hc : l.length ≤ cap) (hw : ∀ x ∈ l, EvOpen.evwf x)
    (a2 : Option Addr) (cap2 : Nat) (l2 : List Int) (hr2 : ReadsInt W .u8 a2 l2.length l2) (hc2 : l2.length ≤ cap2) (hw2 : ∀ x ∈ l2, (Lit.int .u8 x).wf = true) (_ : l2.length * 1 ≤ 140737488351232) :
    Calls Try.prog 6 #[.slice a l.length cap, .slice a2 l2.length cap2] W fun e w' => e = .returned (.bool true) ∧ Below W.heap.size W w' := by
  by_cases h : 60 < l.length ∨ 100 < l2.length
  · exact lists_big a a2 cap cap2 l l2 W h
  · exact lists_small a a2 cap cap2 l l2 W hr (Kd.C_of_reads (d := (0 : Int)) (h1 := fun _ => rfl) hr2) (fun x hx => wf_u8 (hw2 x hx)) (by omega) (by omega)
end Go.Proofs.Ytbofeaclgnekkaa.EvLists
