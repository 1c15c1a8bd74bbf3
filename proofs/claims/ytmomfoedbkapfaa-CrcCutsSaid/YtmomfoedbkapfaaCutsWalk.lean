/- The law CrcCuts returns true: a walk through its text; no condition but that the slices can be read. -/
import Derived.Test.YtmomfoedbkapfaaFramesWalk
import Derived.Test.YtmomfoedbkapfaaBurstWalk
namespace Go.Proofs.Ytmomfoedbkapfaa.CutsWalk
open Go.RowKit Go.Proofs.Ytmomfoedbkapfaa.Kit Go.Proofs.Ytmomfoedbkapfaa.Plain Go.Proofs.Ytmomfoedbkapfaa.Crc Go.Proofs.Ytmomfoedbkapfaa.CrcCode Go.Proofs.Ytmomfoedbkapfaa.CrcSplit Go.Proofs.Ytmomfoedbkapfaa.CrcFit Go.Proofs.Ytmomfoedbkapfaa.FramesWalk Go.Proofs.Ytmomfoedbkapfaa.Mine Go.Proofs.Ytmomfoedbkapfaa.Vary Go.Proofs.YtmomfoedbkapfaaW.PrintWords Go.Proofs.YtmomfoedbkapfaaW.PrintLast Go.Proofs.YtmomfoedbkapfaaW.PrintMore
open Go.Proofs.Ytmomfoedbkapfaa.BurstWalk (and16)
set_option linter.unusedVariables false
set_option linter.unusedSimpArgs false
theorem info_int : (Try.prog.info? 3).map (fun i => (i.zero, i.size, i.bytes)) = some (some (.int .i64 0), 1, 8) := by kernel_rfl
def ends (l : List (List Int)) (i : Nat) : List Int := (List.range i).map (fun j => ((frames (l.take (j + 1))).length : Int))
theorem ends_len (l : List (List Int)) (i : Nat) : (ends l i).length = i := by simp [ends]
theorem ends_succ (l : List (List Int)) (i : Nat) : ends l (i + 1) = ends l i ++ [((frames (l.take (i + 1))).length : Int)] := by simp [ends, List.range_succ]
theorem split_more : ∀ (k1 k2 : Nat) (b : List Int), b.length < k1 → b.length < k2 → split k1 b = split k2 b := by
  intro k1
  induction k1 with
  | zero => intro k2 b h; omega
  | succ k1 ih =>
    intro k2 b h1 h2
    obtain ⟨k2, rfl⟩ : ∃ m, k2 = m + 1 := ⟨k2 - 1, by omega⟩
    rw [split, split]
    by_cases h : (next b).2 = 0
    · rw [if_pos h, if_pos h]
    · rw [if_neg h, if_neg h]
      have hs := next_some b (next b).1 (next b).2 rfl
      have hl : (b.drop (next b).2).length < b.length := by rw [List.length_drop]; omega
      rw [ih k2 _ (by omega) (by omega)]
theorem whole_of : ∀ (l : List (List Int)) (cut k : Nat), k ≤ l.length → (frames (l.take k)).length ≤ cut → (k = l.length ∨ cut < (frames (l.take (k + 1))).length) → whole l cut = (k, (frames (l.take k)).length) := by
  intro l
  induction l with
  | nil =>
    intro cut k h _ _
    obtain rfl : k = 0 := by simpa using h
    rfl
  | cons x l ih =>
    intro cut k hk h1 h2
    cases k with
    | zero =>
      have h3 : cut < (frame x).length := by
        rcases h2 with h2 | h2
        · simp at h2
        · simpa [frames] using h2
      rw [whole, if_neg (by omega)]
      rfl
    | succ k =>
      rw [List.take_succ_cons, frames_cons, List.length_append] at h1 h2 ⊢
      rw [whole, if_pos (by omega), ih (cut - (frame x).length) k (by simp at hk; omega) (by omega) (by
        rcases h2 with h2 | h2
        · left; simp at h2; omega
        · right
          omega)]
theorem split_at (l : List (List Int)) (hl : ∀ x ∈ l, x.length ≤ 300) (cut k : Nat) (hk : k ≤ l.length) (h1 : (frames (l.take k)).length ≤ cut) (h2 : k = l.length ∨ cut < (frames (l.take (k + 1))).length) :
    split (((frames l).take cut).length + 1) ((frames l).take cut) = (l.take k, (frames (l.take k)).length) := by
  have h3 := split_cut l (fun x hx => by have := hl x hx; omega) cut (l.length + ((frames l).take cut).length + 1) (by omega)
  rw [whole_of l cut k hk h1 h2] at h3
  rw [← h3]
  exact split_more _ _ _ (by omega) (by omega)
set_option maxHeartbeats 400000 in
set_option maxRecDepth 100000 in
theorem cuts_big (A1 : Option Addr) (c1 : Nat) (l : List (List Int)) (n : Int) (w : World) (hr : Kd.C KB w A1 l.length l) (h : shortB l = false) :
    Calls Try.prog 7 #[.slice A1 l.length c1, .int .i64 n] w fun e w' => e = .returned (.bool true) ∧ Below w.heap.size w w' := by
  have HR := Aside0.mk hr
  have HS := Aside0.mk h
  clear hr h
  go_enter Try.func7, Try.ntmps7
  go_wp2_with (first
    | (go_at_call 8; refine (fit_c _).mono ?_; rintro e w1 ⟨rfl, hb⟩; have HB1 := Aside0.mk hb; clear hb)
    | (go_at_call 12; refine (short_c A1 c1 l w1 (Kd.C_below HR.out HB1.out)).mono ?_; rintro e w2 ⟨rfl, hb⟩; have HB2 := Aside0.mk (below_kept HB1.out hb); clear hb; rw [HS.out]))
  go_ret
  exact ⟨rfl, HB2.out⟩
set_option maxHeartbeats 1600000 in
set_option maxRecDepth 100000 in
theorem cuts_small (A1 : Option Addr) (c1 : Nat) (l : List (List Int)) (n : Int) (w : World) (hr : Kd.C KB w A1 l.length l) (hc1 : l.length ≤ c1)
    (hl : ∀ x ∈ l, ∀ y ∈ x, 0 ≤ y ∧ y < 256) (h : shortB l = true) :
    Calls Try.prog 7 #[.slice A1 l.length c1, .int .i64 n] w fun e w' => e = .returned (.bool true) ∧ Below w.heap.size w w' := by
  have hsh := short_true h
  have t1 : (l.length : Int) ≤ 20 := by have := hsh.1; omega
  have HR := Aside0.mk hr
  have HS := Aside0.mk h
  have HL := Aside0.mk hl
  have HSH := Aside0.mk hsh.2
  clear hr h hl hsh
  go_enter Try.func7, Try.ntmps7
  go_wp2_with (first
    | (go_at_call 8; refine (fit_c _).mono ?_; rintro e w1 ⟨rfl, hb⟩; have HB1 := Aside0.mk hb; clear hb)
    | (go_at_call 12; refine (short_c A1 c1 l w1 (Kd.C_below HR.out HB1.out)).mono ?_; rintro e w2 ⟨rfl, hb⟩; have HB2 := Aside0.mk (below_kept HB1.out hb); clear hb; rw [HS.out]))
  go_loopg [5, 6, 21] (l.length) (fun g v5 v6 v21 W => ∃ i : Nat, v21 = .int .i64 (i : Int) ∧ Aside0 (g + i = l.length) ∧ Aside0 (Kd.R (Kd.int .u8) 5 W w.heap.size (fun _ => True) v5 (frames (l.take i))) ∧ Aside0 (Kd.R (Kd.int .i64) 3 W w.heap.size (fun _ => True) v6 (ends l i)) ∧ Aside0 (Below w.heap.size w W))
  case atStart => exact ⟨0, rfl, ⟨by omega⟩, ⟨Kd.R_nil _ _ _ _ _⟩, ⟨Kd.R_nil _ _ _ _ _⟩, HB2⟩
  case round =>
    clear HB1 HB2
    obtain ⟨i, rfl, HG, HO, HE, HB⟩ := hrel
    have hgi := HG.out
    by_cases hi : i < l.length
    · obtain ⟨g0, rfl⟩ : ∃ g0, gk = g0 + 1 := ⟨gk - 1, by omega⟩
      obtain ⟨ad, Ax, cx, ead, hcell, hcx, hrx⟩ := at_bytes (Kd.C_below HR.out HB.out) i hi
      have hil : (i : Int) < l.length := by omega
      have htk : l.take (i + 1) = l.take i ++ [l[i]] := List.take_succ_eq_append_getElem hi
      have hmem : l[i] ∈ l := List.getElem_mem hi
      have hfl := frames_len (l.take i) (fun x hx => HSH.out x (List.mem_of_mem_take hx))
      rw [List.length_take] at hfl
      obtain ⟨x, hx⟩ : ∃ x, x = l[i] := ⟨_, rfl⟩
      rw [← hx] at hcell hcx htk hmem hrx
      have hfr := frame_c (fun k => some k = u5.ownBlock) u5 (frames (l.take i)) Ax cx x w wr HB.out (Kd.R_tight rfl HO.out) hrx hcx (HL.out x hmem) (by have := HSH.out x hmem; omega) (by omega)
      rw [show frames (l.take i) ++ frame x = frames (l.take (i + 1)) from by rw [htk, frames_app]; simp [frames]] at hfr
      have HFR := Aside0.mk hfr
      have HI := Aside0.mk hi
      have hes := ends_succ l i
      have hel := ends_len l i
      obtain ⟨F1, hF1⟩ : ∃ F1, F1 = frames (l.take (i + 1)) := ⟨_, rfl⟩
      obtain ⟨E, hE⟩ : ∃ E, E = ends l i := ⟨_, rfl⟩
      rw [← hF1] at HFR hes
      rw [← hE] at HE hes hel
      have HF1 := Aside0.mk hF1
      have HES := Aside0.mk hes
      have HEL := Aside0.mk hel
      subst ead
      clear hrx hcx hx htk hgi hmem hi hfr hfl hF1 hE hes hel
      go_wp2_with fail
      refine HFR.out.mono ?_
      rintro e w3 ⟨v3, rfl, hro, hb, hk⟩
      have HO3 := Aside0.mk (Kd.R_mono (ok' := fun _ => True) hro (fun _ _ => trivial))
      have HE3 := Aside0.mk (Kd.R_mono (ok' := fun _ => True) (Kd.R_keptB (Kd.R_apart' HE.out (Kd.R_typed HO.out) (by decide)) hk (fun k hk hs => hk.2 hs)) (fun _ _ => trivial))
      have HB3 := Aside0.mk hb
      obtain ⟨A3, c3, rfl⟩ := Kd.R_slice hro
      clear hro hb hk HFR HO HE HB
      go_wp2_with (first
        | ((with_reducible refine gate_builtin (b := .append) (xs := #[.tmp 28, .tmp 31]) rfl ?_); at_builtin; go_must ((refine Kd.R_append (Kd.int .i64) (w0 := w) w.heap.size rfl (.tmp 28) (.tmp 31) 39 3 (.int .i64 0) 8 rfl Try.underlying39 info_int rfl (by decide) (by omega) u6 E (F1.length : Int) [.int .i64 (F1.length : Int)] (fun _ => True) (fun _ => False) rfl rfl ?aP (fun _ hk => hk.elim) ?aF HE3.out HB3.out HB3.out.size ?aL ?_; (case aP => rfl); (case aF => exact fun _ _ => trivial); (case aL => have := HEL.out; have := HI.out; omega); intro v4 w4 ho hb hg hat; rw [← HES.out] at ho; have HE4 := Aside0.mk ho; have HB4 := Aside0.mk hb; have HO4 := Aside0.mk (Kd.R_over' HO3.out (Kd.R_typed HE3.out) (by decide) hg); clear ho hb hg hat)))
        | fail)
      go_roundg g0
      case measure => omega
      case rel => exact ⟨i + 1, by go_num, ⟨by have := HG.out; omega⟩, ⟨HF1.out ▸ HO4.out⟩, HE4, HB4⟩
    · have hil : (l.length : Int) ≤ i := by omega
      have ho := HO.out
      have he := HE.out
      rw [List.take_of_length_le (by omega)] at ho
      obtain rfl : i = l.length := by omega
      have hel := ends_len l l.length
      have heg : ∀ (j : Nat), j < l.length → rd (ends l l.length) (j : Int) = ((frames (l.take (j + 1))).length : Int) := fun j hj => by
        rw [rd_nth _ _ (by rw [hel]; exact hj)]
        simp [ends]
      have hfl := frames_len l HSH.out
      have hfb := frames_bytes l HL.out
      have hsp := split_at l HSH.out
      have hmono : ∀ k, (frames (l.take k)).length ≤ (frames l).length := fun k => by
        have h3 := congrArg List.length (frames_app (l.take k) (l.drop k))
        rw [List.take_append_drop, List.length_append] at h3
        omega
      obtain ⟨F, hF⟩ : ∃ F, F = frames l := ⟨_, rfl⟩
      rw [← hF] at ho hfl hfb hsp hmono
      obtain ⟨E, hE⟩ : ∃ E, E = ends l l.length := ⟨_, rfl⟩
      rw [← hE] at he hel heg
      obtain ⟨A5, c5, rfl⟩ := Kd.R_slice ho
      obtain ⟨A6, c6, rfl⟩ := Kd.R_slice he
      have HRF := Aside0.mk (Kd.R_reads' ho).2.2
      have HC5 := Aside0.mk (Kd.R_reads' ho).2.1
      have HRE := Aside0.mk (Kd.R_reads' he).2.2
      have HFL := Aside0.mk hfl
      have HFB := Aside0.mk hfb
      have HSP := Aside0.mk hsp
      have HEL := Aside0.mk hel
      have HEG := Aside0.mk heg
      have HMONO := Aside0.mk hmono
      have helI : (E.length : Int) = l.length := by omega
      have ha := and16 n
      obtain ⟨a, hae⟩ : ∃ a, Go.bits .and .i64 n 65535 = a := ⟨_, rfl⟩
      rw [hae] at ha
      have hm0 : 0 ≤ a % ((F.length : Int) + 1) := Int.emod_nonneg _ (by omega)
      have hm1 : a % ((F.length : Int) + 1) < (F.length : Int) + 1 := Int.emod_lt_of_pos _ (by omega)
      have hm2 : Int.tmod a ((F.length : Int) + 1) = a % ((F.length : Int) + 1) := Int.tmod_eq_emod_of_nonneg ha.1
      have HM2 := Aside0.mk hm2
      obtain ⟨j, hj⟩ : ∃ j : Nat, a % ((F.length : Int) + 1) = (j : Int) := ⟨(a % ((F.length : Int) + 1)).toNat, by omega⟩
      have hjF : j ≤ F.length := by omega
      have HJF := Aside0.mk hjF
      have HJ := Aside0.mk hj
      have ha1 := ha.1
      have ha2 := ha.2
      have hfl' : (F.length : Int) ≤ 6280 := by omega
      clear ho he hel heg hfl hfb hsp hmono hgi hF hE HO HE hm0 hm1 hm2 ha hj hjF hi HG hil
      go_upto_region 13 with fail
      go_cut [1] (fun v1 W => v1 = .int .i64 (j : Int) ∧ W = wr)
      case first =>
        go_wp2
        go_meet
        case rel => exact ⟨by rw [← HJ.out], rfl⟩
      case rest =>
        obtain ⟨rfl, rfl⟩ := hcut
        clear hae ha1 ha2 HM2 HJ
        go_wp2_with fail
        go_loopg [9, 10] (l.length) (fun g v9 v10 W => ∃ k last : Nat, v9 = .int .i64 (k : Int) ∧ v10 = .int .i64 (last : Int) ∧ Aside0 (g + k = l.length) ∧ Aside0 (last = (frames (l.take k)).length) ∧ Aside0 (last ≤ j) ∧ W = wc)
        case atStart => exact ⟨0, 0, rfl, rfl, ⟨by omega⟩, ⟨rfl⟩, ⟨by omega⟩, rfl⟩
        case round =>
          obtain ⟨k, last, rfl, rfl, HG, HLA, HLJ, rfl⟩ := hrel
          have hkl : k ≤ l.length := by have := HG.out; omega
          have HKL := Aside0.mk hkl
          by_cases hk : k < l.length ∧ (frames (l.take (k + 1))).length ≤ j
          · obtain ⟨g0, rfl⟩ : ∃ g0, gk = g0 + 1 := ⟨gk - 1, by have := HG.out; omega⟩
            obtain ⟨ad, ead, hcell⟩ := Kd.at_int HRE.out (k : Int) (by omega) (by omega)
            rw [Int.toNat_natCast, HEG.out k hk.1] at hcell
            obtain ⟨en, hen⟩ : ∃ en, en = (frames (l.take (k + 1))).length := ⟨_, rfl⟩
            rw [← hen] at hcell hk
            have HEN := Aside0.mk hen
            have hk1 : (k : Int) < l.length := by omega
            have hk1' : (k : Int) < E.length := by omega
            have hk2 : (en : Int) ≤ j := by omega
            have HENJ := Aside0.mk hk.2
            subst ead
            clear hen hk hkl
            go_wp2_with fail
            go_roundg g0
            case measure => omega
            case rel => exact ⟨k + 1, en, by go_num, rfl, ⟨by have := HG.out; omega⟩, HEN, HENJ, rfl⟩
          · have hsp := HSP.out j k hkl (by rw [← HLA.out]; exact HLJ.out) (by omega)
            rw [← HLA.out] at hsp
            have HSPK := Aside0.mk hsp
            have HJ0 := Aside0.mk (show (0 : Int) ≤ j ∧ (j : Int) ≤ F.length from by have := HJF.out; omega)
            obtain ⟨hcutj, hclj, hrj⟩ := cut_to_ex (P := Try.prog) (Kd.int .u8) 22 5 (.int .u8 0) 1 Try.underlying22 info_u8 A5 c5 F (j : Int) HJ0.out.1 HJ0.out.2 HC5.out
            rw [Int.toNat_natCast] at hcutj hclj hrj
            have hfbj : ∀ y ∈ F.take j, 0 ≤ y ∧ y < 256 := fun y hy => HFB.out y (List.mem_of_mem_take hy)
            have hflj : (F.take j).length ≤ 6280 := by rw [List.length_take]; omega
            obtain ⟨Fj, hFj⟩ : ∃ Fj, Fj = F.take j := ⟨_, rfl⟩
            rw [← hFj] at hcutj hclj hrj hfbj hflj HSPK
            have hs9 := split_c A5 c5 Fj wr (hrj wr HRF.out) hclj hfbj (by omega)
            unfold SplitPost at hs9
            rw [HSPK.out] at hs9
            have hgl : (l.take k).length = k := by rw [List.length_take]; omega
            obtain ⟨got, hgot⟩ : ∃ got, got = l.take k := ⟨_, rfl⟩
            rw [← hgot] at hs9 hgl
            have HGOT := Aside0.mk hgot
            have HS9 := Aside0.mk hs9
            have hgl' : (got.length : Int) = k := by omega
            have hk3 : ((l.length : Int) ≤ k) ∨ ((k : Int) < l.length ∧ ((j : Int) < ((frames (l.take (k + 1))).length : Int))) := by omega
            have HK3 := Aside0.mk hk3
            clear hsp hrj hclj hfbj hflj hFj hs9 hgot hk hk3
            go_upto_region 15 with fail
            go_cut [51] (fun v51 W => v51 = .bool false ∧ W = wr)
            case first =>
              rcases HK3.out with h3 | ⟨h3, h4⟩
              · have h3' : (E.length : Int) ≤ k := by omega
                go_wp2
                go_meet
                case rel => exact ⟨rfl, rfl⟩
              · obtain ⟨ad, ead, hcell⟩ := Kd.at_int HRE.out (k : Int) (by omega) (by omega)
                rw [Int.toNat_natCast, HEG.out k (by omega)] at hcell
                obtain ⟨en, hen⟩ : ∃ en, en = (frames (l.take (k + 1))).length := ⟨_, rfl⟩
                rw [← hen] at hcell h4
                have h3' : (k : Int) < E.length := by omega
                have h4' : ((en : Int) ≤ j) = False := eq_false (by omega)
                subst ead
                clear hen
                go_wp2
                go_meet
                case rel => exact ⟨by first | rfl | (simp; omega), rfl⟩
            case rest =>
              obtain ⟨rfl, rfl⟩ := hcut
              go_wp2_with fail
              refine HS9.out.mono ?_
              rintro e w9 ⟨v9, rfl, hr9, hb9⟩
              obtain ⟨A9, c9, rfl⟩ := Kd.R_slice hr9
              have HW9 := Aside0.mk (below_kept HB.out hb9)
              have HR9 := Aside0.mk (Kd.R_reads' hr9).2.2
              clear hr9 hb9
              go_wp2_with fail
              go_loopg [76] (got.length) (fun g v76 W => ∃ i : Nat, v76 = .int .i64 (i : Int) ∧ Aside0 (g + i = got.length) ∧ Aside0 (Below w9.heap.size w9 W))
              case atStart => exact ⟨0, rfl, ⟨by omega⟩, ⟨Below.refl _ _⟩⟩
              case round =>
                obtain ⟨i, rfl, HG, HB9⟩ := hrel
                have hgi := HG.out
                by_cases hi : i < got.length
                · obtain ⟨g0, rfl⟩ : ∃ g0, gk = g0 + 1 := ⟨gk - 1, by omega⟩
                  have hW := below_kept HW9.out HB9.out
                  have hi2 : i < l.length := by have := HKL.out; omega
                  have hgl2 : got[i] = l[i] := by
                    have h5 := HGOT.out
                    subst h5
                    exact List.getElem_take
                  obtain ⟨ad, Ax, cx, ead, hcell, hcx, hrx⟩ := at_bytes (Kd.C_below HR.out hW) i hi2
                  obtain ⟨ad9, Ay, cy, ead9, hcell9, hcy, hry⟩ := at_bytes (Kd.C_below HR9.out HB9.out) i hi
                  rw [hgl2] at hcell9 hry
                  have hil : (i : Int) < got.length := by omega
                  have hil2 : (i : Int) < l.length := by omega
                  obtain ⟨x, hx⟩ : ∃ x, x = l[i] := ⟨_, rfl⟩
                  rw [← hx] at hcell hrx hcell9 hry
                  have HI := Aside0.mk hi
                  subst ead
                  subst ead9
                  have hcv1 := Kd.C_string (P := Try.prog) (src := 22) (dst := 9) (e := 5) (c := cx) Try.underlying22 Try.underlying5 Try.underlying9 (Kd.C_drew hrx)
                  have hcv2 := Kd.C_string (P := Try.prog) (src := 22) (dst := 9) (e := 5) (c := cy) Try.underlying22 Try.underlying5 Try.underlying9 (Kd.C_drew hry)
                  have HCV1 := Aside0.mk hcv1
                  have HCV2 := Aside0.mk hcv2
                  have HCE1 := Aside0.mk (show wr.drew.cell? (ad.add i) = some (.slice Ax x.length cx) from hcell)
                  have HCE2 := Aside0.mk (show wr.drew.cell? (ad9.add i) = some (.slice Ay x.length cy) from hcell9)
                  clear hrx hcx hgl2 hx hgi hi hi2 hry hcy hcv1 hcv2 hcell hcell9 hW
                  go_upto_region 24 with fail
                  go_cut [89] (fun v89 W => v89 = .bool false ∧ Aside0 (Below w9.heap.size w9 W))
                  case first =>
                    refine start_ (n := 11) (S := fun w' => w'.cell? (ad.add i) = some (.slice Ax x.length cx) ∧ w'.cell? (ad9.add i) = some (.slice Ay x.length cy) ∧ (convert 22 9 (.slice Ax x.length cx)).run Try.prog w' = .ok (.string (strOfNums x)) w' ∧ (convert 22 9 (.slice Ay x.length cy)).run Try.prog w' = .ok (.string (strOfNums x)) w') (ds := []) #[false, false, false, false, false, false, false, false, false, false, false] (by kernel_rfl) rfl rfl ⟨HCE1.out, HCE2.out, HCV1.out, HCV2.out⟩ (fun hHeld => ?_)
                    refine pure_ (i := 0) (N := some 79) (v := ?_) (a' := ?_) #[true, false, false, false, false, false, false, false, false, false, false] rfl rfl (by kernel_rfl) (fun _ _ _ h => h) (Or.inl ⟨by rfl, ?_⟩) ?_ ?_
                    rotate_left
                    · intro w'
                      go_simp
                      with_reducible rfl
                    rotate_left
                    · simp only [Act.put, List.setIfInBounds_toArray, List.set_cons_zero, List.set_cons_succ, i64_w, i32_w]
                      rfl
                    refine pure_ (i := 1) (N := some 80) (v := ?_) (a' := ?_) #[true, true, false, false, false, false, false, false, false, false, false] rfl rfl (by kernel_rfl) (fun _ _ _ h => h) (Or.inl ⟨by rfl, ?_⟩) ?_ ?_
                    rotate_left
                    · intro w'
                      go_simp
                      with_reducible rfl
                    rotate_left
                    · simp only [Act.put, List.setIfInBounds_toArray, List.set_cons_zero, List.set_cons_succ, i64_w, i32_w]
                      rfl
                    refine pure_ (i := 2) (N := some 81) (v := ?_) (a' := ?_) #[true, true, true, false, false, false, false, false, false, false, false] rfl rfl (by kernel_rfl) (fun _ _ _ h => h) (Or.inl ⟨by rfl, ?_⟩) ?_ ?_
                    rotate_left
                    · intro w'
                      go_simp
                      with_reducible rfl
                    rotate_left
                    · simp only [Act.put, List.setIfInBounds_toArray, List.set_cons_zero, List.set_cons_succ, i64_w, i32_w]
                      rfl
                    refine pure_ (i := 5) (N := some 84) (v := ?_) (a' := ?_) #[true, true, true, false, false, true, false, false, false, false, false] rfl rfl (by kernel_rfl) (fun _ _ _ h => h) (Or.inl ⟨by rfl, ?_⟩) ?_ ?_
                    rotate_left
                    · intro w'
                      go_simp
                      with_reducible rfl
                    rotate_left
                    · simp only [Act.put, List.setIfInBounds_toArray, List.set_cons_zero, List.set_cons_succ, i64_w, i32_w]
                      rfl
                    refine pure_ (i := 6) (N := some 85) (v := ?_) (a' := ?_) #[true, true, true, false, false, true, true, false, false, false, false] rfl rfl (by kernel_rfl) (fun _ _ _ h => h) (Or.inl ⟨by rfl, ?_⟩) ?_ ?_
                    rotate_left
                    · intro w'
                      go_simp
                      with_reducible rfl
                    rotate_left
                    · simp only [Act.put, List.setIfInBounds_toArray, List.set_cons_zero, List.set_cons_succ, i64_w, i32_w]
                      rfl
                    refine pure_ (i := 7) (N := some 86) (v := ?_) (a' := ?_) #[true, true, true, false, false, true, true, true, false, false, false] rfl rfl (by kernel_rfl) (fun _ _ _ h => h) (Or.inl ⟨by rfl, ?_⟩) ?_ ?_
                    rotate_left
                    · intro w'
                      go_simp
                      with_reducible rfl
                    rotate_left
                    · simp only [Act.put, List.setIfInBounds_toArray, List.set_cons_zero, List.set_cons_succ, i64_w, i32_w]
                      rfl
                    refine take_ (i := 3) (N := some 82) (v := ?_) (a' := ?_) #[true, true, true, true, false, true, true, true, false, false, false] rfl rfl (by kernel_rfl) (fun _ _ _ h => h) (Or.inl ⟨by rfl, ?_⟩) hHeld ?_ ?_
                    rotate_left
                    · rintro w' ⟨s0, s1, s2, s3⟩
                      go_simp
                      with_reducible rfl
                    rotate_left
                    · simp only [Act.put, List.setIfInBounds_toArray, List.set_cons_zero, List.set_cons_succ, i64_w, i32_w]
                      rfl
                    refine take_ (i := 4) (N := some 83) (v := ?_) (a' := ?_) #[true, true, true, true, true, true, true, true, false, false, false] rfl rfl (by kernel_rfl) (fun _ _ _ h => h) (Or.inl ⟨by rfl, ?_⟩) hHeld ?_ ?_
                    rotate_left
                    · rintro w' ⟨s0, s1, s2, s3⟩
                      go_simp
                      with_reducible rfl
                    rotate_left
                    · simp only [Act.put, List.setIfInBounds_toArray, List.set_cons_zero, List.set_cons_succ, i64_w, i32_w]
                      rfl
                    refine take_ (i := 8) (N := some 87) (v := ?_) (a' := ?_) #[true, true, true, true, true, true, true, true, true, false, false] rfl rfl (by kernel_rfl) (fun _ _ _ h => h) (Or.inl ⟨by rfl, ?_⟩) hHeld ?_ ?_
                    rotate_left
                    · rintro w' ⟨s0, s1, s2, s3⟩
                      go_simp
                      with_reducible rfl
                    rotate_left
                    · simp only [Act.put, List.setIfInBounds_toArray, List.set_cons_zero, List.set_cons_succ, i64_w, i32_w]
                      rfl
                    refine take_ (i := 9) (N := some 88) (v := ?_) (a' := ?_) #[true, true, true, true, true, true, true, true, true, true, false] rfl rfl (by kernel_rfl) (fun _ _ _ h => h) (Or.inl ⟨by rfl, ?_⟩) hHeld ?_ ?_
                    rotate_left
                    · rintro w' ⟨s0, s1, s2, s3⟩
                      go_simp
                      with_reducible rfl
                    rotate_left
                    · simp only [Act.put, List.setIfInBounds_toArray, List.set_cons_zero, List.set_cons_succ, i64_w, i32_w]
                      rfl
                    refine pure_ (i := 10) (N := some 89) (v := ?_) (a' := ?_) #[true, true, true, true, true, true, true, true, true, true, true] rfl rfl (by kernel_rfl) (fun _ _ _ h => h) (Or.inl ⟨by rfl, ?_⟩) ?_ ?_
                    rotate_left
                    · intro w'
                      go_simp
                      with_reducible rfl
                    rotate_left
                    · simp only [Act.put, List.setIfInBounds_toArray, List.set_cons_zero, List.set_cons_succ, i64_w, i32_w]
                      rfl
                    refine done_ (by kernel_rfl) ?_
                    go_wp2
                    go_meet
                    case rel => exact ⟨by first | rfl | (simp; done), ⟨below_drew HB9.out⟩⟩
                  case rest =>
                    obtain ⟨rfl, HBC⟩ := hcut
                    go_wp2_with fail
                    go_roundg g0
                    case measure => omega
                    case rel => exact ⟨i + 1, by go_num, ⟨by have := HG.out; omega⟩, HBC⟩
                · have hil : (got.length : Int) ≤ i := by omega
                  have HE := Aside0.mk (below_kept HW9.out HB9.out)
                  clear hgi
                  go_wp2
                  go_ret
                  exact ⟨rfl, HE.out⟩
theorem cuts_row {W : World} (a : Option Addr) (cap : Nat) (l : List (List Int)) (hr : Kd.C KB W a l.length l) (hc : l.length ≤ cap) (hw : ∀ x ∈ l, ∀ y ∈ x, (Lit.int .u8 y).wf = true) (n : Int) (_ : (Lit.int .i64 n).wf = true) :
    Calls Try.prog 7 #[.slice a l.length cap, .int .i64 n] W fun e w' => e = .returned (.bool true) ∧ Below W.heap.size W w' := by
  cases h : shortB l with
  | false => exact cuts_big a cap l n W hr h
  | true => exact cuts_small a cap l n W hr hc (fun x hx y hy => wf_u8 (hw x hx y hy)) h
end Go.Proofs.Ytmomfoedbkapfaa.CutsWalk
