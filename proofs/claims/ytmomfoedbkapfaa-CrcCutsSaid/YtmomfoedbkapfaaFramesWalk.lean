/- The law CrcFrames returns true: a walk through its text; no condition but that the slices can be read. -/
import Derived.Test.YtmomfoedbkapfaaCrcFit
import Derived.Test.YtmomfoedbkapfaaOpens
namespace Go.Proofs.Ytmomfoedbkapfaa.FramesWalk
open Go.RowKit Go.Proofs.Ytmomfoedbkapfaa.Kit Go.Proofs.Ytmomfoedbkapfaa.Plain Go.Proofs.Ytmomfoedbkapfaa.Crc Go.Proofs.Ytmomfoedbkapfaa.CrcCode Go.Proofs.Ytmomfoedbkapfaa.CrcSplit Go.Proofs.Ytmomfoedbkapfaa.CrcFit Go.Proofs.Ytmomfoedbkapfaa.Mine Go.Proofs.Ytmomfoedbkapfaa.Vary Go.Proofs.YtmomfoedbkapfaaW.PrintWords Go.Proofs.YtmomfoedbkapfaaW.PrintLast Go.Proofs.YtmomfoedbkapfaaW.PrintMore
set_option linter.unusedVariables false
set_option linter.unusedSimpArgs false
attribute [local go_sem] max2_int min2_int max_two min_two
def shortB (l : List (List Int)) : Bool := decide (l.length ≤ 20) && l.all (fun x => decide (x.length ≤ 300))
theorem at_bytes {w : World} {A : Option Addr} {n : Nat} {xs : List (List Int)} (h : Kd.C KB w A n xs) (i : Nat) (hi : i < xs.length) : ∃ ad Ax cx, A = some ad ∧ w.cell? (ad.add i) = some (.slice Ax xs[i].length cx) ∧ xs[i].length ≤ cx ∧ Kd.C (Kd.int .u8) w Ax xs[i].length xs[i] := by
  have hn := h.1
  obtain ⟨ad, c, e, hl, ⟨Ax, cx, rfl, h1, h2⟩, hc⟩ := Kd.C_get h [] (i : Int) (by omega) (by omega)
  have h3 := hc 0 _ rfl
  rw [Int.toNat_natCast] at h1 h2 h3
  have he : xs.getD i [] = xs[i] := by rw [List.getD_eq_getElem?_getD, List.getElem?_eq_getElem hi]; rfl
  rw [he] at h1 h2 h3
  rw [show i * KB.sz + 0 = i from Nat.mul_one i] at h3
  exact ⟨ad, Ax, cx, e, h3, h1, h2⟩
set_option maxHeartbeats 800000 in
set_option maxRecDepth 100000 in
theorem short_c (A : Option Addr) (c : Nat) (l : List (List Int)) (w : World) (hr : Kd.C KB w A l.length l) :
    Calls Try.prog 12 #[.slice A l.length c] w fun e w' => e = .returned (.bool (shortB l)) ∧ Below w.heap.size w w' := by
  have HR := Aside0.mk hr
  clear hr
  go_enter Try.func12, Try.ntmps12
  by_cases h20 : l.length ≤ 20
  · have t20 : (l.length : Int) ≤ 20 := by omega
    go_wp2
    go_loopg [10] (l.length) (fun g v10 W => ∃ i : Nat, v10 = .int .i64 (i : Int) ∧ Aside0 (g + i = l.length) ∧ Aside0 (∀ x ∈ l.take i, x.length ≤ 300) ∧ Aside0 (Below w.heap.size w W))
    case atStart => exact ⟨0, rfl, ⟨by omega⟩, ⟨by simp⟩, ⟨Below.refl _ _⟩⟩
    case round =>
      obtain ⟨i, rfl, HG, HL, HB⟩ := hrel
      have hgi := HG.out
      by_cases hi : i < l.length
      · obtain ⟨g0, rfl⟩ : ∃ g0, gk = g0 + 1 := ⟨gk - 1, by omega⟩
        obtain ⟨ad, Ax, cx, ead, hcell, hcx, hrx⟩ := at_bytes (Kd.C_below HR.out HB.out) i hi
        have hil : (i : Int) < l.length := by omega
        have htk : l.take (i + 1) = l.take i ++ [l[i]] := List.take_succ_eq_append_getElem hi
        have hmem : l[i] ∈ l := List.getElem_mem hi
        obtain ⟨x, hx⟩ : ∃ x, x = l[i] := ⟨_, rfl⟩
        rw [← hx] at hcell hcx htk hmem
        have HTK := Aside0.mk htk
        have HMEM := Aside0.mk hmem
        have HI := Aside0.mk hi
        subst ead
        clear hrx hcx hx htk hgi hmem hi
        by_cases hx : x.length ≤ 300
        · have hx' : (x.length : Int) ≤ 300 := by omega
          have HX := Aside0.mk hx
          clear hx
          go_wp2
          go_roundg g0
          case measure => omega
          case rel =>
            refine ⟨i + 1, by go_num, ⟨by have := HG.out; omega⟩, ⟨fun y hy => ?_⟩, HB⟩
            rw [HTK.out] at hy
            rcases List.mem_append.1 hy with hy | hy
            · exact HL.out y hy
            · rw [List.mem_singleton.1 hy]; exact HX.out
        · have hx' : (300 : Int) < x.length := by omega
          have hf : shortB l = false := by
            unfold shortB
            rw [Bool.and_eq_false_iff]
            refine .inr (List.all_eq_false.2 ⟨x, HMEM.out, by simp; omega⟩)
          have HF := Aside0.mk hf
          clear hf hx
          go_wp2
          go_ret
          exact ⟨by rw [HF.out]; rfl, HB.out⟩
      · have hil : (l.length : Int) ≤ i := by omega
        have hl := HL.out
        rw [List.take_of_length_le (by omega)] at hl
        have hf : shortB l = true := by
          unfold shortB
          rw [Bool.and_eq_true]
          exact ⟨decide_eq_true h20, List.all_eq_true.2 (fun x hx => decide_eq_true (hl x hx))⟩
        have HF := Aside0.mk hf
        clear hf hl hgi HL
        go_wp2
        go_ret
        exact ⟨by rw [HF.out]; rfl, HB.out⟩
  · have t20 : (20 : Int) < l.length := by omega
    have hf : shortB l = false := by
      unfold shortB
      rw [Bool.and_eq_false_iff]
      exact .inl (decide_eq_false h20)
    have HF := Aside0.mk hf
    clear hf h20
    go_wp2
    go_ret
    exact ⟨by rw [HF.out]; rfl, Below.refl _ _⟩
theorem frames_app (l m : List (List Int)) : frames (l ++ m) = frames l ++ frames m := by simp [frames]
theorem frames_bytes (l : List (List Int)) (h : ∀ x ∈ l, ∀ y ∈ x, 0 ≤ y ∧ y < 256) : ∀ y ∈ frames l, 0 ≤ y ∧ y < 256 := by
  intro y hy
  obtain ⟨x, hx, hy⟩ := List.mem_flatMap.1 hy
  exact frame_bytes x (h x hx) y hy
theorem frames_len (l : List (List Int)) (h : ∀ x ∈ l, x.length ≤ 300) : (frames l).length ≤ 314 * l.length := by
  induction l with
  | nil => simp [frames]
  | cons x l ih =>
    have h1 := ih (fun y hy => h y (by simp [hy]))
    have h2 := frame_len x
    have h3 := h x (by simp)
    have h4 := enc_len10 x.length (by omega)
    rw [frames_cons, List.length_append, List.length_cons]
    omega
theorem short_true {l : List (List Int)} (h : shortB l = true) : l.length ≤ 20 ∧ ∀ x ∈ l, x.length ≤ 300 := by
  unfold shortB at h
  rw [Bool.and_eq_true] at h
  exact ⟨of_decide_eq_true h.1, fun x hx => of_decide_eq_true (List.all_eq_true.1 h.2 x hx)⟩
set_option maxHeartbeats 400000 in
set_option maxRecDepth 100000 in
theorem frames_big (A1 A2 : Option Addr) (c1 c2 : Nat) (l : List (List Int)) (m : List Int) (w : World) (hr : Kd.C KB w A1 l.length l) (h : shortB l = false) :
    Calls Try.prog 6 #[.slice A1 l.length c1, .slice A2 m.length c2] w fun e w' => e = .returned (.bool true) ∧ Below w.heap.size w w' := by
  have HR := Aside0.mk hr
  have HS := Aside0.mk h
  clear hr h
  go_enter Try.func6, Try.ntmps6
  go_wp2_with (first
    | (go_at_call 8; refine (fit_c _).mono ?_; rintro e w1 ⟨rfl, hb⟩; have HB1 := Aside0.mk hb; clear hb)
    | (go_at_call 12; refine (short_c A1 c1 l w1 (Kd.C_below HR.out HB1.out)).mono ?_; rintro e w2 ⟨rfl, hb⟩; have HB2 := Aside0.mk (below_kept HB1.out hb); clear hb; rw [HS.out]))
  go_ret
  exact ⟨rfl, HB2.out⟩
set_option maxHeartbeats 1600000 in
set_option maxRecDepth 100000 in
theorem frames_small (A1 A2 : Option Addr) (c1 c2 : Nat) (l : List (List Int)) (m : List Int) (w : World) (hr : Kd.C KB w A1 l.length l) (hr2 : Kd.C (Kd.int .u8) w A2 m.length m) (hc1 : l.length ≤ c1) (hc2 : m.length ≤ c2)
    (hl : ∀ x ∈ l, ∀ y ∈ x, 0 ≤ y ∧ y < 256) (hm : ∀ y ∈ m, 0 ≤ y ∧ y < 256) (h : shortB l = true) :
    Calls Try.prog 6 #[.slice A1 l.length c1, .slice A2 m.length c2] w fun e w' => e = .returned (.bool true) ∧ Below w.heap.size w w' := by
  have hsh := short_true h
  have t1 : (l.length : Int) ≤ 20 := by have := hsh.1; omega
  have HR := Aside0.mk hr
  have HR2 := Aside0.mk hr2
  have HS := Aside0.mk h
  have HL := Aside0.mk hl
  have HM := Aside0.mk hm
  have HSH := Aside0.mk hsh.2
  have HC2 := Aside0.mk hc2
  clear hr h hl hm hsh hr2 hc2
  go_enter Try.func6, Try.ntmps6
  go_wp2_with (first
    | (go_at_call 8; refine (fit_c _).mono ?_; rintro e w1 ⟨rfl, hb⟩; have HB1 := Aside0.mk hb; clear hb)
    | (go_at_call 12; refine (short_c A1 c1 l w1 (Kd.C_below HR.out HB1.out)).mono ?_; rintro e w2 ⟨rfl, hb⟩; have HB2 := Aside0.mk (below_kept HB1.out hb); clear hb; rw [HS.out]))
  go_loopg [5, 18] (l.length) (fun g v5 v18 W => ∃ i : Nat, v18 = .int .i64 (i : Int) ∧ Aside0 (g + i = l.length) ∧ Aside0 (Kd.R (Kd.int .u8) 5 W w.heap.size (fun _ => True) v5 (frames (l.take i))) ∧ Aside0 (Below w.heap.size w W))
  case atStart => exact ⟨0, rfl, ⟨by omega⟩, ⟨Kd.R_nil _ _ _ _ _⟩, HB2⟩
  case round =>
    clear HB1 HB2
    obtain ⟨i, rfl, HG, HO, HB⟩ := hrel
    have hgi := HG.out
    by_cases hi : i < l.length
    · obtain ⟨g0, rfl⟩ : ∃ g0, gk = g0 + 1 := ⟨gk - 1, by omega⟩
      obtain ⟨ad, Ax, cx, ead, hcell, hcx, hrx⟩ := at_bytes (Kd.C_below HR.out HB.out) i hi
      have hil : (i : Int) < l.length := by omega
      have htk : l.take (i + 1) = l.take i ++ [l[i]] := List.take_succ_eq_append_getElem hi
      have hmem : l[i] ∈ l := List.getElem_mem hi
      have hfl := frames_len (l.take i) (fun x hx => HSH.out x (List.mem_of_mem_take hx))
      rw [List.length_take] at hfl
      obtain ⟨x, hx⟩ : ∃ x, x = l[i] := ⟨_, rfl⟩
      rw [← hx] at hcell hcx htk hmem hrx
      have hfr := frame_c (fun _ => True) u5 (frames (l.take i)) Ax cx x w wr HB.out HO.out hrx hcx (HL.out x hmem) (by have := HSH.out x hmem; omega) (by omega)
      rw [show frames (l.take i) ++ frame x = frames (l.take (i + 1)) from by rw [htk, frames_app]; simp [frames]] at hfr
      have HFR := Aside0.mk hfr
      have HI := Aside0.mk hi
      subst ead
      clear hrx hcx hx htk hgi hmem hi hfr hfl
      go_wp2_with fail
      refine HFR.out.mono ?_
      rintro e w3 ⟨v3, rfl, hro, hb, _⟩
      have HO3 := Aside0.mk (Kd.R_mono (ok' := fun _ => True) hro (fun _ _ => trivial))
      have HB3 := Aside0.mk hb
      clear hro hb HFR
      go_wp2_with fail
      go_roundg g0
      case measure => omega
      case rel => exact ⟨i + 1, by go_num, ⟨by have := HG.out; omega⟩, HO3, HB3⟩
    · have hil : (l.length : Int) ≤ i := by omega
      have ho := HO.out
      rw [List.take_of_length_le (by omega)] at ho
      have hfl := frames_len l HSH.out
      have hfb := frames_bytes l HL.out
      have hsp : ∀ k, l.length < k → split k (frames l ++ m.take 4) = (l, (frames l).length) := split_frames l (m.take 4) (fun x hx => by have := HSH.out x hx; omega) (by rw [next_short _ (by rw [List.length_take]; omega)])
      have hfg : l.length ≤ (frames l).length := by
        clear hfl hfb hsp ho
        have : ∀ l : List (List Int), l.length ≤ (frames l).length := by
          intro l
          induction l with
          | nil => simp
          | cons x l ih =>
            have h2 := frame_len x
            rw [frames_cons, List.length_append, List.length_cons]
            omega
        exact this l
      obtain ⟨F, hF⟩ : ∃ F, F = frames l := ⟨_, rfl⟩
      rw [← hF] at ho hfl hfb hsp hfg
      obtain ⟨A5, c5, rfl⟩ := Kd.R_slice ho
      have HRF := Aside0.mk (Kd.R_reads' ho).2.2
      have HFL := Aside0.mk hfl
      have HFB := Aside0.mk hfb
      have HSP := Aside0.mk hsp
      have HFG := Aside0.mk hfg
      clear ho hfl hfb hsp hfg hgi hF HO
      have hc4 : ∀ W, Below w.heap.size w W → Kd.C (Kd.int .u8) W A2 (m.take 4).length (m.take 4) := fun W hW => by
        have h1 := Kd.C_below HR2.out hW
        by_cases h4 : 4 ≤ m.length
        · exact Kd.C_take h1 h4
        · rw [List.take_of_length_le (by omega)]; exact h1
      have hml : (m.take 4).length ≤ 4 := by rw [List.length_take]; omega
      have hmc : (m.take 4).length ≤ c2 := by rw [List.length_take]; have := HC2.out; omega
      have hmb : ∀ y ∈ m.take 4, 0 ≤ y ∧ y < 256 := fun y hy => HM.out y (List.mem_of_mem_take hy)
      obtain ⟨m4, hm4⟩ : ∃ m4, m4 = m.take 4 := ⟨_, rfl⟩
      rw [← hm4] at hc4 hml hmc hmb HSP
      have HM4 := Aside0.mk hm4
      have HC4 := Aside0.mk hc4
      have HML := Aside0.mk hml
      have HMC := Aside0.mk hmc
      have HMB := Aside0.mk hmb
      clear hm4 hc4 hml hmc hmb
      go_upto_region 11 with fail
      go_cut [1] (fun v1 W => v1 = .slice A2 m4.length c2 ∧ W = wr)
      case first =>
        by_cases h4 : (4 : Int) < m.length
        · obtain ⟨hcut1, _, _⟩ := cut_to_ex (P := Try.prog) (Kd.int .u8) 22 5 (.int .u8 0) 1 Try.underlying22 info_u8 A2 c2 m (4 : Int) (by omega) (by omega) HC2.out
          rw [show (4 : Int).toNat = 4 from rfl, ← HM4.out] at hcut1
          go_wp2
          go_meet
          case rel => exact ⟨rfl, rfl⟩
        · obtain ⟨hcut1, _, _⟩ := cut_to_ex (P := Try.prog) (Kd.int .u8) 22 5 (.int .u8 0) 1 Try.underlying22 info_u8 A2 c2 m (m.length : Int) (by omega) (by omega) HC2.out
          have hmt : m4 = m := HM4.out.trans (List.take_of_length_le (by omega))
          have HMT := Aside0.mk hmt
          rw [Int.toNat_natCast, List.take_length] at hcut1
          have h5 : (m.length : Int) ≤ 4 := by omega
          clear hmt h4
          go_wp2
          go_meet
          case rel => exact ⟨by rw [HMT.out], rfl⟩
      case rest =>
        obtain ⟨rfl, rfl⟩ := hcut
        obtain ⟨gm, hgm⟩ : ∃ gm, gm = F ++ m4 := ⟨_, rfl⟩
        have hgl : gm.length ≤ 314 * l.length + 4 := by rw [hgm, List.length_append]; have := HML.out; have := HFL.out; omega
        have hgb : ∀ y ∈ gm, 0 ≤ y ∧ y < 256 := fun y hy => by
          rw [hgm] at hy
          exact (List.mem_append.1 hy).elim (HFB.out y) (HMB.out y)
        have hsp := HSP.out (gm.length + 1) (by have := HFG.out; rw [hgm, List.length_append]; omega)
        rw [← hgm] at hsp
        have HGM := Aside0.mk hgm
        have HGL := Aside0.mk hgl
        have HGB := Aside0.mk hgb
        have HSPG := Aside0.mk hsp
        have HLL := Aside0.mk t1
        clear hgm hgl hgb hsp HSP
        go_wp2_with (first
          | ((with_reducible refine gate_builtin (b := .append) (xs := #[.const (.slice none 0 0), .tmp 32]) rfl ?_); at_builtin; go_must ((refine Kd.R_append_row (h1 := fun _ => rfl) (Value.int .u8) (0 : Int) (w0 := w) w.heap.size rfl (.const (.slice none 0 0)) (.tmp 32) 22 5 (.int .u8 0) 1 rfl Try.underlying22 info_u8 rfl (by decide) (.slice none 0 0) [] F A5 F.length c5 (fun k => w.heap.size ≤ k) rfl rfl ?aF (Kd.R_nil _ _ _ _ _) HRF.out HB.out HB.out.size ?aL ?_; (case aF => exact fun k hk => Nat.le_trans HB.out.size hk); (case aL => have := HFL.out; simp; omega); intro v1 w7 ho hb hg hat; rw [List.nil_append] at ho; have HO7 := Aside0.mk ho; have HW7 := Aside0.mk hb; clear ho hb hg hat)))
          | ((with_reducible refine gate_builtin (b := .append) (xs := #[.tmp 33, .tmp 34]) rfl ?_); at_builtin; go_must ((refine Kd.R_append_row (h1 := fun _ => rfl) (Value.int .u8) (0 : Int) (w0 := w) w.heap.size rfl (.tmp 33) (.tmp 34) 22 5 (.int .u8 0) 1 rfl Try.underlying22 info_u8 rfl (by decide) v1 F m4 A2 m4.length c2 (fun k => w.heap.size ≤ k) rfl rfl ?aF HO7.out (HC4.out _ HW7.out) HW7.out HW7.out.size ?aL ?_; (case aF => exact fun k hk => Nat.le_trans HW7.out.size hk); (case aL => have := HFL.out; have := HML.out; omega); intro v2 w8 ho hb hg hat; rw [← HGM.out] at ho; obtain ⟨A8, c8, rfl⟩ := Kd.R_slice ho; have HC8 := Aside0.mk (Kd.R_reads' ho).2.1; have HR8 := Aside0.mk (Kd.R_reads' ho).2.2; have HW8 := Aside0.mk hb; clear ho hb hg hat)))
          | fail)
        have hs9 := split_c A8 c8 gm w8 HR8.out HC8.out HGB.out (by have := HGL.out; omega)
        unfold SplitPost at hs9
        rw [HSPG.out] at hs9
        refine hs9.mono ?_
        rintro e w9 ⟨v9, rfl, hr9, hb9⟩
        obtain ⟨A9, c9, rfl⟩ := Kd.R_slice hr9
        have HW9 := Aside0.mk (below_kept HW8.out hb9)
        have HR9 := Aside0.mk (Kd.R_reads' hr9).2.2
        clear hr9 hb9 hs9
        go_wp2_with fail
        go_loopg [52] (l.length) (fun g v52 W => ∃ i : Nat, v52 = .int .i64 (i : Int) ∧ Aside0 (g + i = l.length) ∧ Aside0 (Below w9.heap.size w9 W))
        case atStart => exact ⟨0, rfl, ⟨by omega⟩, ⟨Below.refl _ _⟩⟩
        case round =>
          obtain ⟨i, rfl, HG, HB9⟩ := hrel
          have hgi := HG.out
          by_cases hi : i < l.length
          · obtain ⟨g0, rfl⟩ : ∃ g0, gk = g0 + 1 := ⟨gk - 1, by omega⟩
            have hW := below_kept HW9.out HB9.out
            obtain ⟨ad, Ax, cx, ead, hcell, hcx, hrx⟩ := at_bytes (Kd.C_below HR.out hW) i hi
            obtain ⟨ad9, Ay, cy, ead9, hcell9, hcy, hry⟩ := at_bytes (Kd.C_below HR9.out HB9.out) i hi
            have hil : (i : Int) < l.length := by omega
            obtain ⟨x, hx⟩ : ∃ x, x = l[i] := ⟨_, rfl⟩
            rw [← hx] at hcell hrx hcell9 hry
            have HI := Aside0.mk hi
            subst ead
            subst ead9
            have hcv1 := Kd.C_string (P := Try.prog) (src := 22) (dst := 9) (e := 5) (c := cx) Try.underlying22 Try.underlying5 Try.underlying9 (Kd.C_drew hrx)
            have hcv2 := Kd.C_string (P := Try.prog) (src := 22) (dst := 9) (e := 5) (c := cy) Try.underlying22 Try.underlying5 Try.underlying9 (Kd.C_drew hry)
            have HCV1 := Aside0.mk hcv1
            have HCV2 := Aside0.mk hcv2
            have HCE1 := Aside0.mk (show wr.drew.cell? (ad.add i) = some (.slice Ax x.length cx) from hcell)
            have HCE2 := Aside0.mk (show wr.drew.cell? (ad9.add i) = some (.slice Ay x.length cy) from hcell9)
            clear hrx hcx hx hgi hi hry hcy hcv1 hcv2 hcell hcell9 hW
            go_upto_region 18 with fail
            go_cut [65] (fun v65 W => v65 = .bool false ∧ Aside0 (Below w9.heap.size w9 W))
            case first =>
              refine start_ (n := 11) (S := fun w' => w'.cell? (ad.add i) = some (.slice Ax x.length cx) ∧ w'.cell? (ad9.add i) = some (.slice Ay x.length cy) ∧ (convert 22 9 (.slice Ax x.length cx)).run Try.prog w' = .ok (.string (strOfNums x)) w' ∧ (convert 22 9 (.slice Ay x.length cy)).run Try.prog w' = .ok (.string (strOfNums x)) w') (ds := []) #[false, false, false, false, false, false, false, false, false, false, false] (by kernel_rfl) rfl rfl ⟨HCE1.out, HCE2.out, HCV1.out, HCV2.out⟩ (fun hHeld => ?_)
              refine pure_ (i := 0) (N := some 55) (v := ?_) (a' := ?_) #[true, false, false, false, false, false, false, false, false, false, false] rfl rfl (by kernel_rfl) (fun _ _ _ h => h) (Or.inl ⟨by rfl, ?_⟩) ?_ ?_
              rotate_left
              · intro w'
                go_simp
                with_reducible rfl
              rotate_left
              · simp only [Act.put, List.setIfInBounds_toArray, List.set_cons_zero, List.set_cons_succ, i64_w, i32_w]
                rfl
              refine pure_ (i := 1) (N := some 56) (v := ?_) (a' := ?_) #[true, true, false, false, false, false, false, false, false, false, false] rfl rfl (by kernel_rfl) (fun _ _ _ h => h) (Or.inl ⟨by rfl, ?_⟩) ?_ ?_
              rotate_left
              · intro w'
                go_simp
                with_reducible rfl
              rotate_left
              · simp only [Act.put, List.setIfInBounds_toArray, List.set_cons_zero, List.set_cons_succ, i64_w, i32_w]
                rfl
              refine pure_ (i := 2) (N := some 57) (v := ?_) (a' := ?_) #[true, true, true, false, false, false, false, false, false, false, false] rfl rfl (by kernel_rfl) (fun _ _ _ h => h) (Or.inl ⟨by rfl, ?_⟩) ?_ ?_
              rotate_left
              · intro w'
                go_simp
                with_reducible rfl
              rotate_left
              · simp only [Act.put, List.setIfInBounds_toArray, List.set_cons_zero, List.set_cons_succ, i64_w, i32_w]
                rfl
              refine pure_ (i := 5) (N := some 60) (v := ?_) (a' := ?_) #[true, true, true, false, false, true, false, false, false, false, false] rfl rfl (by kernel_rfl) (fun _ _ _ h => h) (Or.inl ⟨by rfl, ?_⟩) ?_ ?_
              rotate_left
              · intro w'
                go_simp
                with_reducible rfl
              rotate_left
              · simp only [Act.put, List.setIfInBounds_toArray, List.set_cons_zero, List.set_cons_succ, i64_w, i32_w]
                rfl
              refine pure_ (i := 6) (N := some 61) (v := ?_) (a' := ?_) #[true, true, true, false, false, true, true, false, false, false, false] rfl rfl (by kernel_rfl) (fun _ _ _ h => h) (Or.inl ⟨by rfl, ?_⟩) ?_ ?_
              rotate_left
              · intro w'
                go_simp
                with_reducible rfl
              rotate_left
              · simp only [Act.put, List.setIfInBounds_toArray, List.set_cons_zero, List.set_cons_succ, i64_w, i32_w]
                rfl
              refine pure_ (i := 7) (N := some 62) (v := ?_) (a' := ?_) #[true, true, true, false, false, true, true, true, false, false, false] rfl rfl (by kernel_rfl) (fun _ _ _ h => h) (Or.inl ⟨by rfl, ?_⟩) ?_ ?_
              rotate_left
              · intro w'
                go_simp
                with_reducible rfl
              rotate_left
              · simp only [Act.put, List.setIfInBounds_toArray, List.set_cons_zero, List.set_cons_succ, i64_w, i32_w]
                rfl
              refine take_ (i := 3) (N := some 58) (v := ?_) (a' := ?_) #[true, true, true, true, false, true, true, true, false, false, false] rfl rfl (by kernel_rfl) (fun _ _ _ h => h) (Or.inl ⟨by rfl, ?_⟩) hHeld ?_ ?_
              rotate_left
              · rintro w' ⟨s0, s1, s2, s3⟩
                go_simp
                with_reducible rfl
              rotate_left
              · simp only [Act.put, List.setIfInBounds_toArray, List.set_cons_zero, List.set_cons_succ, i64_w, i32_w]
                rfl
              refine take_ (i := 4) (N := some 59) (v := ?_) (a' := ?_) #[true, true, true, true, true, true, true, true, false, false, false] rfl rfl (by kernel_rfl) (fun _ _ _ h => h) (Or.inl ⟨by rfl, ?_⟩) hHeld ?_ ?_
              rotate_left
              · rintro w' ⟨s0, s1, s2, s3⟩
                go_simp
                with_reducible rfl
              rotate_left
              · simp only [Act.put, List.setIfInBounds_toArray, List.set_cons_zero, List.set_cons_succ, i64_w, i32_w]
                rfl
              refine take_ (i := 8) (N := some 63) (v := ?_) (a' := ?_) #[true, true, true, true, true, true, true, true, true, false, false] rfl rfl (by kernel_rfl) (fun _ _ _ h => h) (Or.inl ⟨by rfl, ?_⟩) hHeld ?_ ?_
              rotate_left
              · rintro w' ⟨s0, s1, s2, s3⟩
                go_simp
                with_reducible rfl
              rotate_left
              · simp only [Act.put, List.setIfInBounds_toArray, List.set_cons_zero, List.set_cons_succ, i64_w, i32_w]
                rfl
              refine take_ (i := 9) (N := some 64) (v := ?_) (a' := ?_) #[true, true, true, true, true, true, true, true, true, true, false] rfl rfl (by kernel_rfl) (fun _ _ _ h => h) (Or.inl ⟨by rfl, ?_⟩) hHeld ?_ ?_
              rotate_left
              · rintro w' ⟨s0, s1, s2, s3⟩
                go_simp
                with_reducible rfl
              rotate_left
              · simp only [Act.put, List.setIfInBounds_toArray, List.set_cons_zero, List.set_cons_succ, i64_w, i32_w]
                rfl
              refine pure_ (i := 10) (N := some 65) (v := ?_) (a' := ?_) #[true, true, true, true, true, true, true, true, true, true, true] rfl rfl (by kernel_rfl) (fun _ _ _ h => h) (Or.inl ⟨by rfl, ?_⟩) ?_ ?_
              rotate_left
              · intro w'
                go_simp
                with_reducible rfl
              rotate_left
              · simp only [Act.put, List.setIfInBounds_toArray, List.set_cons_zero, List.set_cons_succ, i64_w, i32_w]
                rfl
              refine done_ (by kernel_rfl) ?_
              go_wp2
              go_meet
              case rel => exact ⟨by first | rfl | (simp; done), ⟨below_drew HB9.out⟩⟩
            case rest =>
              obtain ⟨rfl, HBC⟩ := hcut
              go_wp2_with fail
              go_roundg g0
              case measure => omega
              case rel => exact ⟨i + 1, by go_num, ⟨by have := HG.out; omega⟩, HBC⟩
          · have hil : (l.length : Int) ≤ i := by omega
            have HE := Aside0.mk (below_kept HW9.out HB9.out)
            clear hgi
            go_wp2
            go_ret
            exact ⟨rfl, HE.out⟩
theorem wf_u8 {x : Int} (h : (Lit.int .u8 x).wf = true) : 0 ≤ x ∧ x < 256 := by
  have h2 : 0 ≤ x ∧ x ≤ 255 := by simpa [Lit.wf, IntKind.min, IntKind.max, IntKind.bits, IntKind.signed] using h
  omega
/-- As the row hands it over. -/
theorem frames_row {W : World} (a : Option Addr) (cap : Nat) (l : List (List Int)) (hr : Kd.C KB W a l.length l) (hc : l.length ≤ cap) (hw : ∀ x ∈ l, ∀ y ∈ x, (Lit.int .u8 y).wf = true)
    (a2 : Option Addr) (cap2 : Nat) (l2 : List Int) (hr2 : ReadsInt W .u8 a2 l2.length l2) (hc2 : l2.length ≤ cap2) (hw2 : ∀ x ∈ l2, (Lit.int .u8 x).wf = true) (_ : l2.length * 1 ≤ 140737488351232) :
    Calls Try.prog 6 #[.slice a l.length cap, .slice a2 l2.length cap2] W fun e w' => e = .returned (.bool true) ∧ Below W.heap.size W w' := by
  cases h : shortB l with
  | false => exact frames_big a a2 cap cap2 l l2 W hr h
  | true => exact frames_small a a2 cap cap2 l l2 W hr (Kd.C_of_reads (d := (0 : Int)) (h1 := fun _ => rfl) hr2) hc hc2 (fun x hx y hy => wf_u8 (hw x hx y hy)) (fun x hx => wf_u8 (hw2 x hx)) h
end Go.Proofs.Ytmomfoedbkapfaa.FramesWalk
