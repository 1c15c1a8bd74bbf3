/- The law VaryLimits returns true: a walk through its text; no condition but the parameters' sizes. -/
import Derived.Test.YtmkcblcgjjjkiaaVFit
import Derived.Shelf.Spec.RuneCount
namespace Go.Proofs.Ytmkcblcgjjjkiaa.LimWalk
open Go.RowKit Go.Proofs.Ytmkcblcgjjjkiaa.Kit Go.Proofs.Ytmkcblcgjjjkiaa.Plain Go.Proofs.Ytmkcblcgjjjkiaa.Mine Go.Proofs.Ytmkcblcgjjjkiaa.Vary Go.Proofs.Ytmkcblcgjjjkiaa.Reader Go.Proofs.Ytmkcblcgjjjkiaa.VFit Go.Proofs.YtmkcblcgjjjkiaaW.PrintWords Go.Proofs.YtmkcblcgjjjkiaaW.PrintLast Go.Proofs.YtmkcblcgjjjkiaaW.PrintMore
set_option linter.unusedVariables false
set_option linter.unusedSimpArgs false
theorem str_bytes (s : ByteArray) : strOfNums (bytesOf s) = s := strOfNums_bytes s
theorem dec_enc0 (n : Nat) (hn : n < 18446744073709551616) (r : List Int) : dec (enc n ++ r) 0 0 = (n, (enc n).length) := by
  rw [dec_enc n 0 0 r (by omega) (by simpa using hn) (.inr rfl)]
  simp
theorem numR_good (n : Nat) (hn : n ≤ 9223372036854775807) (r : List Int) (limit : Int) (hl : ¬ (0 < limit ∧ limit ≤ (n : Int))) : numR (enc n ++ r) false limit = ((n : Int), r, false) := by
  have h1 := dec_enc0 n (by omega) r
  have h2 := enc_pos n
  unfold numR
  rw [h1, if_neg (by simp only [Bool.false_eq_true, false_or]; omega)]
  simp
theorem numR_over (n : Nat) (hn : n < 18446744073709551616) (r : List Int) (limit : Int) (h : 9223372036854775807 < n ∨ (0 < limit ∧ limit ≤ (n : Int))) : numR (enc n ++ r) false limit = (0, enc n ++ r, true) := by
  have h1 := dec_enc0 n (by omega) r
  unfold numR
  rw [h1, if_pos (by simp only [Bool.false_eq_true, false_or]; omega)]
theorem textR_good (bs r : List Int) (hb : bs.length ≤ 1000000) (limit : Int) (hf : (bs.length : Int) ≤ max limit 0) : textR (enc bs.length ++ (bs ++ r)) false limit = (bs, r, false) := by
  have h1 := numR_good bs.length (by omega) (bs ++ r) (lim1 limit) (by unfold lim1; split <;> (try split) <;> omega)
  unfold textR
  rw [h1, if_neg (by simp; omega)]
  simp
theorem textR_over (bs r : List Int) (hb : bs.length ≤ 1000000) (limit : Int) (h1 : limit ≤ 9223372036854775807) (hf : max limit 0 < (bs.length : Int)) : textR (enc bs.length ++ (bs ++ r)) false limit = ([], enc bs.length ++ (bs ++ r), true) := by
  have h1 := numR_over bs.length (by omega) (bs ++ r) (lim1 limit) (.inr (by unfold lim1; split <;> (try split) <;> omega))
  unfold textR
  rw [h1, if_pos (by simp)]
theorem bytesOf_byte (s : ByteArray) : ∀ x ∈ bytesOf s, 0 ≤ x ∧ x < 256 := by
  intro x hx
  simp only [bytesOf, List.mem_map] at hx
  obtain ⟨b, _, rfl⟩ := hx
  have := b.toNat_lt
  omega

set_option maxHeartbeats 400000 in
set_option maxRecDepth 100000 in
theorem lim_big (n limit : Int) (s : ByteArray) (w : World) (h : 300 < s.size) :
    Calls Try.prog 8 #[.int .u64 n, .int .i64 limit, .string s] w fun e w' => e = .returned (.bool true) ∧ Below w.heap.size w w' := by
  have h2 : (300 : Int) < s.size := by omega
  clear h
  go_enter Try.func8, Try.ntmps8
  go_wp2_with (go_at_call 9; refine (fit_c _).mono ?_; rintro e w1 ⟨rfl, hb⟩; have HB := Aside0.mk hb; clear hb)
  go_ret
  exact ⟨rfl, HB.out⟩
attribute [local go_sem] max2_int max_two
set_option maxHeartbeats 1600000 in
set_option maxRecDepth 100000 in
theorem lim_small (n : Nat) (limit : Int) (s : ByteArray) (w : World) (hn : n < 18446744073709551616) (hl : -9223372036854775808 ≤ limit ∧ limit ≤ 9223372036854775807) (h : s.size ≤ 300) :
    Calls Try.prog 8 #[.int .u64 (n : Int), .int .i64 limit, .string s] w fun e w' => e = .returned (.bool true) ∧ Below w.heap.size w w' := by
  have h2 : (s.size : Int) ≤ 300 := by omega
  have hn0 : (0 : Int) ≤ n := by omega
  have HN1 := Aside0.mk (show (n : Int) < 18446744073709551616 by omega)
  have hl1 := hl.1
  have hl2 := hl.2
  have hlen := enc_len10 n hn
  have HN := Aside0.mk (show ∀ x ∈ enc n, 0 ≤ x ∧ x < 256 from fun x hx => enc_bytes n x hx)
  have HLEN := Aside0.mk hlen
  clear h hl hn hlen
  go_enter Try.func8, Try.ntmps8
  have hcase : ((n : Int) ≤ 9223372036854775807 ∧ limit ≤ 0) ∨ ((n : Int) ≤ 9223372036854775807 ∧ 0 < limit ∧ (n : Int) < limit) ∨ ((9223372036854775808 : Int) ≤ n) ∨ ((n : Int) ≤ 9223372036854775807 ∧ 0 < limit ∧ limit ≤ (n : Int)) := by omega
  obtain ⟨ok, hok⟩ : ∃ ok : Bool, ok = decide ((n : Int) ≤ 9223372036854775807 ∧ ¬ (0 < limit ∧ limit ≤ (n : Int))) := ⟨_, rfl⟩
  obtain ⟨got, hgot⟩ : ∃ got, got = (numR (enc n) false limit).1 := ⟨_, rfl⟩
  obtain ⟨b1, hb1⟩ : ∃ b1, b1 = (numR (enc n) false limit).2.1 := ⟨_, rfl⟩
  obtain ⟨bad1, hbad1⟩ : ∃ bad1, bad1 = (numR (enc n) false limit).2.2 := ⟨_, rfl⟩
  have hres : (ok = true ∧ got = n ∧ b1 = [] ∧ bad1 = false) ∨ (ok = false ∧ got = 0 ∧ b1 = enc n ∧ bad1 = true) := by
    by_cases h3 : (n : Int) ≤ 9223372036854775807 ∧ ¬ (0 < limit ∧ limit ≤ (n : Int))
    · have h4 := numR_good n (by omega) [] limit h3.2
      rw [List.append_nil] at h4
      rw [h4] at hgot hb1 hbad1
      exact .inl ⟨by rw [hok]; exact decide_eq_true h3, hgot, hb1, hbad1⟩
    · have h4 := numR_over n (by have := HN1.out; omega) [] limit (by omega)
      rw [List.append_nil] at h4
      rw [h4] at hgot hb1 hbad1
      exact .inr ⟨by rw [hok]; exact decide_eq_false h3, hgot, hb1, hbad1⟩
  have hnum : ∀ w2 w3 g, RS w2 w3 g (enc n) false → Calls Try.prog 16 #[.pointer (some ⟨g, 0, none⟩), .int .i64 limit] w3 (NumPost w2 w3 g (enc n) false limit) := fun w2 w3 g h => num_c w2 w3 g (enc n) false limit h HN.out (by have := HLEN.out; omega) ⟨hl1, hl2⟩
  unfold NumPost at hnum
  rw [← hgot, ← hb1, ← hbad1] at hnum
  have HNUM := Aside0.mk hnum
  have HRES := Aside0.mk hres
  have HOK := Aside0.mk hok
  have HCASE := Aside0.mk hcase
  have hl := Aside0.mk (⟨hl1, hl2⟩ : -9223372036854775808 ≤ limit ∧ limit ≤ 9223372036854775807)
  clear hnum hres hok hcase hgot hb1 hbad1
  go_upto_region 7 with (first
    | (go_at_call 9; refine (fit_c _).mono ?_; rintro e w1 ⟨rfl, hb⟩; have HB1 := Aside0.mk hb; clear hb)
    | (go_at_call 10; refine (put_lit (.slice none 0 0) [] [(n : Int)] (fun _ => False) w1 w1 (Below.refl _ _) (Kd.R_nil _ _ _ _ _) (by have := HN1.out; simp; omega) (by simp) (by simp)).mono ?_; rintro e w2 ⟨v2, rfl, hro, hb, _⟩; rw [List.nil_append, encs_one] at hro; have HR2 := Aside0.mk hro; have HB12 := Aside0.mk hb; have HB2 := Aside0.mk (below_kept HB1.out hb); clear hro hb; obtain ⟨A, c, rfl⟩ := Kd.R_slice HR2.out)
    | (go_at_call 15; refine (of_c A c (enc n) _ (Kd.R_reads' HR2.out).2.2 (Kd.R_reads' HR2.out).2.1).mono ?_; rintro e w3 ⟨g, rfl, hrs, hb⟩; have HRS := Aside0.mk hrs; have HB3 := Aside0.mk (below_kept HB2.out hb); clear hrs hb)
    | (go_at_call 16; refine (HNUM.out w2 w3 g HRS.out).mono ?_; rintro e w4 ⟨rfl, hrs, hk⟩; have HRS4 := Aside0.mk hrs; clear hrs hk))
  go_cut [9] (fun v9 W => v9 = .bool ok ∧ W = w4)
  case first =>
    rcases HCASE.out with ⟨t1, t2⟩ | ⟨t1, t2, t3⟩ | t1 | ⟨t1, t2, t3⟩
    · have q1 : ((n : Int) < 9223372036854775808) = True := eq_true (by omega)
      have hk : ok = true := HOK.out.trans (decide_eq_true ⟨t1, by omega⟩)
      subst hk
      clear t1
      go_wp2
      go_meet
      case rel => exact ⟨rfl, rfl⟩
    · have q1 : ((n : Int) < 9223372036854775808) = True := eq_true (by omega)
      have hk : ok = true := HOK.out.trans (decide_eq_true ⟨t1, by omega⟩)
      subst hk
      have t4 : 0 ≤ limit := by omega
      have q3 : ((n : Int) < limit) = True := eq_true t3
      clear t1
      go_wp2
      go_meet
      case rel => exact ⟨by simp [t3], rfl⟩
    · have q1 : ((n : Int) < 9223372036854775808) = False := eq_false (by omega)
      have hk : ok = false := HOK.out.trans (decide_eq_false (by omega))
      subst hk
      clear t1
      go_wp2
      go_meet
      case rel => exact ⟨rfl, rfl⟩
    · have q1 : ((n : Int) < 9223372036854775808) = True := eq_true (by omega)
      have hk : ok = false := HOK.out.trans (decide_eq_false (by omega))
      subst hk
      have t4 : 0 ≤ limit := by omega
      have q3 : ((n : Int) < limit) = False := eq_false (by omega)
      clear t1
      go_wp2
      go_meet
      case rel => exact ⟨by first | rfl | (simp; omega), rfl⟩
  case rest =>
    obtain ⟨rfl, rfl⟩ := hcut
    have hgd : (!bad1) = ok := by rcases HRES.out with h2 | h2 <;> rw [h2.1, h2.2.2.2] <;> rfl
    have hdn : (!bad1 && decide (b1.length = 0)) = ok := by
      rcases HRES.out with h2 | h2
      · rw [h2.1, h2.2.2.1, h2.2.2.2]; rfl
      · rw [h2.1, h2.2.2.2]; rfl
    have HG := Aside0.mk (fun W h => hgd ▸ good_c w2 W g b1 bad1 h)
    have HD := Aside0.mk (fun W h => hdn ▸ done_c w2 W g b1 bad1 h)
    have hgn : (ok = true ∧ got = n ∧ (n : Int) ≤ 9223372036854775807) ∨ (ok = false ∧ got = 0 ∧ True) := by
      rcases HRES.out with h2 | h2
      · exact .inl ⟨h2.1, h2.2.1, (of_decide_eq_true (HOK.out.symm.trans h2.1)).1⟩
      · exact .inr ⟨h2.1, h2.2.1, trivial⟩
    clear hgd hdn
    have HGN := Aside0.mk hgn
    have HBC := Aside0.mk (below_kept HB1.out (below_kept HB12.out HRS4.out.2.1))
    clear hgn
    go_upto_region 8 with fail
    go_cut [63] (fun v63 W => v63 = .bool false ∧ Aside0 (Below w.heap.size w W))
    case first =>
      rcases HGN.out with ⟨rfl, rfl, t1⟩ | ⟨rfl, rfl, t1⟩
      all_goals
        go_wp2_with fail
        refine (HG.out wc HRS4.out).mono ?_
        rintro e w5 ⟨rfl, hb⟩
        have HRS5 := Aside0.mk (rs_below HRS4.out hb)
        have HB5 := Aside0.mk (below_kept HBC.out hb)
        clear hb
        go_wp2_with fail
        refine (HD.out w5 HRS5.out).mono ?_
        rintro e w6 ⟨rfl, hb⟩
        have HB6 := Aside0.mk (below_kept HB5.out hb)
        clear hb
        go_wp2
        go_meet
        case rel => exact ⟨rfl, HB6⟩
    case rest =>
      obtain ⟨rfl, HW⟩ := hcut
      clear HRES HOK HNUM HCASE HG HD HGN HR2 HRS4 HRS HN HLEN HB2 HB12 HB3 HBC HN1
      obtain ⟨fits, hfits⟩ : ∃ fits : Bool, fits = decide ((s.size : Int) ≤ max limit 0) := ⟨_, rfl⟩
      obtain ⟨B, hB⟩ : ∃ B, B = enc s.size ++ bytesOf s := ⟨_, rfl⟩
      have HBB := Aside0.mk (show ∀ x ∈ B, 0 ≤ x ∧ x < 256 from fun x hx => by
        rw [hB] at hx
        rcases List.mem_append.1 hx with hx | hx
        · exact enc_bytes _ _ hx
        · exact bytesOf_byte _ _ hx)
      have HBL := Aside0.mk (show B.length < 1000000000000 from by
        have := enc_len10 s.size (by omega)
        rw [hB, List.length_append, bytesOf_length]
        omega)
      obtain ⟨tx, htx⟩ : ∃ tx, tx = (textR B false limit).1 := ⟨_, rfl⟩
      obtain ⟨b2, hb2⟩ : ∃ b2, b2 = (textR B false limit).2.1 := ⟨_, rfl⟩
      obtain ⟨bad2, hbad2⟩ : ∃ bad2, bad2 = (textR B false limit).2.2 := ⟨_, rfl⟩
      have hres : (fits = true ∧ strOfNums tx = s ∧ (!bad2) = true ∧ (!bad2 && decide (b2.length = 0)) = true) ∨ (fits = false ∧ strOfNums tx = ⟨#[]⟩ ∧ (!bad2) = false ∧ (!bad2 && decide (b2.length = 0)) = false) := by
        have hbl := bytesOf_length s
        by_cases h3 : (s.size : Int) ≤ max limit 0
        · have h4 := textR_good (bytesOf s) [] (by omega) limit (by rw [hbl]; exact h3)
          rw [List.append_nil, hbl, ← hB] at h4
          rw [h4] at htx hb2 hbad2
          refine .inl ⟨by rw [hfits]; exact decide_eq_true h3, by rw [htx]; exact str_bytes s, by rw [hbad2]; rfl, by rw [hbad2, hb2]; rfl⟩
        · have h4 := textR_over (bytesOf s) [] (by omega) limit hl2 (by rw [hbl]; omega)
          rw [List.append_nil, hbl, ← hB] at h4
          rw [h4] at htx hb2 hbad2
          refine .inr ⟨by rw [hfits]; exact decide_eq_false h3, by rw [htx]; rfl, by rw [hbad2]; rfl, by rw [hbad2]; rfl⟩
      have htext : ∀ w2 w3 g, RS w2 w3 g B false → Calls Try.prog 19 #[.pointer (some ⟨g, 0, none⟩), .int .i64 limit] w3 (TextPost w2 w3 g B false limit) := fun w2 w3 g h => text_c w2 w3 g B false limit h HBB.out HBL.out ⟨hl1, hl2⟩
      unfold TextPost at htext
      rw [← htx, ← hb2, ← hbad2] at htext
      have HTEXT := Aside0.mk htext
      have HRES := Aside0.mk hres
      have HF := Aside0.mk hfits
      have HB := Aside0.mk hB
      clear htext hres hfits hB htx hb2 hbad2
      go_upto_region 12 with (first
        | (go_at_call 14; refine (puttext_c (fun _ => False) (.slice none 0 0) [] s wc wc (Below.refl _ _) (Kd.R_nil _ _ _ _ _) (by omega) (by simp)).mono ?_; rintro e w7 ⟨v7, rfl, hro, hb, _⟩; rw [List.nil_append, ← HB.out] at hro; have HR7 := Aside0.mk hro; have HB7 := Aside0.mk (below_kept HW.out hb); clear hro hb; obtain ⟨A7, c7, rfl⟩ := Kd.R_slice HR7.out)
        | (go_at_call 15; refine (of_c A7 c7 B w7 (Kd.R_reads' HR7.out).2.2 (Kd.R_reads' HR7.out).2.1).mono ?_; rintro e w8 ⟨g8, rfl, hrs, hb⟩; have HRS8 := Aside0.mk hrs; clear hrs hb)
        | (go_at_call 19; refine (HTEXT.out w7 w8 g8 HRS8.out).mono ?_; rintro e w9 ⟨rfl, hrs, hk⟩; have HRS9 := Aside0.mk hrs; clear hrs hk))
      go_cut [12] (fun v12 W => v12 = .bool fits ∧ W = w9)
      case first =>
        have he : s = ByteArray.empty ↔ (s.size : Int) ≤ 0 := by
          constructor
          · rintro rfl; simp
          · intro h; exact ByteArray.size_eq_zero_iff.1 (by omega)
        have HE := Aside0.mk he
        clear he
        go_wp2
        all_goals
          go_meet
          case rel =>
            refine ⟨?_, rfl⟩
            rw [HF.out]
            congr 1
            rw [decide_eq_decide]
            first | omega | (rw [HE.out]; omega)
      case rest =>
        obtain ⟨rfl, rfl⟩ := hcut
        have HB9 := Aside0.mk (below_kept HB7.out HRS9.out.2.1)
        have HG := Aside0.mk (good_c w7 wc g8 b2 bad2 HRS9.out)
        have HD := Aside0.mk (fun W h => done_c w7 W g8 b2 bad2 h)
        rcases HRES.out with ⟨rfl, h4, h5, h6⟩ | ⟨rfl, h4, h5, h6⟩
        all_goals
          have hg := HG.out
          have hd := HD.out
          rw [h5] at hg
          rw [h6] at hd
          have HG' := Aside0.mk hg
          have HD' := Aside0.mk hd
          rw [h4]
          clear HG HD HRES HTEXT HF h4 h5 h6 hg hd
          go_wp2_with fail
          refine HG'.out.mono ?_
          rintro e wa ⟨rfl, hb⟩
          have HRSa := Aside0.mk (rs_below HRS9.out hb)
          have HBa := Aside0.mk (below_kept HB9.out hb)
          clear hb
          go_wp2_with fail
          refine (HD'.out wa HRSa.out).mono ?_
          rintro e wb ⟨rfl, hb⟩
          have HBb := Aside0.mk (below_kept HBa.out hb)
          clear hb
          go_wp2
          go_ret
          exact ⟨by first | rfl | simp, HBb.out⟩
theorem lim_c {w : World} (a0 : Int) (w0 : (Lit.int .u64 a0).wf = true) (a1 : Int) (w1 : (Lit.int .i64 a1).wf = true) (s : ByteArray) (_ : s.size ≤ 140737488351232) :
    Calls Try.prog 8 #[.int .u64 a0, .int .i64 a1, .string s] w fun e w' => e = .returned (.bool true) ∧ Below w.heap.size w w' := by
  have h0 : 0 ≤ a0 ∧ a0 ≤ 18446744073709551615 := by simpa [Lit.wf, IntKind.min, IntKind.max, IntKind.bits, IntKind.signed] using w0
  have h1 : -9223372036854775808 ≤ a1 ∧ a1 ≤ 9223372036854775807 := by simpa [Lit.wf, IntKind.min, IntKind.max, IntKind.bits, IntKind.signed] using w1
  by_cases h : s.size ≤ 300
  · have h2 := lim_small a0.toNat a1 s w (by omega) h1 h
    rwa [Int.toNat_of_nonneg h0.1] at h2
  · exact lim_big a0 a1 s w (by omega)
end Go.Proofs.Ytmkcblcgjjjkiaa.LimWalk
