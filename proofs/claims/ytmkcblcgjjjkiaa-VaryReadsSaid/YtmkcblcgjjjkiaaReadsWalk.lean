/- The law VaryReads returns true: a walk through its text; no condition but that the slice can be read. -/
import Derived.Test.YtmkcblcgjjjkiaaLimWalk
namespace Go.Proofs.Ytmkcblcgjjjkiaa.ReadsWalk
open Go.RowKit Go.Proofs.Ytmkcblcgjjjkiaa.Kit Go.Proofs.Ytmkcblcgjjjkiaa.Plain Go.Proofs.Ytmkcblcgjjjkiaa.Mine Go.Proofs.Ytmkcblcgjjjkiaa.Vary Go.Proofs.Ytmkcblcgjjjkiaa.Reader Go.Proofs.Ytmkcblcgjjjkiaa.VFit Go.Proofs.Ytmkcblcgjjjkiaa.LimWalk Go.Proofs.YtmkcblcgjjjkiaaW.PrintWords Go.Proofs.YtmkcblcgjjjkiaaW.PrintLast Go.Proofs.YtmkcblcgjjjkiaaW.PrintMore
set_option linter.unusedVariables false
set_option linter.unusedSimpArgs false
/-- A number without its two high bits. -/
def lo (x : Int) : Int := x % 4611686018427387904
theorem lo_lt (x : Int) : 0 ≤ lo x ∧ lo x < 4611686018427387904 := by unfold lo; omega
theorem low62 (n : Int) : Go.bits .and .i64 n 4611686018427387903 = lo n := by
  have h127 : (BitVec.ofInt 64 4611686018427387903).toNat = 2 ^ 62 - 1 := by decide
  have key : (BitVec.ofInt 64 n &&& BitVec.ofInt 64 4611686018427387903).toNat = (n % ((2 ^ 64 : Nat) : Int)).toNat % 2 ^ 62 := by
    rw [BitVec.toNat_and, BitVec.toNat_ofInt, h127, Nat.and_two_pow_sub_one_eq_mod]
  show IntKind.i64.wrap ((BitVec.ofInt 64 n &&& BitVec.ofInt 64 4611686018427387903).toNat : Nat) = n % 4611686018427387904
  rw [key, IntKind.wrap_i64]
  omega
theorem low62u (n : Int) : IntKind.u64.wrap (Go.bits .and .i64 n 4611686018427387903) = lo n := by
  have h := lo_lt n
  rw [low62, wraps_u64 _ h.1 (by omega)]
theorem numR_true (b : List Int) (L : Int) : numR b true L = (0, b, true) := numR_bad (.inl rfl)
theorem numR_nil (L : Int) : numR [] false L = (0, [], true) := numR_bad (.inr (.inl rfl))
theorem textR_true (b : List Int) (L : Int) : textR b true L = ([], b, true) := by
  unfold textR
  rw [numR_true, if_pos (.inl rfl)]
theorem encs_append (l m : List Int) : encs (l ++ m) = encs l ++ encs m := by simp [Plain.encs]
theorem take_succ_map {l : List Int} {i : Nat} (h : i < l.length) : (l.take (i + 1)).map lo = (l.take i).map lo ++ [lo l[i]] := by
  rw [List.take_succ_eq_append_getElem h, List.map_append]; rfl

set_option maxHeartbeats 400000 in
set_option maxRecDepth 100000 in
theorem reads_big (A : Option Addr) (c : Nat) (l : List Int) (s : ByteArray) (more : Int) (w : World) (h : 40 < l.length ∨ 100 < s.size) :
    Calls Try.prog 7 #[.slice A l.length c, .string s, .int .i64 more] w fun e w' => e = .returned (.bool true) ∧ Below w.heap.size w w' := by
  have h2 : (40 < (l.length : Int)) ∨ ((l.length : Int) ≤ 40 ∧ 100 < (s.size : Int)) := by omega
  clear h
  rcases h2 with h | ⟨h, h2⟩
  all_goals
    go_enter Try.func7, Try.ntmps7
    go_wp2_with (go_at_call 9; refine (fit_c _).mono ?_; rintro e w1 ⟨rfl, hb⟩; have HB := Aside0.mk hb; clear hb)
    go_ret
    exact ⟨rfl, HB.out⟩
set_option maxHeartbeats 1600000 in
set_option maxRecDepth 100000 in
theorem reads_small (A : Option Addr) (c : Nat) (l : List Int) (s : ByteArray) (more : Int) (w : World) (hr : Kd.C (Kd.int .i64) w A l.length l) (hc : l.length ≤ c) (hm : -9223372036854775808 ≤ more ∧ more ≤ 9223372036854775807) (hli : ∀ x ∈ l, -9223372036854775808 ≤ x ∧ x ≤ 9223372036854775807) (h1 : l.length ≤ 40) (h2 : s.size ≤ 100) :
    Calls Try.prog 7 #[.slice A l.length c, .string s, .int .i64 more] w fun e w' => e = .returned (.bool true) ∧ Below w.heap.size w w' := by
  have t1 : (l.length : Int) ≤ 40 := by omega
  have t2 : (s.size : Int) ≤ 100 := by omega
  have HR := Aside0.mk hr
  have HLI := Aside0.mk hli
  have HM := Aside0.mk hm
  clear hr hm hli h1 h2
  go_enter Try.func7, Try.ntmps7
  go_wp2_with (go_at_call 9; refine (fit_c _).mono ?_; rintro e w1 ⟨rfl, hb⟩; have HB1 := Aside0.mk hb; clear hb)
  go_loopg [7, 25] (l.length) (fun g v7 v25 W => ∃ i : Nat, v25 = .int .i64 (i : Int) ∧ Aside0 (g + i = l.length) ∧ Aside0 (Kd.R (Kd.int .u8) 5 W w.heap.size (fun _ => True) v7 (encs ((l.take i).map lo))) ∧ Aside0 (Below w.heap.size w W))
  case atStart => exact ⟨0, rfl, ⟨by omega⟩, ⟨Kd.R_nil _ _ _ _ _⟩, HB1⟩
  case round =>
    clear HB1
    obtain ⟨i, rfl, HG, HO, HB⟩ := hrel
    have hgi := HG.out
    by_cases hi : i < l.length
    · obtain ⟨g0, rfl⟩ : ∃ g0, gk = g0 + 1 := ⟨gk - 1, by omega⟩
      obtain ⟨ad, ead, hcell⟩ := Kd.at_int (Kd.C_below HR.out HB.out) (i : Int) (by omega) (by omega)
      rw [Int.toNat_natCast, rd_nth l i hi] at hcell
      have hcb := HLI.out l[i] (List.getElem_mem hi)
      have htk := take_succ_map hi
      obtain ⟨x, hx⟩ : ∃ x, x = l[i] := ⟨_, rfl⟩
      rw [← hx] at hcell hcb htk
      have HTK := Aside0.mk htk
      have HCB := Aside0.mk hcb
      have HI := Aside0.mk hi
      have hil : (i : Int) < l.length := by omega
      subst ead
      clear htk hx hgi hi hcb
      go_wp2_with fail
      rw [low62u]
      have hle : (encs ((l.take i).map lo)).length ≤ 1000000000000 := by
        have h1 := encs_len ((l.take i).map lo) (fun y hy => by obtain ⟨z, _, rfl⟩ := List.mem_map.1 hy; have := lo_lt z; omega)
        rw [List.length_map, List.length_take] at h1
        omega
      have hput := put_lit u7 (encs ((l.take i).map lo)) [lo x] (fun _ => True) w wr HB.out HO.out (by have := lo_lt x; simp; omega) (by simp) hle
      rw [← encs_append, ← HTK.out] at hput
      refine hput.mono ?_
      rintro e w2 ⟨v2, rfl, hro, hb, _⟩
      have HO2 := Aside0.mk (Kd.R_mono (ok' := fun _ => True) hro (fun _ _ => trivial))
      have HB2 := Aside0.mk hb
      clear hput hro hb hle
      go_wp2_with fail
      go_roundg g0
      case measure => omega
      case rel => exact ⟨i + 1, by go_num, ⟨by have := HG.out; omega⟩, HO2, HB2⟩
    · have hil : (l.length : Int) ≤ i := by omega
      have ho := HO.out
      rw [List.take_of_length_le (by omega)] at ho
      obtain ⟨ms, hms⟩ : ∃ ms, ms = l.map lo := ⟨_, rfl⟩
      rw [← hms] at ho
      have hlm : ms.length = l.length := by rw [hms, List.length_map]
      have hmm : ∀ (j : Nat) (h : j < l.length), ∃ h2 : j < ms.length, ms[j] = lo l[j] := fun j h => ⟨by omega, by subst hms; simp⟩
      have hmb : ∀ x ∈ ms, 0 ≤ x ∧ x < 4611686018427387904 := fun y hy => by rw [hms] at hy; obtain ⟨z, _, rfl⟩ := List.mem_map.1 hy; exact lo_lt z
      have hel := encs_len ms (fun y hy => by have := hmb y hy; omega)
      have HOO := Aside0.mk ho
      have HLM := Aside0.mk hlm
      have HMM := Aside0.mk hmm
      have HMB := Aside0.mk hmb
      have HEL := Aside0.mk hel
      clear ho hlm hmm hmb hel hms hgi HO
      go_wp2_with fail
      refine (puttext_c (fun _ => True) u7 (encs ms) s w wr HB.out HOO.out (by omega) (by have := HEL.out; have := HLM.out; omega)).mono ?_
      rintro e w3 ⟨v3, rfl, hro, hb, _⟩
      obtain ⟨B, hB⟩ : ∃ B, B = enc s.size ++ bytesOf s := ⟨_, rfl⟩
      rw [← hB] at hro
      obtain ⟨D, hD⟩ : ∃ D, D = encs ms ++ B := ⟨_, rfl⟩
      rw [← hD] at hro
      obtain ⟨A3, c3, rfl⟩ := Kd.R_slice hro
      have HR3 := Aside0.mk (Kd.R_reads' hro).2.2
      have HC3 := Aside0.mk (Kd.R_reads' hro).2.1
      have HB3 := Aside0.mk hb
      have HEB := Aside0.mk hB
      have HED := Aside0.mk hD
      clear hro hb hB hD
      go_wp2_with fail
      refine (of_c A3 c3 D w3 HR3.out HC3.out).mono ?_
      rintro e w4 ⟨g, rfl, hrs, _⟩
      have HRS := Aside0.mk hrs
      clear hrs
      go_wp2_with fail
      go_loopg [43] (l.length) (fun g2 v43 W => ∃ i : Nat, v43 = .int .i64 (i : Int) ∧ Aside0 (g2 + i = l.length) ∧ Aside0 (RS w3 W g (encs (ms.drop i) ++ B) false))
      case atStart => exact ⟨0, rfl, ⟨by omega⟩, ⟨HED.out ▸ HRS.out⟩⟩
      case round =>
        clear HRS
        obtain ⟨i, rfl, HG, HRS⟩ := hrel
        have hgi := HG.out
        have hbb : ∀ x ∈ encs (ms.drop i) ++ B, 0 ≤ x ∧ x < 256 := fun x hx => by
          rcases List.mem_append.1 hx with hx | hx
          · exact encs_bytes _ _ hx
          · rw [HEB.out] at hx
            rcases List.mem_append.1 hx with hx | hx
            · exact enc_bytes _ _ hx
            · exact bytesOf_byte _ _ hx
        have hbl : B.length ≤ 110 := by
          have := enc_len10 s.size (by omega)
          rw [HEB.out, List.length_append, bytesOf_length]
          omega
        have hdl : (encs (ms.drop i) ++ B).length < 1000000000000 := by
          have h1 := encs_len (ms.drop i) (fun y hy => by have := HMB.out y (List.mem_of_mem_drop hy); omega)
          have h2 := HLM.out
          rw [List.length_drop] at h1
          rw [List.length_append]
          omega
        by_cases hi : i < l.length
        · obtain ⟨g0, rfl⟩ : ∃ g0, gk = g0 + 1 := ⟨gk - 1, by omega⟩
          obtain ⟨ad, ead, hcell⟩ := Kd.at_int (Kd.C_below HR.out (below_kept HB3.out HRS.out.2.1)) (i : Int) (by omega) (by omega)
          rw [Int.toNat_natCast, rd_nth l i hi] at hcell
          obtain ⟨hi2, hmi⟩ := HMM.out i hi
          have hmp := HMB.out ms[i] (List.getElem_mem hi2)
          obtain ⟨n, hn⟩ : ∃ n : Nat, ms[i] = (n : Int) := ⟨ms[i].toNat, by omega⟩
          obtain ⟨x, hx⟩ : ∃ x, x = l[i] := ⟨_, rfl⟩
          rw [← hx] at hcell hmi
          have hq : Go.bits .and .i64 x 4611686018427387903 = (n : Int) := by rw [low62, ← hmi, hn]
          have hd2 : ms.drop i = ms[i] :: ms.drop (i + 1) := List.drop_eq_getElem_cons hi2
          have hnum := num_c w3 wr g _ false 0 HRS.out hbb hdl (by omega)
          unfold NumPost at hnum
          rw [hd2, encs_cons, hn, Int.toNat_natCast, List.append_assoc, numR_good n (by omega) _ 0 (by omega)] at hnum
          have hnum' := Aside0.mk hnum
          have HI := Aside0.mk hi
          have hil : (i : Int) < l.length := by omega
          subst ead
          clear hnum hd2 hn hmi hmp hx hdl hbl hbb hgi hi hi2
          go_wp2_with fail
          refine hnum'.out.mono ?_
          rintro e w5 ⟨rfl, hrs, _⟩
          have HRS5 := Aside0.mk hrs
          clear hrs hnum'
          go_wp2_with fail
          go_roundg g0
          case measure => omega
          case rel => exact ⟨i + 1, by go_num, ⟨by have := HG.out; omega⟩, HRS5⟩
        · have hil : (l.length : Int) ≤ i := by omega
          have hrs := HRS.out
          have hlm := HLM.out
          rw [List.drop_eq_nil_of_le (by omega)] at hrs hbb hdl
          change RS w3 wr g B false at hrs
          change ∀ x ∈ B, 0 ≤ x ∧ x < 256 at hbb
          have htx := textR_good (bytesOf s) [] (by rw [bytesOf_length]; omega) 100 (by rw [bytesOf_length]; omega)
          rw [List.append_nil, bytesOf_length, ← HEB.out] at htx
          have htext := fun W h => text_c w3 W g B false 100 h hbb (by omega) (by omega)
          unfold TextPost at htext
          rw [htx, str_bytes] at htext
          have hBB := Aside0.mk (show decide (B.length = 0) = false from decide_eq_false (by rw [HEB.out, List.length_append]; have := enc_pos s.size; omega))
          have HT := Aside0.mk htext
          have HRSB := Aside0.mk hrs
          clear htext htx hrs hbb hdl hlm hgi hbl HRS
          have done0 : ∀ W, RS w3 W g B false → Calls Try.prog 18 #[.pointer (some ⟨g, 0, none⟩)] W fun e w' => e = .returned (.bool false) ∧ Below W.heap.size W w' := fun W h => by
            have h1 := done_c w3 W g B false h
            rwa [hBB.out] at h1
          have DONE := Aside0.mk done0
          clear done0
          go_wp2_with fail
          refine (good_c w3 wr g B false HRSB.out).mono ?_
          rintro e w5 ⟨rfl, hb⟩
          have HRS5 := Aside0.mk (rs_below HRSB.out hb)
          clear hb
          go_wp2_with fail
          refine (DONE.out w5 HRS5.out).mono ?_
          rintro e w6 ⟨rfl, hb⟩
          have HRS6 := Aside0.mk (rs_below HRS5.out hb)
          clear hb
          go_wp2_with fail
          refine (HT.out w6 HRS6.out).mono ?_
          rintro e w7 ⟨rfl, hrs, _⟩
          have HRS7 := Aside0.mk hrs
          clear hrs
          go_wp2_with fail
          refine (done_c w3 w7 g [] false HRS7.out).mono ?_
          rintro e w8 ⟨rfl, hb⟩
          have HRS8 := Aside0.mk (rs_below HRS7.out hb)
          clear hb
          go_wp2_with fail
          have hm := HM.out
          have hnum := num_c w3 w8 g [] false 0 HRS8.out (by simp) (by simp) (by omega)
          unfold NumPost at hnum
          rw [numR_nil] at hnum
          refine hnum.mono ?_
          rintro e w9 ⟨rfl, hrs, _⟩
          have HRS9 := Aside0.mk hrs
          clear hrs hnum
          go_wp2_with fail
          refine (good_c w3 w9 g [] true HRS9.out).mono ?_
          rintro e wa ⟨rfl, hb⟩
          have HRSa := Aside0.mk (rs_below HRS9.out hb)
          clear hb
          go_wp2_with fail
          refine (done_c w3 wa g [] true HRSa.out).mono ?_
          rintro e wb ⟨rfl, hb⟩
          have HRSb := Aside0.mk (rs_below HRSa.out hb)
          clear hb
          go_wp2_with fail
          have htext := text_c w3 wb g [] true 5 HRSb.out (by simp) (by simp) (by omega)
          unfold TextPost at htext
          rw [textR_true] at htext
          refine htext.mono ?_
          rintro e wc ⟨rfl, hrs, _⟩
          have HRSc := Aside0.mk hrs
          clear hrs htext
          rw [show strOfNums [] = ⟨#[]⟩ from rfl]
          have HMO := Aside0.mk hm
          clear hm
          go_wp2_with fail
          have hnum := num_c w3 wc g [] true more HRSc.out (by simp) (by simp) HMO.out
          unfold NumPost at hnum
          rw [numR_true] at hnum
          refine hnum.mono ?_
          rintro e wd ⟨rfl, hrs, _⟩
          have HRSd := Aside0.mk hrs
          clear hrs hnum
          go_wp2_with fail
          have htext := text_c w3 wd g [] true more HRSd.out (by simp) (by simp) HMO.out
          unfold TextPost at htext
          rw [textR_true] at htext
          refine htext.mono ?_
          rintro e we ⟨rfl, hrs, _⟩
          have HBe := Aside0.mk (below_kept HB3.out hrs.2.1)
          clear hrs htext
          rw [show strOfNums [] = ⟨#[]⟩ from rfl]
          go_wp2
          go_ret
          exact ⟨rfl, HBe.out⟩
theorem reads_c {w : World} (A : Option Addr) (c : Nat) (l : List Int) (hr : ReadsInt w .i64 A l.length l) (hc : l.length ≤ c) (hw : ∀ x ∈ l, (Lit.int .i64 x).wf = true) (_ : l.length * 8 ≤ 140737488351232) (s : ByteArray) (_ : s.size ≤ 140737488351232) (a2 : Int) (w2 : (Lit.int .i64 a2).wf = true) :
    Calls Try.prog 7 #[.slice A l.length c, .string s, .int .i64 a2] w fun e w' => e = .returned (.bool true) ∧ Below w.heap.size w w' := by
  have hi : ∀ x, (Lit.int .i64 x).wf = true → -9223372036854775808 ≤ x ∧ x ≤ 9223372036854775807 := fun x h => by simpa [Lit.wf, IntKind.min, IntKind.max, IntKind.bits, IntKind.signed] using h
  by_cases h : l.length ≤ 40 ∧ s.size ≤ 100
  · exact reads_small A c l s a2 w (Kd.C_of_reads (enc := Value.int .i64) (d := (0 : Int)) (h1 := fun _ => rfl) hr) hc (hi _ w2) (fun x hx => hi _ (hw x hx)) h.1 h.2
  · exact reads_big A c l s a2 w (by omega)
end Go.Proofs.Ytmkcblcgjjjkiaa.ReadsWalk
