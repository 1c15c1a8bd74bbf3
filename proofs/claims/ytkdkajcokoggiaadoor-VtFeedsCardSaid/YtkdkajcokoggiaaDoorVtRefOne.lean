/- Several texts as one: VtRefP, VtRefU, VtRefW, VtRefR, VtRefK, VtRefD, VtRefT. -/
import Derived.Test.YtkdkajcokoggiaaDoorUtfPure2
import Derived.Test.YtkdkajcokoggiaaDoorVtEsc
import Derived.Test.YtkdkajcokoggiaaDoorUtfFull
import Derived.Deep.CutBlock
import Derived.Test.YtkdkajcokoggiaaDoorVtInv
/- The reference's tests on bytes, as plain functions, and what they have to do with the decoding. -/
namespace Go.Proofs.YtkdkajcokoggiaaDoor.VtRefP
open Go.Lib Go.Proofs.YtkdkajcokoggiaaDoor.UtfPure
set_option linter.unusedVariables false
set_option linter.unusedSimpArgs false
def needN (c : Nat) : Nat := if 194 ≤ c ∧ c ≤ 223 then 2 else if 224 ≤ c ∧ c ≤ 239 then 3 else if 240 ≤ c ∧ c ≤ 244 then 4 else 0
def loN (c : Nat) : Nat := if c = 224 then 160 else if c = 240 then 144 else 128
def hiN (c : Nat) : Nat := if c = 237 then 159 else if c = 244 then 143 else 191
def secondB (a b : Nat) : Bool := decide (loN a ≤ b) && decide (b ≤ hiN a)
def beginsB (l : List Int) : Bool := (!(needN (bya l 0) == 0) && decide (l.length < needN (bya l 0))) && ((!decide (1 < l.length) || secondB (bya l 0) (bya l 1)) && (decide (l.length < 3) || (decide (128 ≤ bya l 2) && decide (bya l 2 ≤ 191))))
theorem need_tab : ∀ c < 256, (needN c = 0 → (c < 128 ∧ firstT c = 240) ∨ (128 ≤ c ∧ firstT c = 241)) ∧ (needN c ≠ 0 → firstT c < 240 ∧ firstT c % 8 = needN c ∧ accLo (firstT c / 16) = loN c ∧ accHi (firstT c / 16) = hiN c) := by decide +kernel
theorem need_le (c : Nat) : needN c ≤ 4 := by unfold needN; repeat' split
                                              all_goals omega
theorem need_128 {c : Nat} (h : needN c ≠ 0) : 194 ≤ c ∧ 2 ≤ needN c := by
  unfold needN at h ⊢
  repeat' split
  all_goals (first | omega | (exfalso; revert h; repeat' split; all_goals omega))
theorem begins_full {l : List Int} (hb : Bytes l) (hn : 1 ≤ l.length) : full l = !beginsB l := by
  have ht := need_tab (bya l 0) (bya_lt hb 0)
  unfold full fullN beginsB secondB
  by_cases h0 : needN (bya l 0) = 0
  · have h1 : firstT (bya l 0) % 8 ≤ 1 := by
      rcases ht.1 h0 with h | h <;> rw [h.2] <;> decide
    rw [decide_eq_true (show firstT (bya l 0) % 8 ≤ l.length by omega), h0]
    rfl
  · obtain ⟨_, h1, h2, h3⟩ := ht.2 h0
    rw [h1, h2, h3]
    have e0 : (needN (bya l 0) == 0) = false := beq_eq_false_iff_ne.mpr h0
    rw [e0]
    by_cases p1 : needN (bya l 0) ≤ l.length <;> by_cases p2 : 1 < l.length <;> by_cases p3 : bya l 1 < loN (bya l 0) <;> by_cases p4 : hiN (bya l 0) < bya l 1 <;> by_cases p5 : 2 < l.length <;> by_cases p6 : bya l 2 < 128 <;> by_cases p7 : 191 < bya l 2 <;>
      simp [p1, p2, p3, p4, p5, p6, p7, Nat.not_lt.mp, show ¬ (needN (bya l 0) ≤ l.length) ↔ l.length < needN (bya l 0) by omega] <;> omega
/-- A rune's bytes put together, where they are one's. -/
def wholeN (b0 b1 b2 b3 : Nat) : Option Nat :=
  if secondB b0 b1 = false then none
  else if needN b0 = 2 then some (b0 % 32 * 64 + b1 % 64)
  else if b2 < 128 ∨ 191 < b2 then none
  else if needN b0 = 3 then some (b0 % 16 * 4096 + b1 % 64 * 64 + b2 % 64)
  else if b3 < 128 ∨ 191 < b3 then none
  else some (b0 % 8 * 262144 + b1 % 64 * 4096 + b2 % 64 * 64 + b3 % 64)
theorem dec_whole {l : List Int} (hb : Bytes l) (hn : needN (bya l 0) ≠ 0) (hl : needN (bya l 0) ≤ l.length) :
    dec1 l = match wholeN (bya l 0) (bya l 1) (bya l 2) (bya l 3) with | some r => (r, needN (bya l 0)) | none => (65533, 1) := by
  have ht := need_tab (bya l 0) (bya_lt hb 0)
  obtain ⟨h240, h1, h2, h3⟩ := ht.2 hn
  have h4 := need_128 hn
  unfold dec1
  rcases dec_cases l.length (bya l 0) (bya l 1) (bya l 2) (bya l 3) (by omega) (bya_lt hb 0) (bya_lt hb 1) (bya_lt hb 2) (bya_lt hb 3) with ⟨hx, _, _⟩ | ⟨hx, _, _⟩ | ⟨_, _, _, _, _, _, e⟩
  · omega
  · omega
  rw [e, h1, h2, h3]
  have hle := need_le (bya l 0)
  unfold slowN wholeN secondB
  rw [if_neg (show ¬ l.length < needN (bya l 0) by omega)]
  generalize bya l 0 = b0 at *
  generalize bya l 1 = b1
  generalize bya l 2 = b2
  generalize bya l 3 = b3
  by_cases p1 : b1 < loN b0 ∨ hiN b0 < b1
  · rw [if_pos p1, if_pos (by rcases p1 with p | p <;> simp <;> omega)]
  · have hs : (decide (loN b0 ≤ b1) && decide (b1 ≤ hiN b0)) = true := by rw [decide_eq_true (by omega), decide_eq_true (by omega)]; rfl
    rw [if_neg p1]
    simp only [hs, reduceCtorEq, if_false]
    rcases (show needN b0 = 2 ∨ needN b0 = 3 ∨ needN b0 = 4 by omega) with q | q | q
    · rw [q]; simp
    · rw [q]
      simp only [show ¬ (3 : Nat) ≤ 2 by omega, if_false, show ¬ (3 : Nat) = 2 by omega]
      split <;> simp
    · rw [q]
      simp only [show ¬ (4 : Nat) ≤ 2 by omega, if_false, show ¬ (4 : Nat) = 2 by omega, show ¬ (4 : Nat) ≤ 3 by omega, show ¬ (4 : Nat) = 3 by omega]
      split
      · simp
      · split <;> simp
theorem dec_wrong {l : List Int} (hb : Bytes l) (hl : 1 ≤ l.length) (h8 : 128 ≤ bya l 0) (hn : needN (bya l 0) = 0 ∨ l.length < needN (bya l 0)) : dec1 l = (65533, 1) := by
  have ht := need_tab (bya l 0) (bya_lt hb 0)
  unfold dec1
  rcases dec_cases l.length (bya l 0) (bya l 1) (bya l 2) (bya l 3) hl (bya_lt hb 0) (bya_lt hb 1) (bya_lt hb 2) (bya_lt hb 3) with ⟨hx, h, _⟩ | ⟨_, _, e⟩ | ⟨hx, _, h2, _, _, _, e⟩
  · omega
  · exact e
  · by_cases h0 : needN (bya l 0) = 0
    · rcases ht.1 h0 with h | h <;> omega
    · obtain ⟨_, h1, _, _⟩ := ht.2 h0
      rw [e]
      unfold slowN
      rw [if_pos (by omega)]
end Go.Proofs.YtkdkajcokoggiaaDoor.VtRefP
/- The reference's need, second, printed, begins, whole and runes, as contracts. -/
namespace Go.Proofs.YtkdkajcokoggiaaDoor.VtRefU
open Go.RowKit Go.Proofs.YtkdkajcokoggiaaDoor.Kit Go.Proofs.YtkdkajcokoggiaaDoor.Plain Go.Proofs.YtkdkajcokoggiaaDoor.Mine Go.Proofs.YtkdkajcokoggiaaDoor.UtfPure Go.Proofs.YtkdkajcokoggiaaDoor.UtfFull Go.Proofs.YtkdkajcokoggiaaDoor.UtfFeed Go.Proofs.YtkdkajcokoggiaaDoor.VtPure Go.Proofs.YtkdkajcokoggiaaDoor.VtSmall Go.Proofs.YtkdkajcokoggiaaDoor.VtRefP Go.Proofs.YtkdkajcokoggiaaDoorW.PrintWords Go.Proofs.YtkdkajcokoggiaaDoorW.PrintLast Go.Proofs.YtkdkajcokoggiaaDoorW.PrintMore
open Go.Proofs.YtkdkajcokoggiaaDoor.PVtParts (S37 k37 k37_open k37_openM k37_mk k37_mkM)
set_option linter.unusedVariables false
set_option linter.unusedSimpArgs false
set_option maxHeartbeats 1600000 in
set_option maxRecDepth 100000 in
theorem need_c (c : Nat) (hc : c < 256) (w : World) : Calls Tryd.prog 44 #[.int .u8 (c : Int)] w fun e w' => e = .returned (.int .i64 (needN c : Int)) ∧ Below w.heap.size w w' := by
  obtain ⟨r, hr⟩ : ∃ r, r = needN c := ⟨_, rfl⟩
  rw [← hr]
  have HR := Aside0.mk hr
  clear hr
  by_cases k0 : c < 194
  · have HV := Aside0.mk (show needN c = 0 from by unfold needN; ((repeat' split) <;> omega))
    have q0 : decide (194 ≤ (c : Int)) = false := decide_eq_false (by omega)
    have r1 : (c : Int) < 194 := by omega
    have q1 : decide (224 ≤ (c : Int)) = false := decide_eq_false (by omega)
    have r2 : (c : Int) < 224 := by omega
    have q2 : decide (240 ≤ (c : Int)) = false := decide_eq_false (by omega)
    have r3 : (c : Int) < 240 := by omega
    have q3 : decide ((c : Int) ≤ 223) = true := decide_eq_true (by omega)
    have r4 : (c : Int) ≤ 223 := by omega
    have q4 : decide ((c : Int) ≤ 239) = true := decide_eq_true (by omega)
    have r5 : (c : Int) ≤ 239 := by omega
    have q5 : decide ((c : Int) ≤ 244) = true := decide_eq_true (by omega)
    have r6 : (c : Int) ≤ 244 := by omega
    clear k0
    go_enter Tryd.func44, Tryd.ntmps44
    go_wp2
    go_ret
    exact ⟨by rw [HR.out, HV.out]; rfl, Below.refl _ _⟩
  · by_cases k1 : c ≤ 223
    · have HV := Aside0.mk (show needN c = 2 from by unfold needN; ((repeat' split) <;> omega))
      have q0 : decide (194 ≤ (c : Int)) = true := decide_eq_true (by omega)
      have r1 : 194 ≤ (c : Int) := by omega
      have q1 : decide (224 ≤ (c : Int)) = false := decide_eq_false (by omega)
      have r2 : (c : Int) < 224 := by omega
      have q2 : decide (240 ≤ (c : Int)) = false := decide_eq_false (by omega)
      have r3 : (c : Int) < 240 := by omega
      have q3 : decide ((c : Int) ≤ 223) = true := decide_eq_true (by omega)
      have r4 : (c : Int) ≤ 223 := by omega
      have q4 : decide ((c : Int) ≤ 239) = true := decide_eq_true (by omega)
      have r5 : (c : Int) ≤ 239 := by omega
      have q5 : decide ((c : Int) ≤ 244) = true := decide_eq_true (by omega)
      have r6 : (c : Int) ≤ 244 := by omega
      clear k0 k1
      go_enter Tryd.func44, Tryd.ntmps44
      go_wp2
      go_ret
      exact ⟨by rw [HR.out, HV.out]; rfl, Below.refl _ _⟩
    · by_cases k2 : c ≤ 239
      · have HV := Aside0.mk (show needN c = 3 from by unfold needN; ((repeat' split) <;> omega))
        have q0 : decide (194 ≤ (c : Int)) = true := decide_eq_true (by omega)
        have r1 : 194 ≤ (c : Int) := by omega
        have q1 : decide (224 ≤ (c : Int)) = true := decide_eq_true (by omega)
        have r2 : 224 ≤ (c : Int) := by omega
        have q2 : decide (240 ≤ (c : Int)) = false := decide_eq_false (by omega)
        have r3 : (c : Int) < 240 := by omega
        have q3 : decide ((c : Int) ≤ 223) = false := decide_eq_false (by omega)
        have r4 : 223 < (c : Int) := by omega
        have q4 : decide ((c : Int) ≤ 239) = true := decide_eq_true (by omega)
        have r5 : (c : Int) ≤ 239 := by omega
        have q5 : decide ((c : Int) ≤ 244) = true := decide_eq_true (by omega)
        have r6 : (c : Int) ≤ 244 := by omega
        clear k0 k1 k2
        go_enter Tryd.func44, Tryd.ntmps44
        go_wp2
        go_ret
        exact ⟨by rw [HR.out, HV.out]; rfl, Below.refl _ _⟩
      · by_cases k3 : c ≤ 244
        · have HV := Aside0.mk (show needN c = 4 from by unfold needN; ((repeat' split) <;> omega))
          have q0 : decide (194 ≤ (c : Int)) = true := decide_eq_true (by omega)
          have r1 : 194 ≤ (c : Int) := by omega
          have q1 : decide (224 ≤ (c : Int)) = true := decide_eq_true (by omega)
          have r2 : 224 ≤ (c : Int) := by omega
          have q2 : decide (240 ≤ (c : Int)) = true := decide_eq_true (by omega)
          have r3 : 240 ≤ (c : Int) := by omega
          have q3 : decide ((c : Int) ≤ 223) = false := decide_eq_false (by omega)
          have r4 : 223 < (c : Int) := by omega
          have q4 : decide ((c : Int) ≤ 239) = false := decide_eq_false (by omega)
          have r5 : 239 < (c : Int) := by omega
          have q5 : decide ((c : Int) ≤ 244) = true := decide_eq_true (by omega)
          have r6 : (c : Int) ≤ 244 := by omega
          clear k0 k1 k2 k3
          go_enter Tryd.func44, Tryd.ntmps44
          go_wp2
          go_ret
          exact ⟨by rw [HR.out, HV.out]; rfl, Below.refl _ _⟩
        · have HV := Aside0.mk (show needN c = 0 from by unfold needN; ((repeat' split) <;> omega))
          have q0 : decide (194 ≤ (c : Int)) = true := decide_eq_true (by omega)
          have r1 : 194 ≤ (c : Int) := by omega
          have q1 : decide (224 ≤ (c : Int)) = true := decide_eq_true (by omega)
          have r2 : 224 ≤ (c : Int) := by omega
          have q2 : decide (240 ≤ (c : Int)) = true := decide_eq_true (by omega)
          have r3 : 240 ≤ (c : Int) := by omega
          have q3 : decide ((c : Int) ≤ 223) = false := decide_eq_false (by omega)
          have r4 : 223 < (c : Int) := by omega
          have q4 : decide ((c : Int) ≤ 239) = false := decide_eq_false (by omega)
          have r5 : 239 < (c : Int) := by omega
          have q5 : decide ((c : Int) ≤ 244) = false := decide_eq_false (by omega)
          have r6 : 244 < (c : Int) := by omega
          clear k0 k1 k2 k3
          go_enter Tryd.func44, Tryd.ntmps44
          go_wp2
          go_ret
          exact ⟨by rw [HR.out, HV.out]; rfl, Below.refl _ _⟩
set_option maxHeartbeats 1600000 in
set_option maxRecDepth 100000 in
theorem second_c (a b : Nat) (ha : a < 256) (hb : b < 256) (w : World) : Calls Tryd.prog 47 #[.int .u8 (a : Int), .int .u8 (b : Int)] w fun e w' => e = .returned (.bool (secondB a b)) ∧ Below w.heap.size w w' := by
  obtain ⟨r, hr⟩ : ∃ r, r = secondB a b := ⟨_, rfl⟩
  rw [← hr]
  obtain ⟨lo, hlo⟩ : ∃ x, x = loN a := ⟨_, rfl⟩
  obtain ⟨hi, hhi⟩ : ∃ x, x = hiN a := ⟨_, rfl⟩
  unfold secondB at hr
  rw [← hlo, ← hhi] at hr
  have HR := Aside0.mk hr
  have HL := Aside0.mk hlo
  have HH := Aside0.mk hhi
  clear hr hlo hhi
  go_enter Tryd.func47, Tryd.ntmps47
  go_upto_block 0 with fail
  go_cut [5, 6] (fun v5 v6 W => v5 = .int .u8 (lo : Int) ∧ v6 = .int .u8 (hi : Int) ∧ W = w)
  case first =>
    by_cases k224 : a = 224
    · subst k224
      go_wp2_with fail
      go_meet
      case rel => exact ⟨by rw [HL.out]; rfl, by rw [HH.out]; rfl, rfl⟩
    · by_cases k237 : a = 237
      · subst k237
        go_wp2_with fail
        go_meet
        case rel => exact ⟨by rw [HL.out]; rfl, by rw [HH.out]; rfl, rfl⟩
      · by_cases k240 : a = 240
        · subst k240
          go_wp2_with fail
          go_meet
          case rel => exact ⟨by rw [HL.out]; rfl, by rw [HH.out]; rfl, rfl⟩
        · by_cases k244 : a = 244
          · subst k244
            go_wp2_with fail
            go_meet
            case rel => exact ⟨by rw [HL.out]; rfl, by rw [HH.out]; rfl, rfl⟩
          · have HN := Aside0.mk (show a ≠ 224 ∧ a ≠ 237 ∧ a ≠ 240 ∧ a ≠ 244 from ⟨k224, k237, k240, k244⟩)
            have q0 : ((a : Int) == 224) = false := beq_eq_false_iff_ne.mpr (by omega)
            have q1 : ((a : Int) == 237) = false := beq_eq_false_iff_ne.mpr (by omega)
            have q2 : ((a : Int) == 240) = false := beq_eq_false_iff_ne.mpr (by omega)
            have q3 : ((a : Int) == 244) = false := beq_eq_false_iff_ne.mpr (by omega)
            clear k224 k237 k240 k244
            go_wp2_with fail
            go_meet
            case rel => exact ⟨by rw [HL.out, loN, if_neg HN.out.1, if_neg HN.out.2.2.1]; rfl, by rw [HH.out, hiN, if_neg HN.out.2.1, if_neg HN.out.2.2.2]; rfl, rfl⟩
  case rest =>
    obtain ⟨rfl, rfl, rfl⟩ := hcut
    by_cases h1 : lo ≤ b
    · have h1I : (lo : Int) ≤ b := by omega
      by_cases h2 : b ≤ hi
      · have h2I : (b : Int) ≤ hi := by omega
        have H12 := Aside0.mk (And.intro h1 h2)
        clear h1 h2
        go_wp2
        go_ret
        exact ⟨by rw [HR.out, decide_eq_true H12.out.1, decide_eq_true H12.out.2]; rfl, Below.refl _ _⟩
      · have h2I : decide ((b : Int) ≤ hi) = false := decide_eq_false (by omega)
        have h2J : (hi : Int) < b := by omega
        have H12 := Aside0.mk (show lo ≤ b ∧ hi < b from ⟨h1, by omega⟩)
        clear h1 h2
        go_wp2
        go_ret
        exact ⟨by rw [HR.out, decide_eq_true H12.out.1, decide_eq_false (show ¬ b ≤ hi by have := H12.out.2; omega)]; rfl, Below.refl _ _⟩
    · have h1I : decide ((lo : Int) ≤ b) = false := decide_eq_false (by omega)
      have h1J : (b : Int) < lo := by omega
      have H1 := Aside0.mk (show b < lo by omega)
      clear h1
      go_wp2
      go_ret
      exact ⟨by rw [HR.out, decide_eq_false (show ¬ lo ≤ b by have := H1.out; omega)]; rfl, Below.refl _ _⟩
set_option maxHeartbeats 800000 in
set_option maxRecDepth 100000 in
theorem printed_c (r : Int) (w : World) : Calls Tryd.prog 40 #[.int .i32 r] w fun e w' => e = .returned (.agg #[.int .i64 0, .int .i32 r, .int .u8 0, .string ⟨#[]⟩, .slice none 0 0, .string ⟨#[]⟩]) ∧ Below w.heap.size w w' := by
  have hu := Tryd.underlying37
  go_enter Tryd.func40, Tryd.ntmps40
  go_wp2
  have hb := below_alloc (Below.refl w.heap.size w) (.cells #[.int .i64 0, .int .i32 r, .int .u8 0, .string ⟨#[]⟩, .slice none 0 0, .string ⟨#[]⟩] 37)
  have hg := blk_new w (.cells #[.int .i64 0, .int .i32 r, .int .u8 0, .string ⟨#[]⟩, .slice none 0 0, .string ⟨#[]⟩] 37)
  exact bodyPost_ret (results_single Tryd.results40 (.cell w.heap.size 37 #[.int .i64 0, .int .i32 r, .int .u8 0, .string ⟨#[]⟩, .slice none 0 0, .string ⟨#[]⟩] (0, 0) _ rfl hg hu rfl (by kernel_rfl) .nil)) rfl ⟨rfl, hb⟩
set_option maxHeartbeats 3200000 in
set_option maxRecDepth 100000 in
theorem begins_c (A : Option Addr) (cp : Nat) (l : List Int) (w : World) (hr : Kd.C (Kd.int .u8) w A l.length l) (hb : Bytes l) (hn : 1 ≤ l.length) (hl : l.length ≤ 4) :
    Calls Tryd.prog 43 #[.slice A l.length cp] w fun e w' => e = .returned (.bool (beginsB l)) ∧ Below w.heap.size w w' := by
  obtain ⟨ad, rfl, hc0'⟩ := at_byte hr hb 0 hn
  have hc0 : w.cell? ad = some (.int .u8 (bya l 0 : Int)) := hc0'
  clear hc0'
  have HB1 := Aside0.mk (fun h => at_byte1 hr hb 1 h (by omega))
  have HB2 := Aside0.mk (fun h => at_byte1 hr hb 2 h (by omega))
  obtain ⟨r, hrr⟩ : ∃ r, r = beginsB l := ⟨_, rfl⟩
  rw [← hrr]
  unfold beginsB at hrr
  have hlt := bya_lt hb 0
  have hlt1 := bya_lt hb 1
  obtain ⟨L, hL⟩ : ∃ L, L = l.length := ⟨_, rfl⟩
  rw [← hL] at hrr hn hl HB1 HB2 ⊢
  have HND := Aside0.mk (need_c (bya l 0) hlt)
  have HSC := Aside0.mk (second_c (bya l 0) (bya l 1) hlt hlt1)
  obtain ⟨c0, hcc⟩ : ∃ c, c = bya l 0 := ⟨_, rfl⟩
  obtain ⟨c1, hcc1⟩ : ∃ c, c = bya l 1 := ⟨_, rfl⟩
  obtain ⟨c2, hcc2⟩ : ∃ c, c = bya l 2 := ⟨_, rfl⟩
  rw [← hcc] at hc0 HND HSC hrr
  rw [← hcc1] at HSC hrr HB1
  rw [← hcc2] at hrr HB2
  obtain ⟨N, hN⟩ : ∃ N, N = needN c0 := ⟨_, rfl⟩
  rw [← hN] at HND hrr
  obtain ⟨SB, hSB⟩ : ∃ N, N = secondB c0 c1 := ⟨_, rfl⟩
  rw [← hSB] at HSC hrr
  have HR := Aside0.mk hrr
  have hLI : (L : Int) ≤ 4 := by omega
  have hL1 : (1 : Int) ≤ L := by omega
  have hL0 : (0 : Int) < L := by omega
  have HN1 := Aside0.mk hn
  have hN4 : (N : Int) ≤ 4 := by have := need_le c0; omega
  clear hr hb hrr hlt hlt1 hL hcc hcc1 hcc2 hN hSB hn hl
  go_enter Tryd.func43, Tryd.ntmps43
  go_wp2_with fail
  refine (HND.out w).mono ?_
  rintro e w1 ⟨rfl, hb⟩
  have HB := Aside0.mk hb
  have hc0' := (hb.cell (World.block_lt_of_cell? w ad hc0)).trans hc0
  clear hb hc0
  by_cases hz : N = 0
  · subst hz
    go_wp2
    go_ret
    exact ⟨by rw [HR.out]; rfl, HB.out⟩
  have hz1 : ((N : Int) == 0) = false := beq_eq_false_iff_ne.mpr (by omega)
  have HZ := Aside0.mk (show (N == 0) = false from beq_eq_false_iff_ne.mpr hz)
  clear hz
  by_cases hln : L < N
  case neg =>
    have h1 : (N : Int) ≤ L := by omega
    have HX := Aside0.mk (show decide (L < N) = false from decide_eq_false hln)
    clear hln
    go_wp2
    go_ret
    exact ⟨by rw [HR.out, HX.out, Bool.and_false, Bool.false_and]; rfl, HB.out⟩
  have hln1 : (L : Int) < N := by omega
  have hln2 : decide ((N : Int) ≤ L) = false := decide_eq_false (by omega)
  have HX := Aside0.mk (show decide (L < N) = true from decide_eq_true hln)
  clear hln
  by_cases h1 : 1 < L
  · obtain ⟨ad', e', hc1⟩ := HB1.out h1
    cases e'
    have hc1' := (HB.out.cell (World.block_lt_of_cell? w _ hc1)).trans hc1
    have h1I : decide ((1 : Int) < L) = true := decide_eq_true (by omega)
    have h1J : (1 : Int) < L := by omega
    have H1 := Aside0.mk (show decide (1 < L) = true from decide_eq_true h1)
    have HW := Aside0.mk (show w1.drew.cell? ad = some (.int .u8 (c0 : Int)) ∧ w1.drew.cell? ⟨ad.block, ad.off + 1, none⟩ = some (.int .u8 (c1 : Int)) from ⟨hc0', hc1'⟩)
    clear h1 hc1 hc0' hc1'
    have hLN0 : 0 < L := by omega
    have hLN1 : 1 < L := by omega
    go_upto_region 4 with fail
    have s0 := HW.out.1
    have s1 := HW.out.2
    refine start_ (n := 13) (S := fun w' => w'.cell? ad = some (.int .u8 c0) ∧ w'.cell? ⟨ad.block, ad.off + 1, none⟩ = some (.int .u8 c1)) (ds := []) #[false, false, false, false, false, false, false, false, false, false, false, false, false] (by kernel_rfl) rfl rfl ⟨s0, s1⟩ (fun hHeld => ?_)
    refine pure_ (i := 0) (N := some 16) (v := ?_) (a' := ?_) #[true, false, false, false, false, false, false, false, false, false, false, false, false] rfl rfl (by kernel_rfl) (fun _ _ _ h => h) (Or.inl ⟨by rfl, ?_⟩) ?_ ?_
    rotate_left
    · intro w'
      go_simp
      with_reducible rfl
    rotate_left
    · simp only [Act.put, List.setIfInBounds_toArray, List.set_cons_zero, List.set_cons_succ, i64_w, i32_w]
      rfl
    refine pure_ (i := 1) (N := some 17) (v := ?_) (a' := ?_) #[true, true, false, false, false, false, false, false, false, false, false, false, false] rfl rfl (by kernel_rfl) (fun _ _ _ h => h) (Or.inl ⟨by rfl, ?_⟩) ?_ ?_
    rotate_left
    · intro w'
      go_simp
      with_reducible rfl
    rotate_left
    · simp only [Act.put, List.setIfInBounds_toArray, List.set_cons_zero, List.set_cons_succ, i64_w, i32_w]
      rfl
    refine pure_ (i := 2) (N := some 18) (v := ?_) (a' := ?_) #[true, true, true, false, false, false, false, false, false, false, false, false, false] rfl rfl (by kernel_rfl) (fun _ _ _ h => h) (Or.inl ⟨by rfl, ?_⟩) ?_ ?_
    rotate_left
    · intro w'
      go_simp
      with_reducible rfl
    rotate_left
    · simp only [Act.put, List.setIfInBounds_toArray, List.set_cons_zero, List.set_cons_succ, i64_w, i32_w]
      rfl
    refine pure_ (i := 3) (N := some 19) (v := ?_) (a' := ?_) #[true, true, true, true, false, false, false, false, false, false, false, false, false] rfl rfl (by kernel_rfl) (fun _ _ _ h => h) (Or.inl ⟨by rfl, ?_⟩) ?_ ?_
    rotate_left
    · intro w'
      go_simp
      with_reducible rfl
    rotate_left
    · simp only [Act.put, List.setIfInBounds_toArray, List.set_cons_zero, List.set_cons_succ, i64_w, i32_w]
      rfl
    refine pure_ (i := 4) (N := some 20) (v := ?_) (a' := ?_) #[true, true, true, true, true, false, false, false, false, false, false, false, false] rfl rfl (by kernel_rfl) (fun _ _ _ h => h) (Or.inl ⟨by rfl, ?_⟩) ?_ ?_
    rotate_left
    · intro w'
      go_simp
      with_reducible rfl
    rotate_left
    · simp only [Act.put, List.setIfInBounds_toArray, List.set_cons_zero, List.set_cons_succ, i64_w, i32_w]
      rfl
    refine pure_ (i := 5) (N := some 21) (v := ?_) (a' := ?_) #[true, true, true, true, true, true, false, false, false, false, false, false, false] rfl rfl (by kernel_rfl) (fun _ _ _ h => h) (Or.inl ⟨by rfl, ?_⟩) ?_ ?_
    rotate_left
    · intro w'
      go_simp
      with_reducible rfl
    rotate_left
    · simp only [Act.put, List.setIfInBounds_toArray, List.set_cons_zero, List.set_cons_succ, i64_w, i32_w]
      rfl
    refine pure_ (i := 7) (N := some 23) (v := ?_) (a' := ?_) #[true, true, true, true, true, true, false, true, false, false, false, false, false] rfl rfl (by kernel_rfl) (fun _ _ _ h => h) (Or.inl ⟨by rfl, ?_⟩) ?_ ?_
    rotate_left
    · intro w'
      go_simp
      with_reducible rfl
    rotate_left
    · simp only [Act.put, List.setIfInBounds_toArray, List.set_cons_zero, List.set_cons_succ, i64_w, i32_w]
      rfl
    refine pure_ (i := 8) (N := some 24) (v := ?_) (a' := ?_) #[true, true, true, true, true, true, false, true, true, false, false, false, false] rfl rfl (by kernel_rfl) (fun _ _ _ h => h) (Or.inl ⟨by rfl, ?_⟩) ?_ ?_
    rotate_left
    · intro w'
      go_simp
      with_reducible rfl
    rotate_left
    · simp only [Act.put, List.setIfInBounds_toArray, List.set_cons_zero, List.set_cons_succ, i64_w, i32_w]
      rfl
    refine take_ (i := 6) (N := some 22) (v := ?_) (a' := ?_) #[true, true, true, true, true, true, true, true, true, false, false, false, false] rfl rfl (by kernel_rfl) (fun _ _ _ h => h) (Or.inl ⟨by rfl, ?_⟩) hHeld ?_ ?_
    rotate_left
    · rintro w' ⟨s0, s1⟩
      go_simp
      with_reducible rfl
    rotate_left
    · simp only [Act.put, List.setIfInBounds_toArray, List.set_cons_zero, List.set_cons_succ, i64_w, i32_w]
      rfl
    refine take_ (i := 9) (N := some 25) (v := ?_) (a' := ?_) #[true, true, true, true, true, true, true, true, true, true, false, false, false] rfl rfl (by kernel_rfl) (fun _ _ _ h => h) (Or.inl ⟨by rfl, ?_⟩) hHeld ?_ ?_
    rotate_left
    · rintro w' ⟨s0, s1⟩
      go_simp
      with_reducible rfl
    rotate_left
    · simp only [Act.put, List.setIfInBounds_toArray, List.set_cons_zero, List.set_cons_succ, i64_w, i32_w]
      rfl
    refine one_ (i := 10) (N := some 26) #[true, true, true, true, true, true, true, true, true, true, true, false, false] rfl rfl (by kernel_rfl) (by decide) (fun K hK => ?_)
    refine goes_ Tryd.func47 (by kernel_rfl) rfl #[.int .u8 c0, .int .u8 c1] (by rfl) rfl rfl (by simp only [List.map_toArray, List.map_cons, List.map_nil]; rfl) ?_
    with_reducible refine ((HSC.out w1.drew)).mono ?_
    rintro e w5 ⟨rfl, hb⟩
    refine ⟨_, rfl, ?_⟩
    have HB5 := Aside0.mk (below_kept (below_drew HB.out) hb)
    have t0 := (hb.cell (World.block_lt_of_cell? _ _ s0)).trans s0
    have t1 := (hb.cell (World.block_lt_of_cell? _ _ s1)).trans s1
    clear hb
    refine hK.out _ _ ⟨t0, t1⟩ (fun hHeld => ?_)
    clear hK K
    refine norm_ (a' := ?_) ?_ ?_
    rotate_left
    · show Act.put _ (some 26) _ = _
      simp only [Act.put, List.setIfInBounds_toArray, List.set_cons_zero, List.set_cons_succ, i64_w, i32_w]
      rfl
    refine pure_ (i := 11) (N := some 27) (v := ?_) (a' := ?_) #[true, true, true, true, true, true, true, true, true, true, true, true, false] rfl rfl (by kernel_rfl) (fun _ _ _ h => h) (Or.inl ⟨by rfl, ?_⟩) ?_ ?_
    rotate_left
    · intro w'
      go_simp
      with_reducible rfl
    rotate_left
    · simp only [Act.put, List.setIfInBounds_toArray, List.set_cons_zero, List.set_cons_succ, i64_w, i32_w]
      rfl
    refine pure_ (i := 12) (N := some 28) (v := ?_) (a' := ?_) #[true, true, true, true, true, true, true, true, true, true, true, true, true] rfl rfl (by kernel_rfl) (fun _ _ _ h => h) (Or.inl ⟨by rfl, ?_⟩) ?_ ?_
    rotate_left
    · intro w'
      go_simp
      with_reducible rfl
    rotate_left
    · simp only [Act.put, List.setIfInBounds_toArray, List.set_cons_zero, List.set_cons_succ, i64_w, i32_w]
      rfl
    refine done_ (by kernel_rfl) ?_
    clear s0 s1 hHeld
    cases SB
    · go_wp2
      go_ret
      exact ⟨by rw [HR.out, H1.out, Bool.not_true, Bool.false_or, Bool.false_and, Bool.and_false]; rfl, HB5.out⟩
    · by_cases h3 : L < 3
      · have h3I : (L : Int) < 3 := by omega
        have H3 := Aside0.mk h3
        clear h3
        go_wp2
        go_ret
        exact ⟨by rw [HR.out, HZ.out, HX.out, H1.out, decide_eq_true H3.out]; rfl, HB5.out⟩
      · obtain ⟨ad', e', hc2⟩ := HB2.out (by omega)
        cases e'
        have hc2' := (HB5.out.cell (World.block_lt_of_cell? w _ hc2)).trans hc2
        have h3I : decide ((L : Int) < 3) = false := decide_eq_false (by omega)
        have h3J : (3 : Int) ≤ L := by omega
        have H3 := Aside0.mk h3
        clear h3 hc2
        by_cases h4 : 128 ≤ c2
        · have h4I : (128 : Int) ≤ c2 := by omega
          by_cases h5 : c2 ≤ 191
          · have h5I : (c2 : Int) ≤ 191 := by omega
            have H45 := Aside0.mk (And.intro h4 h5)
            clear h4 h5
            go_wp2
            go_ret
            exact ⟨by rw [HR.out, HZ.out, HX.out, H1.out, decide_eq_false H3.out, decide_eq_true H45.out.1, decide_eq_true H45.out.2]; rfl, HB5.out⟩
          · have h5I : decide ((c2 : Int) ≤ 191) = false := decide_eq_false (by omega)
            have h5J : (191 : Int) < c2 := by omega
            have H45 := Aside0.mk (show 128 ≤ c2 ∧ 191 < c2 from ⟨h4, by omega⟩)
            clear h4 h5
            go_wp2
            go_ret
            exact ⟨by rw [HR.out, HZ.out, HX.out, H1.out, decide_eq_false H3.out, decide_eq_true H45.out.1, decide_eq_false (show ¬ c2 ≤ 191 by have := H45.out.2; omega)]; rfl, HB5.out⟩
        · have h4I : decide ((128 : Int) ≤ c2) = false := decide_eq_false (by omega)
          have h4J : (c2 : Int) < 128 := by omega
          have H4 := Aside0.mk (show c2 < 128 by omega)
          clear h4
          go_wp2
          go_ret
          exact ⟨by rw [HR.out, HZ.out, HX.out, H1.out, decide_eq_false H3.out, decide_eq_false (show ¬ 128 ≤ c2 by have := H4.out; omega)]; rfl, HB5.out⟩
  · obtain rfl : L = 1 := by have := HN1.out; omega
    clear h1
    go_upto_region 4 with fail
    refine start_ (n := 13) (S := fun w' => True) (ds := []) #[false, false, false, false, false, false, false, false, false, false, false, false, false] (by kernel_rfl) rfl rfl trivial (fun hHeld => ?_)
    refine pure_ (i := 0) (N := some 16) (v := ?_) (a' := ?_) #[true, false, false, false, false, false, false, false, false, false, false, false, false] rfl rfl (by kernel_rfl) (fun _ _ _ h => h) (Or.inl ⟨by rfl, ?_⟩) ?_ ?_
    rotate_left
    · intro w'
      go_simp
      with_reducible rfl
    rotate_left
    · simp only [Act.put, List.setIfInBounds_toArray, List.set_cons_zero, List.set_cons_succ, i64_w, i32_w]
      rfl
    refine pure_ (i := 1) (N := some 17) (v := ?_) (a' := ?_) #[true, true, false, false, false, false, false, false, false, false, false, false, false] rfl rfl (by kernel_rfl) (fun _ _ _ h => h) (Or.inl ⟨by rfl, ?_⟩) ?_ ?_
    rotate_left
    · intro w'
      go_simp
      with_reducible rfl
    rotate_left
    · simp only [Act.put, List.setIfInBounds_toArray, List.set_cons_zero, List.set_cons_succ, i64_w, i32_w]
      rfl
    refine pure_ (i := 2) (N := some 18) (v := ?_) (a' := ?_) #[true, true, true, false, false, false, false, false, false, false, false, false, false] rfl rfl (by kernel_rfl) (fun _ _ _ h => h) (Or.inl ⟨by rfl, ?_⟩) ?_ ?_
    rotate_left
    · intro w'
      go_simp
      with_reducible rfl
    rotate_left
    · simp only [Act.put, List.setIfInBounds_toArray, List.set_cons_zero, List.set_cons_succ, i64_w, i32_w]
      rfl
    refine pure_ (i := 3) (N := some 19) (v := ?_) (a' := ?_) #[true, true, true, true, false, false, false, false, false, false, false, false, false] rfl rfl (by kernel_rfl) (fun _ _ _ h => h) (Or.inl ⟨by rfl, ?_⟩) ?_ ?_
    rotate_left
    · intro w'
      go_simp
      with_reducible rfl
    rotate_left
    · simp only [Act.put, List.setIfInBounds_toArray, List.set_cons_zero, List.set_cons_succ, i64_w, i32_w]
      rfl
    refine pure_ (i := 4) (N := some 20) (v := undef) (a' := ?_) #[true, true, true, true, true, false, false, false, false, false, false, false, false] rfl rfl (by kernel_rfl) (fun _ _ _ h => h) (Or.inr ⟨by rfl, rfl⟩) ?_ ?_
    rotate_left
    · simp only [Act.put, List.setIfInBounds_toArray, List.set_cons_zero, List.set_cons_succ, i64_w, i32_w]
      rfl
    refine pure_ (i := 5) (N := some 21) (v := undef) (a' := ?_) #[true, true, true, true, true, true, false, false, false, false, false, false, false] rfl rfl (by kernel_rfl) (fun _ _ _ h => h) (Or.inr ⟨by rfl, rfl⟩) ?_ ?_
    rotate_left
    · simp only [Act.put, List.setIfInBounds_toArray, List.set_cons_zero, List.set_cons_succ, i64_w, i32_w]
      rfl
    refine pure_ (i := 6) (N := some 22) (v := undef) (a' := ?_) #[true, true, true, true, true, true, true, false, false, false, false, false, false] rfl rfl (by kernel_rfl) (fun _ _ _ h => h) (Or.inr ⟨by rfl, rfl⟩) ?_ ?_
    rotate_left
    · simp only [Act.put, List.setIfInBounds_toArray, List.set_cons_zero, List.set_cons_succ, i64_w, i32_w]
      rfl
    refine pure_ (i := 7) (N := some 23) (v := undef) (a' := ?_) #[true, true, true, true, true, true, true, true, false, false, false, false, false] rfl rfl (by kernel_rfl) (fun _ _ _ h => h) (Or.inr ⟨by rfl, rfl⟩) ?_ ?_
    rotate_left
    · simp only [Act.put, List.setIfInBounds_toArray, List.set_cons_zero, List.set_cons_succ, i64_w, i32_w]
      rfl
    refine pure_ (i := 8) (N := some 24) (v := undef) (a' := ?_) #[true, true, true, true, true, true, true, true, true, false, false, false, false] rfl rfl (by kernel_rfl) (fun _ _ _ h => h) (Or.inr ⟨by rfl, rfl⟩) ?_ ?_
    rotate_left
    · simp only [Act.put, List.setIfInBounds_toArray, List.set_cons_zero, List.set_cons_succ, i64_w, i32_w]
      rfl
    refine pure_ (i := 9) (N := some 25) (v := undef) (a' := ?_) #[true, true, true, true, true, true, true, true, true, true, false, false, false] rfl rfl (by kernel_rfl) (fun _ _ _ h => h) (Or.inr ⟨by rfl, rfl⟩) ?_ ?_
    rotate_left
    · simp only [Act.put, List.setIfInBounds_toArray, List.set_cons_zero, List.set_cons_succ, i64_w, i32_w]
      rfl
    refine pure_ (i := 10) (N := some 26) (v := undef) (a' := ?_) #[true, true, true, true, true, true, true, true, true, true, true, false, false] rfl rfl (by kernel_rfl) (fun _ _ _ h => h) (Or.inr ⟨by rfl, rfl⟩) ?_ ?_
    rotate_left
    · simp only [Act.put, List.setIfInBounds_toArray, List.set_cons_zero, List.set_cons_succ, i64_w, i32_w]
      rfl
    refine pure_ (i := 11) (N := some 27) (v := undef) (a' := ?_) #[true, true, true, true, true, true, true, true, true, true, true, true, false] rfl rfl (by kernel_rfl) (fun _ _ _ h => h) (Or.inr ⟨by rfl, rfl⟩) ?_ ?_
    rotate_left
    · simp only [Act.put, List.setIfInBounds_toArray, List.set_cons_zero, List.set_cons_succ, i64_w, i32_w]
      rfl
    refine pure_ (i := 12) (N := some 28) (v := ?_) (a' := ?_) #[true, true, true, true, true, true, true, true, true, true, true, true, true] rfl rfl (by kernel_rfl) (fun _ _ _ h => h) (Or.inl ⟨by rfl, ?_⟩) ?_ ?_
    rotate_left
    · intro w'
      go_simp
      with_reducible rfl
    rotate_left
    · simp only [Act.put, List.setIfInBounds_toArray, List.set_cons_zero, List.set_cons_succ, i64_w, i32_w]
      rfl
    refine done_ (by kernel_rfl) ?_
    go_wp2
    go_ret
    exact ⟨by rw [HR.out, HZ.out, HX.out]; rfl, below_drew HB.out⟩
end Go.Proofs.YtkdkajcokoggiaaDoor.VtRefU
/- The reference's whole, as a contract. -/
namespace Go.Proofs.YtkdkajcokoggiaaDoor.VtRefW
open Go.RowKit Go.Proofs.YtkdkajcokoggiaaDoor.Kit Go.Proofs.YtkdkajcokoggiaaDoor.Plain Go.Proofs.YtkdkajcokoggiaaDoor.Mine Go.Proofs.YtkdkajcokoggiaaDoor.UtfPure Go.Proofs.YtkdkajcokoggiaaDoor.UtfFull Go.Proofs.YtkdkajcokoggiaaDoor.UtfFeed Go.Proofs.YtkdkajcokoggiaaDoor.VtPure Go.Proofs.YtkdkajcokoggiaaDoor.VtSmall Go.Proofs.YtkdkajcokoggiaaDoor.VtRefP Go.Proofs.YtkdkajcokoggiaaDoor.VtRefU Go.Proofs.YtkdkajcokoggiaaDoorW.PrintWords Go.Proofs.YtkdkajcokoggiaaDoorW.PrintLast Go.Proofs.YtkdkajcokoggiaaDoorW.PrintMore
set_option linter.unusedVariables false
set_option linter.unusedSimpArgs false
/-- A rune's value, so far. -/
def accR (f : Nat → Nat) (r0 : Nat) : Nat → Nat
  | 0 => r0
  | 1 => r0
  | (i + 2) => accR f r0 (i + 1) * 64 + f (i + 1) % 64
theorem acc_step (f : Nat → Nat) (r0 i : Nat) (h : 1 ≤ i) : accR f r0 (i + 1) = accR f r0 i * 64 + f i % 64 := by
  obtain ⟨j, rfl⟩ : ∃ j, i = j + 1 := ⟨i - 1, by omega⟩
  rfl
theorem lo_128 (c : Nat) : 128 ≤ loN c := by unfold loN; (repeat' split) <;> omega
theorem hi_191 (c : Nat) : hiN c ≤ 191 := by unfold hiN; (repeat' split) <;> omega
theorem sec_range {a b : Nat} (h : secondB a b = true) : 128 ≤ b ∧ b ≤ 191 := by
  unfold secondB at h
  rw [Bool.and_eq_true] at h
  have h1 := of_decide_eq_true h.1
  have h2 := of_decide_eq_true h.2
  have := lo_128 a
  have := hi_191 a
  omega
theorem whole_none {f : Nat → Nat} (hs : secondB (f 0) (f 1) = true) (j : Nat) (h1 : 1 ≤ j) (hj : j < needN (f 0)) (hb : f j < 128 ∨ 191 < f j) : wholeN (f 0) (f 1) (f 2) (f 3) = none := by
  have hr := sec_range hs
  have h4 := need_le (f 0)
  unfold wholeN
  rw [if_neg (by rw [hs]; simp)]
  rcases (show j = 1 ∨ j = 2 ∨ j = 3 by omega) with rfl | rfl | rfl
  · omega
  · rw [if_neg (by omega), if_pos hb]
  · rw [if_neg (by omega)]
    by_cases h2 : f 2 < 128 ∨ 191 < f 2
    · rw [if_pos h2]
    · rw [if_neg h2, if_neg (by omega), if_pos hb]
theorem whole_some {f : Nat → Nat} {N m : Nat} (hs : secondB (f 0) (f 1) = true) (hN : needN (f 0) = N) (hm : (N = 2 ∧ m = 32) ∨ (N = 3 ∧ m = 16) ∨ (N = 4 ∧ m = 8)) (hb : ∀ j, 1 ≤ j → j < N → 128 ≤ f j ∧ f j ≤ 191) : wholeN (f 0) (f 1) (f 2) (f 3) = some (accR f (f 0 % m) N) := by
  unfold wholeN
  rw [if_neg (by rw [hs]; simp)]
  rcases hm with ⟨rfl, rfl⟩ | ⟨rfl, rfl⟩ | ⟨rfl, rfl⟩
  · rw [if_pos hN]; rfl
  · have h2 := hb 2 (by omega) (by omega)
    rw [if_neg (by omega), if_neg (by omega), if_pos hN]
    congr 1
    show _ = (f 0 % 16 * 64 + f 1 % 64) * 64 + f 2 % 64
    omega
  · have h2 := hb 2 (by omega) (by omega)
    have h3 := hb 3 (by omega) (by omega)
    rw [if_neg (by omega), if_neg (by omega), if_neg (by omega), if_neg (by omega)]
    congr 1
    show _ = ((f 0 % 8 * 64 + f 1 % 64) * 64 + f 2 % 64) * 64 + f 3 % 64
    omega
theorem and_32 : ∀ c < 256, Go.bits .and .i32 ((c : Nat) : Int) 31 = ((c % 32 : Nat) : Int) := by decide +kernel
theorem and_16 : ∀ c < 256, Go.bits .and .i32 ((c : Nat) : Int) 15 = ((c % 16 : Nat) : Int) := by decide +kernel
theorem and_8 : ∀ c < 256, Go.bits .and .i32 ((c : Nat) : Int) 7 = ((c % 8 : Nat) : Int) := by decide +kernel
def wres (o : Option Nat) : Value := match o with | some r => .tuple #[.int .i32 (r : Int), .bool true] | none => .tuple #[.int .i32 0, .bool false]
set_option maxHeartbeats 3200000 in
set_option maxRecDepth 100000 in
theorem whole_2 (A : Option Addr) (cp : Nat) (l : List Int) (w : World) (hr : Kd.C (Kd.int .u8) w A l.length l) (hb : Bytes l) (hN : needN (bya l 0) = 2) (hl : l.length = 2) :
    Calls Tryd.prog 45 #[.slice A 2 cp] w fun e w' => e = .returned (wres (wholeN (bya l 0) (bya l 1) (bya l 2) (bya l 3))) ∧ Below w.heap.size w w' := by
  obtain ⟨ad, rfl, hc0'⟩ := at_byte hr hb 0 (by omega)
  have hc0 : w.cell? ad = some (.int .u8 (bya l 0 : Int)) := hc0'
  clear hc0'
  obtain ⟨ad', e', hc1⟩ := at_byte1 hr hb 1 (by omega) (by omega)
  cases e'
  have HCI := Aside0.mk (fun i h => at_byte hr hb i (by rw [hl]; exact h))
  have HLT := Aside0.mk (bya_lt hb)
  have HND := Aside0.mk (need_c (bya l 0) (bya_lt hb 0))
  have HSC := Aside0.mk (second_c (bya l 0) (bya l 1) (bya_lt hb 0) (bya_lt hb 1))
  obtain ⟨f, hf⟩ : ∃ f, f = bya l := ⟨_, rfl⟩
  rw [← hf] at hc0 hc1 HCI HND HSC HLT hN ⊢
  rw [hN] at HND
  obtain ⟨SB, hSB⟩ : ∃ N, N = secondB (f 0) (f 1) := ⟨_, rfl⟩
  rw [← hSB] at HSC
  have HSB := Aside0.mk hSB
  have HN := Aside0.mk hN
  obtain ⟨o, ho⟩ : ∃ o, o = wholeN (f 0) (f 1) (f 2) (f 3) := ⟨_, rfl⟩
  rw [← ho]
  have HO := Aside0.mk ho
  obtain ⟨c0, hcc⟩ : ∃ c, c = f 0 := ⟨_, rfl⟩
  obtain ⟨c1, hcc1⟩ : ∃ c, c = f 1 := ⟨_, rfl⟩
  have hq0 : (f 0 : Int) < 256 := by have := HLT.out 0; omega
  rw [← hcc] at hc0 HND HSC hq0
  rw [← hcc1] at hc1 HSC
  have HCC := Aside0.mk hcc
  clear hr hb hN hl hf hSB ho hcc hcc1
  go_enter Tryd.func45, Tryd.ntmps45
  go_wp2_with fail
  refine (HND.out w).mono ?_
  rintro e w1 ⟨rfl, hb⟩
  have HB := Aside0.mk hb
  have s0 : w1.drew.cell? ad = some (.int .u8 (c0 : Int)) := (hb.cell (World.block_lt_of_cell? w _ hc0)).trans hc0
  have s1 : w1.drew.cell? ⟨ad.block, ad.off + 1, none⟩ = some (.int .u8 (c1 : Int)) := (hb.cell (World.block_lt_of_cell? w _ hc1)).trans hc1
  clear hb hc0 hc1
  go_upto_region 2 with fail
  refine start_ (n := 18) (S := fun w' => w'.cell? ad = some (.int .u8 c0) ∧ w'.cell? ⟨ad.block, ad.off + 1, none⟩ = some (.int .u8 c1)) (ds := []) #[false, false, false, false, false, false, false, false, false, false, false, false, false, false, false, false, false, false] (by kernel_rfl) rfl rfl ⟨s0, s1⟩ (fun hHeld => ?_)
  refine pure_ (i := 0) (N := some 11) (v := ?_) (a' := ?_) #[true, false, false, false, false, false, false, false, false, false, false, false, false, false, false, false, false, false] rfl rfl (by kernel_rfl) (fun _ _ _ h => h) (Or.inl ⟨by rfl, ?_⟩) ?_ ?_
  rotate_left
  · intro w'
    go_simp
    with_reducible rfl
  rotate_left
  · simp only [Act.put, List.setIfInBounds_toArray, List.set_cons_zero, List.set_cons_succ, i64_w, i32_w]
    rfl
  refine pure_ (i := 1) (N := some 12) (v := ?_) (a' := ?_) #[true, true, false, false, false, false, false, false, false, false, false, false, false, false, false, false, false, false] rfl rfl (by kernel_rfl) (fun _ _ _ h => h) (Or.inl ⟨by rfl, ?_⟩) ?_ ?_
  rotate_left
  · intro w'
    go_simp
    with_reducible rfl
  rotate_left
  · simp only [Act.put, List.setIfInBounds_toArray, List.set_cons_zero, List.set_cons_succ, i64_w, i32_w]
    rfl
  refine pure_ (i := 2) (N := some 13) (v := ?_) (a' := ?_) #[true, true, true, false, false, false, false, false, false, false, false, false, false, false, false, false, false, false] rfl rfl (by kernel_rfl) (fun _ _ _ h => h) (Or.inl ⟨by rfl, ?_⟩) ?_ ?_
  rotate_left
  · intro w'
    go_simp
    with_reducible rfl
  rotate_left
  · simp only [Act.put, List.setIfInBounds_toArray, List.set_cons_zero, List.set_cons_succ, i64_w, i32_w]
    rfl
  refine pure_ (i := 3) (N := some 14) (v := ?_) (a' := ?_) #[true, true, true, true, false, false, false, false, false, false, false, false, false, false, false, false, false, false] rfl rfl (by kernel_rfl) (fun _ _ _ h => h) (Or.inl ⟨by rfl, ?_⟩) ?_ ?_
  rotate_left
  · intro w'
    go_simp
    with_reducible rfl
  rotate_left
  · simp only [Act.put, List.setIfInBounds_toArray, List.set_cons_zero, List.set_cons_succ, i64_w, i32_w]
    rfl
  refine pure_ (i := 4) (N := some 15) (v := ?_) (a' := ?_) #[true, true, true, true, true, false, false, false, false, false, false, false, false, false, false, false, false, false] rfl rfl (by kernel_rfl) (fun _ _ _ h => h) (Or.inl ⟨by rfl, ?_⟩) ?_ ?_
  rotate_left
  · intro w'
    go_simp
    with_reducible rfl
  rotate_left
  · simp only [Act.put, List.setIfInBounds_toArray, List.set_cons_zero, List.set_cons_succ, i64_w, i32_w]
    rfl
  refine pure_ (i := 5) (N := some 16) (v := ?_) (a' := ?_) #[true, true, true, true, true, true, false, false, false, false, false, false, false, false, false, false, false, false] rfl rfl (by kernel_rfl) (fun _ _ _ h => h) (Or.inl ⟨by rfl, ?_⟩) ?_ ?_
  rotate_left
  · intro w'
    go_simp
    with_reducible rfl
  rotate_left
  · simp only [Act.put, List.setIfInBounds_toArray, List.set_cons_zero, List.set_cons_succ, i64_w, i32_w]
    rfl
  refine pure_ (i := 6) (N := some 17) (v := ?_) (a' := ?_) #[true, true, true, true, true, true, true, false, false, false, false, false, false, false, false, false, false, false] rfl rfl (by kernel_rfl) (fun _ _ _ h => h) (Or.inl ⟨by rfl, ?_⟩) ?_ ?_
  rotate_left
  · intro w'
    go_simp
    with_reducible rfl
  rotate_left
  · simp only [Act.put, List.setIfInBounds_toArray, List.set_cons_zero, List.set_cons_succ, i64_w, i32_w]
    rfl
  refine pure_ (i := 7) (N := some 18) (v := ?_) (a' := ?_) #[true, true, true, true, true, true, true, true, false, false, false, false, false, false, false, false, false, false] rfl rfl (by kernel_rfl) (fun _ _ _ h => h) (Or.inl ⟨by rfl, ?_⟩) ?_ ?_
  rotate_left
  · intro w'
    go_simp
    with_reducible rfl
  rotate_left
  · simp only [Act.put, List.setIfInBounds_toArray, List.set_cons_zero, List.set_cons_succ, i64_w, i32_w]
    rfl
  refine pure_ (i := 8) (N := some 19) (v := ?_) (a' := ?_) #[true, true, true, true, true, true, true, true, true, false, false, false, false, false, false, false, false, false] rfl rfl (by kernel_rfl) (fun _ _ _ h => h) (Or.inl ⟨by rfl, ?_⟩) ?_ ?_
  rotate_left
  · intro w'
    go_simp
    with_reducible rfl
  rotate_left
  · simp only [Act.put, List.setIfInBounds_toArray, List.set_cons_zero, List.set_cons_succ, i64_w, i32_w]
    rfl
  refine pure_ (i := 9) (N := some 20) (v := ?_) (a' := ?_) #[true, true, true, true, true, true, true, true, true, true, false, false, false, false, false, false, false, false] rfl rfl (by kernel_rfl) (fun _ _ _ h => h) (Or.inl ⟨by rfl, ?_⟩) ?_ ?_
  rotate_left
  · intro w'
    go_simp
    with_reducible rfl
  rotate_left
  · simp only [Act.put, List.setIfInBounds_toArray, List.set_cons_zero, List.set_cons_succ, i64_w, i32_w]
    rfl
  refine pure_ (i := 10) (N := some 21) (v := ?_) (a' := ?_) #[true, true, true, true, true, true, true, true, true, true, true, false, false, false, false, false, false, false] rfl rfl (by kernel_rfl) (fun _ _ _ h => h) (Or.inl ⟨by rfl, ?_⟩) ?_ ?_
  rotate_left
  · intro w'
    go_simp
    with_reducible rfl
  rotate_left
  · simp only [Act.put, List.setIfInBounds_toArray, List.set_cons_zero, List.set_cons_succ, i64_w, i32_w]
    rfl
  refine pure_ (i := 12) (N := some 23) (v := ?_) (a' := ?_) #[true, true, true, true, true, true, true, true, true, true, true, false, true, false, false, false, false, false] rfl rfl (by kernel_rfl) (fun _ _ _ h => h) (Or.inl ⟨by rfl, ?_⟩) ?_ ?_
  rotate_left
  · intro w'
    go_simp
    with_reducible rfl
  rotate_left
  · simp only [Act.put, List.setIfInBounds_toArray, List.set_cons_zero, List.set_cons_succ, i64_w, i32_w]
    rfl
  refine pure_ (i := 13) (N := some 24) (v := ?_) (a' := ?_) #[true, true, true, true, true, true, true, true, true, true, true, false, true, true, false, false, false, false] rfl rfl (by kernel_rfl) (fun _ _ _ h => h) (Or.inl ⟨by rfl, ?_⟩) ?_ ?_
  rotate_left
  · intro w'
    go_simp
    with_reducible rfl
  rotate_left
  · simp only [Act.put, List.setIfInBounds_toArray, List.set_cons_zero, List.set_cons_succ, i64_w, i32_w]
    rfl
  refine take_ (i := 11) (N := some 22) (v := ?_) (a' := ?_) #[true, true, true, true, true, true, true, true, true, true, true, true, true, true, false, false, false, false] rfl rfl (by kernel_rfl) (fun _ _ _ h => h) (Or.inl ⟨by rfl, ?_⟩) hHeld ?_ ?_
  rotate_left
  · rintro w' ⟨s0, s1⟩
    go_simp
    with_reducible rfl
  rotate_left
  · simp only [Act.put, List.setIfInBounds_toArray, List.set_cons_zero, List.set_cons_succ, i64_w, i32_w]
    rfl
  refine take_ (i := 14) (N := some 25) (v := ?_) (a' := ?_) #[true, true, true, true, true, true, true, true, true, true, true, true, true, true, true, false, false, false] rfl rfl (by kernel_rfl) (fun _ _ _ h => h) (Or.inl ⟨by rfl, ?_⟩) hHeld ?_ ?_
  rotate_left
  · rintro w' ⟨s0, s1⟩
    go_simp
    with_reducible rfl
  rotate_left
  · simp only [Act.put, List.setIfInBounds_toArray, List.set_cons_zero, List.set_cons_succ, i64_w, i32_w]
    rfl
  refine one_ (i := 15) (N := some 26) #[true, true, true, true, true, true, true, true, true, true, true, true, true, true, true, true, false, false] rfl rfl (by kernel_rfl) (by decide) (fun K hK => ?_)
  refine goes_ Tryd.func47 (by kernel_rfl) rfl #[.int .u8 c0, .int .u8 c1] (by rfl) rfl rfl (by simp only [List.map_toArray, List.map_cons, List.map_nil]; rfl) ?_
  with_reducible refine ((HSC.out w1.drew)).mono ?_
  rintro e w5 ⟨rfl, hb⟩
  refine ⟨_, rfl, ?_⟩
  have HB5 := Aside0.mk (below_kept (below_drew HB.out) hb)
  have t0 := (hb.cell (World.block_lt_of_cell? _ _ s0)).trans s0
  have t1 := (hb.cell (World.block_lt_of_cell? _ _ s1)).trans s1
  clear hb
  refine hK.out _ _ ⟨t0, t1⟩ (fun hHeld => ?_)
  clear hK K
  refine norm_ (a' := ?_) ?_ ?_
  rotate_left
  · show Act.put _ (some 26) _ = _
    simp only [Act.put, List.setIfInBounds_toArray, List.set_cons_zero, List.set_cons_succ, i64_w, i32_w]
    rfl
  refine pure_ (i := 16) (N := some 27) (v := ?_) (a' := ?_) #[true, true, true, true, true, true, true, true, true, true, true, true, true, true, true, true, true, false] rfl rfl (by kernel_rfl) (fun _ _ _ h => h) (Or.inl ⟨by rfl, ?_⟩) ?_ ?_
  rotate_left
  · intro w'
    go_simp
    with_reducible rfl
  rotate_left
  · simp only [Act.put, List.setIfInBounds_toArray, List.set_cons_zero, List.set_cons_succ, i64_w, i32_w]
    rfl
  refine pure_ (i := 17) (N := some 28) (v := ?_) (a' := ?_) #[true, true, true, true, true, true, true, true, true, true, true, true, true, true, true, true, true, true] rfl rfl (by kernel_rfl) (fun _ _ _ h => h) (Or.inl ⟨by rfl, ?_⟩) ?_ ?_
  rotate_left
  · intro w'
    go_simp
    with_reducible rfl
  rotate_left
  · simp only [Act.put, List.setIfInBounds_toArray, List.set_cons_zero, List.set_cons_succ, i64_w, i32_w]
    rfl
  refine done_ (by kernel_rfl) ?_
  clear s0 s1 hHeld
  cases SB
  · go_wp2
    go_ret2
    exact ⟨by rw [HO.out, wholeN, if_pos HSB.out.symm]; rfl, HB5.out⟩
  · have hbit := and_32 c0 (by omega)
    obtain ⟨r0, hr0⟩ : ∃ r0, r0 = c0 % 32 := ⟨_, rfl⟩
    rw [← hr0] at hbit
    have HR0 := Aside0.mk hr0
    have hr0b : (r0 : Int) < 32 := by omega
    clear hr0
    go_wp2_with fail
    go_loopg [5, 6] 1 (fun gk v5 v6 W => ∃ (i acc : Nat), v6 = .int .i64 (i : Int) ∧ v5 = .int .i32 (acc : Int) ∧ Aside0 (gk + i = 2 ∧ 1 ≤ i) ∧ Aside0 (acc = accR f (f 0 % 32) i) ∧ Aside0 (acc < 32 * 64 ^ (i - 1)) ∧ Aside0 (∀ j, 1 ≤ j → j < i → 128 ≤ f j ∧ f j ≤ 191) ∧ W = w5)
    case atStart => exact ⟨1, r0, rfl, rfl, ⟨⟨by omega, by omega⟩⟩, ⟨by rw [HR0.out, HCC.out]; rfl⟩, ⟨by show r0 < 32 * 1; omega⟩, ⟨fun j h1 h2 => by omega⟩, rfl⟩
    case round =>
      obtain ⟨i, acc, rfl, rfl, HG, HAC, HBD, HJ, hW⟩ := hrel
      subst hW
      have hgi := HG.out
      by_cases hi : i < 2
      · obtain ⟨g0, rfl⟩ : ∃ g0, gk = g0 + 1 := ⟨gk - 1, by omega⟩
        obtain ⟨ad', e', hci⟩ := HCI.out i hi
        cases e'
        have hc := (HB5.out.cell (World.block_lt_of_cell? w _ hci)).trans hci
        obtain ⟨x, hx⟩ : ∃ x, x = f i := ⟨_, rfl⟩
        rw [← hx] at hc
        have HX := Aside0.mk hx
        have hx256 : (x : Int) < 256 := by have := HLT.out i; omega
        have hacc : (acc : Int) ≤ 32767 := by
          have h := HBD.out
          have h2 := hgi.2
          rcases (show i = 1 ∨ i = 2 ∨ i = 3 by omega) with rfl | rfl | rfl <;> simp at h <;> omega
        have hil : (i : Int) < 2 := by omega
        have HI := Aside0.mk hi
        clear hx hgi hi hci
        by_cases h1 : x < 128
        · have h1I : (x : Int) < 128 := by omega
          have H1 := Aside0.mk h1
          clear h1
          go_wp2
          go_ret2
          exact ⟨by rw [HO.out, whole_none HSB.out.symm i HG.out.2 (by rw [HN.out]; exact HI.out) (.inl (by rw [← HX.out]; exact H1.out))]; rfl, HB5.out⟩
        · by_cases h2 : 191 < x
          · have h1I : (128 : Int) ≤ x := by omega
            have h2I : (191 : Int) < x := by omega
            have H2 := Aside0.mk h2
            clear h1 h2
            go_wp2
            go_ret2
            exact ⟨by rw [HO.out, whole_none HSB.out.symm i HG.out.2 (by rw [HN.out]; exact HI.out) (.inr (by rw [← HX.out]; exact H2.out))]; rfl, HB5.out⟩
          · have h1I : (128 : Int) ≤ x := by omega
            have h2I : (x : Int) ≤ 191 := by omega
            have H12 := Aside0.mk (show 128 ≤ x ∧ x ≤ 191 from ⟨by omega, by omega⟩)
            clear h1 h2
            go_wp2_with fail
            go_roundg g0
            case measure => omega
            case rel =>
              have hst := acc_step f (f 0 % 32) i HG.out.2
              rw [← HAC.out, ← HX.out] at hst
              exact ⟨i + 1, acc * 64 + x % 64, by first | rfl | go_num | (congr 1; omega), by first | rfl | (congr 1; omega), ⟨⟨by have := HG.out.1; omega, by omega⟩⟩, ⟨hst.symm⟩, ⟨by
                have h := HBD.out
                have h2 := HG.out
                rcases (show i = 1 ∨ i = 2 ∨ i = 3 by omega) with rfl | rfl | rfl <;> simp at h ⊢ <;> omega⟩, ⟨fun j h1 h2 => by
                rcases Nat.lt_or_ge j i with h | h
                · exact HJ.out j h1 h
                · obtain rfl : j = i := by omega
                  rw [← HX.out]; exact H12.out⟩, rfl⟩
      · have hil : (2 : Int) ≤ i := by omega
        clear hgi hi
        go_wp2
        go_ret2
        obtain rfl : i = 2 := by have := HG.out; omega
        exact ⟨by rw [HO.out, whole_some (m := 32) HSB.out.symm HN.out (by decide) HJ.out, ← HAC.out]; rfl, HB5.out⟩
set_option maxHeartbeats 3200000 in
set_option maxRecDepth 100000 in
theorem whole_3 (A : Option Addr) (cp : Nat) (l : List Int) (w : World) (hr : Kd.C (Kd.int .u8) w A l.length l) (hb : Bytes l) (hN : needN (bya l 0) = 3) (hl : l.length = 3) :
    Calls Tryd.prog 45 #[.slice A 3 cp] w fun e w' => e = .returned (wres (wholeN (bya l 0) (bya l 1) (bya l 2) (bya l 3))) ∧ Below w.heap.size w w' := by
  obtain ⟨ad, rfl, hc0'⟩ := at_byte hr hb 0 (by omega)
  have hc0 : w.cell? ad = some (.int .u8 (bya l 0 : Int)) := hc0'
  clear hc0'
  obtain ⟨ad', e', hc1⟩ := at_byte1 hr hb 1 (by omega) (by omega)
  cases e'
  have HCI := Aside0.mk (fun i h => at_byte hr hb i (by rw [hl]; exact h))
  have HLT := Aside0.mk (bya_lt hb)
  have HND := Aside0.mk (need_c (bya l 0) (bya_lt hb 0))
  have HSC := Aside0.mk (second_c (bya l 0) (bya l 1) (bya_lt hb 0) (bya_lt hb 1))
  obtain ⟨f, hf⟩ : ∃ f, f = bya l := ⟨_, rfl⟩
  rw [← hf] at hc0 hc1 HCI HND HSC HLT hN ⊢
  rw [hN] at HND
  obtain ⟨SB, hSB⟩ : ∃ N, N = secondB (f 0) (f 1) := ⟨_, rfl⟩
  rw [← hSB] at HSC
  have HSB := Aside0.mk hSB
  have HN := Aside0.mk hN
  obtain ⟨o, ho⟩ : ∃ o, o = wholeN (f 0) (f 1) (f 2) (f 3) := ⟨_, rfl⟩
  rw [← ho]
  have HO := Aside0.mk ho
  obtain ⟨c0, hcc⟩ : ∃ c, c = f 0 := ⟨_, rfl⟩
  obtain ⟨c1, hcc1⟩ : ∃ c, c = f 1 := ⟨_, rfl⟩
  have hq0 : (f 0 : Int) < 256 := by have := HLT.out 0; omega
  rw [← hcc] at hc0 HND HSC hq0
  rw [← hcc1] at hc1 HSC
  have HCC := Aside0.mk hcc
  clear hr hb hN hl hf hSB ho hcc hcc1
  go_enter Tryd.func45, Tryd.ntmps45
  go_wp2_with fail
  refine (HND.out w).mono ?_
  rintro e w1 ⟨rfl, hb⟩
  have HB := Aside0.mk hb
  have s0 : w1.drew.cell? ad = some (.int .u8 (c0 : Int)) := (hb.cell (World.block_lt_of_cell? w _ hc0)).trans hc0
  have s1 : w1.drew.cell? ⟨ad.block, ad.off + 1, none⟩ = some (.int .u8 (c1 : Int)) := (hb.cell (World.block_lt_of_cell? w _ hc1)).trans hc1
  clear hb hc0 hc1
  go_upto_region 2 with fail
  refine start_ (n := 18) (S := fun w' => w'.cell? ad = some (.int .u8 c0) ∧ w'.cell? ⟨ad.block, ad.off + 1, none⟩ = some (.int .u8 c1)) (ds := []) #[false, false, false, false, false, false, false, false, false, false, false, false, false, false, false, false, false, false] (by kernel_rfl) rfl rfl ⟨s0, s1⟩ (fun hHeld => ?_)
  refine pure_ (i := 0) (N := some 11) (v := ?_) (a' := ?_) #[true, false, false, false, false, false, false, false, false, false, false, false, false, false, false, false, false, false] rfl rfl (by kernel_rfl) (fun _ _ _ h => h) (Or.inl ⟨by rfl, ?_⟩) ?_ ?_
  rotate_left
  · intro w'
    go_simp
    with_reducible rfl
  rotate_left
  · simp only [Act.put, List.setIfInBounds_toArray, List.set_cons_zero, List.set_cons_succ, i64_w, i32_w]
    rfl
  refine pure_ (i := 1) (N := some 12) (v := ?_) (a' := ?_) #[true, true, false, false, false, false, false, false, false, false, false, false, false, false, false, false, false, false] rfl rfl (by kernel_rfl) (fun _ _ _ h => h) (Or.inl ⟨by rfl, ?_⟩) ?_ ?_
  rotate_left
  · intro w'
    go_simp
    with_reducible rfl
  rotate_left
  · simp only [Act.put, List.setIfInBounds_toArray, List.set_cons_zero, List.set_cons_succ, i64_w, i32_w]
    rfl
  refine pure_ (i := 2) (N := some 13) (v := ?_) (a' := ?_) #[true, true, true, false, false, false, false, false, false, false, false, false, false, false, false, false, false, false] rfl rfl (by kernel_rfl) (fun _ _ _ h => h) (Or.inl ⟨by rfl, ?_⟩) ?_ ?_
  rotate_left
  · intro w'
    go_simp
    with_reducible rfl
  rotate_left
  · simp only [Act.put, List.setIfInBounds_toArray, List.set_cons_zero, List.set_cons_succ, i64_w, i32_w]
    rfl
  refine pure_ (i := 3) (N := some 14) (v := ?_) (a' := ?_) #[true, true, true, true, false, false, false, false, false, false, false, false, false, false, false, false, false, false] rfl rfl (by kernel_rfl) (fun _ _ _ h => h) (Or.inl ⟨by rfl, ?_⟩) ?_ ?_
  rotate_left
  · intro w'
    go_simp
    with_reducible rfl
  rotate_left
  · simp only [Act.put, List.setIfInBounds_toArray, List.set_cons_zero, List.set_cons_succ, i64_w, i32_w]
    rfl
  refine pure_ (i := 4) (N := some 15) (v := ?_) (a' := ?_) #[true, true, true, true, true, false, false, false, false, false, false, false, false, false, false, false, false, false] rfl rfl (by kernel_rfl) (fun _ _ _ h => h) (Or.inl ⟨by rfl, ?_⟩) ?_ ?_
  rotate_left
  · intro w'
    go_simp
    with_reducible rfl
  rotate_left
  · simp only [Act.put, List.setIfInBounds_toArray, List.set_cons_zero, List.set_cons_succ, i64_w, i32_w]
    rfl
  refine pure_ (i := 5) (N := some 16) (v := ?_) (a' := ?_) #[true, true, true, true, true, true, false, false, false, false, false, false, false, false, false, false, false, false] rfl rfl (by kernel_rfl) (fun _ _ _ h => h) (Or.inl ⟨by rfl, ?_⟩) ?_ ?_
  rotate_left
  · intro w'
    go_simp
    with_reducible rfl
  rotate_left
  · simp only [Act.put, List.setIfInBounds_toArray, List.set_cons_zero, List.set_cons_succ, i64_w, i32_w]
    rfl
  refine pure_ (i := 6) (N := some 17) (v := ?_) (a' := ?_) #[true, true, true, true, true, true, true, false, false, false, false, false, false, false, false, false, false, false] rfl rfl (by kernel_rfl) (fun _ _ _ h => h) (Or.inl ⟨by rfl, ?_⟩) ?_ ?_
  rotate_left
  · intro w'
    go_simp
    with_reducible rfl
  rotate_left
  · simp only [Act.put, List.setIfInBounds_toArray, List.set_cons_zero, List.set_cons_succ, i64_w, i32_w]
    rfl
  refine pure_ (i := 7) (N := some 18) (v := ?_) (a' := ?_) #[true, true, true, true, true, true, true, true, false, false, false, false, false, false, false, false, false, false] rfl rfl (by kernel_rfl) (fun _ _ _ h => h) (Or.inl ⟨by rfl, ?_⟩) ?_ ?_
  rotate_left
  · intro w'
    go_simp
    with_reducible rfl
  rotate_left
  · simp only [Act.put, List.setIfInBounds_toArray, List.set_cons_zero, List.set_cons_succ, i64_w, i32_w]
    rfl
  refine pure_ (i := 8) (N := some 19) (v := ?_) (a' := ?_) #[true, true, true, true, true, true, true, true, true, false, false, false, false, false, false, false, false, false] rfl rfl (by kernel_rfl) (fun _ _ _ h => h) (Or.inl ⟨by rfl, ?_⟩) ?_ ?_
  rotate_left
  · intro w'
    go_simp
    with_reducible rfl
  rotate_left
  · simp only [Act.put, List.setIfInBounds_toArray, List.set_cons_zero, List.set_cons_succ, i64_w, i32_w]
    rfl
  refine pure_ (i := 9) (N := some 20) (v := ?_) (a' := ?_) #[true, true, true, true, true, true, true, true, true, true, false, false, false, false, false, false, false, false] rfl rfl (by kernel_rfl) (fun _ _ _ h => h) (Or.inl ⟨by rfl, ?_⟩) ?_ ?_
  rotate_left
  · intro w'
    go_simp
    with_reducible rfl
  rotate_left
  · simp only [Act.put, List.setIfInBounds_toArray, List.set_cons_zero, List.set_cons_succ, i64_w, i32_w]
    rfl
  refine pure_ (i := 10) (N := some 21) (v := ?_) (a' := ?_) #[true, true, true, true, true, true, true, true, true, true, true, false, false, false, false, false, false, false] rfl rfl (by kernel_rfl) (fun _ _ _ h => h) (Or.inl ⟨by rfl, ?_⟩) ?_ ?_
  rotate_left
  · intro w'
    go_simp
    with_reducible rfl
  rotate_left
  · simp only [Act.put, List.setIfInBounds_toArray, List.set_cons_zero, List.set_cons_succ, i64_w, i32_w]
    rfl
  refine pure_ (i := 12) (N := some 23) (v := ?_) (a' := ?_) #[true, true, true, true, true, true, true, true, true, true, true, false, true, false, false, false, false, false] rfl rfl (by kernel_rfl) (fun _ _ _ h => h) (Or.inl ⟨by rfl, ?_⟩) ?_ ?_
  rotate_left
  · intro w'
    go_simp
    with_reducible rfl
  rotate_left
  · simp only [Act.put, List.setIfInBounds_toArray, List.set_cons_zero, List.set_cons_succ, i64_w, i32_w]
    rfl
  refine pure_ (i := 13) (N := some 24) (v := ?_) (a' := ?_) #[true, true, true, true, true, true, true, true, true, true, true, false, true, true, false, false, false, false] rfl rfl (by kernel_rfl) (fun _ _ _ h => h) (Or.inl ⟨by rfl, ?_⟩) ?_ ?_
  rotate_left
  · intro w'
    go_simp
    with_reducible rfl
  rotate_left
  · simp only [Act.put, List.setIfInBounds_toArray, List.set_cons_zero, List.set_cons_succ, i64_w, i32_w]
    rfl
  refine take_ (i := 11) (N := some 22) (v := ?_) (a' := ?_) #[true, true, true, true, true, true, true, true, true, true, true, true, true, true, false, false, false, false] rfl rfl (by kernel_rfl) (fun _ _ _ h => h) (Or.inl ⟨by rfl, ?_⟩) hHeld ?_ ?_
  rotate_left
  · rintro w' ⟨s0, s1⟩
    go_simp
    with_reducible rfl
  rotate_left
  · simp only [Act.put, List.setIfInBounds_toArray, List.set_cons_zero, List.set_cons_succ, i64_w, i32_w]
    rfl
  refine take_ (i := 14) (N := some 25) (v := ?_) (a' := ?_) #[true, true, true, true, true, true, true, true, true, true, true, true, true, true, true, false, false, false] rfl rfl (by kernel_rfl) (fun _ _ _ h => h) (Or.inl ⟨by rfl, ?_⟩) hHeld ?_ ?_
  rotate_left
  · rintro w' ⟨s0, s1⟩
    go_simp
    with_reducible rfl
  rotate_left
  · simp only [Act.put, List.setIfInBounds_toArray, List.set_cons_zero, List.set_cons_succ, i64_w, i32_w]
    rfl
  refine one_ (i := 15) (N := some 26) #[true, true, true, true, true, true, true, true, true, true, true, true, true, true, true, true, false, false] rfl rfl (by kernel_rfl) (by decide) (fun K hK => ?_)
  refine goes_ Tryd.func47 (by kernel_rfl) rfl #[.int .u8 c0, .int .u8 c1] (by rfl) rfl rfl (by simp only [List.map_toArray, List.map_cons, List.map_nil]; rfl) ?_
  with_reducible refine ((HSC.out w1.drew)).mono ?_
  rintro e w5 ⟨rfl, hb⟩
  refine ⟨_, rfl, ?_⟩
  have HB5 := Aside0.mk (below_kept (below_drew HB.out) hb)
  have t0 := (hb.cell (World.block_lt_of_cell? _ _ s0)).trans s0
  have t1 := (hb.cell (World.block_lt_of_cell? _ _ s1)).trans s1
  clear hb
  refine hK.out _ _ ⟨t0, t1⟩ (fun hHeld => ?_)
  clear hK K
  refine norm_ (a' := ?_) ?_ ?_
  rotate_left
  · show Act.put _ (some 26) _ = _
    simp only [Act.put, List.setIfInBounds_toArray, List.set_cons_zero, List.set_cons_succ, i64_w, i32_w]
    rfl
  refine pure_ (i := 16) (N := some 27) (v := ?_) (a' := ?_) #[true, true, true, true, true, true, true, true, true, true, true, true, true, true, true, true, true, false] rfl rfl (by kernel_rfl) (fun _ _ _ h => h) (Or.inl ⟨by rfl, ?_⟩) ?_ ?_
  rotate_left
  · intro w'
    go_simp
    with_reducible rfl
  rotate_left
  · simp only [Act.put, List.setIfInBounds_toArray, List.set_cons_zero, List.set_cons_succ, i64_w, i32_w]
    rfl
  refine pure_ (i := 17) (N := some 28) (v := ?_) (a' := ?_) #[true, true, true, true, true, true, true, true, true, true, true, true, true, true, true, true, true, true] rfl rfl (by kernel_rfl) (fun _ _ _ h => h) (Or.inl ⟨by rfl, ?_⟩) ?_ ?_
  rotate_left
  · intro w'
    go_simp
    with_reducible rfl
  rotate_left
  · simp only [Act.put, List.setIfInBounds_toArray, List.set_cons_zero, List.set_cons_succ, i64_w, i32_w]
    rfl
  refine done_ (by kernel_rfl) ?_
  clear s0 s1 hHeld
  cases SB
  · go_wp2
    go_ret2
    exact ⟨by rw [HO.out, wholeN, if_pos HSB.out.symm]; rfl, HB5.out⟩
  · have hbit := and_16 c0 (by omega)
    obtain ⟨r0, hr0⟩ : ∃ r0, r0 = c0 % 16 := ⟨_, rfl⟩
    rw [← hr0] at hbit
    have HR0 := Aside0.mk hr0
    have hr0b : (r0 : Int) < 16 := by omega
    clear hr0
    go_wp2_with fail
    go_loopg [5, 6] 2 (fun gk v5 v6 W => ∃ (i acc : Nat), v6 = .int .i64 (i : Int) ∧ v5 = .int .i32 (acc : Int) ∧ Aside0 (gk + i = 3 ∧ 1 ≤ i) ∧ Aside0 (acc = accR f (f 0 % 16) i) ∧ Aside0 (acc < 16 * 64 ^ (i - 1)) ∧ Aside0 (∀ j, 1 ≤ j → j < i → 128 ≤ f j ∧ f j ≤ 191) ∧ W = w5)
    case atStart => exact ⟨1, r0, rfl, rfl, ⟨⟨by omega, by omega⟩⟩, ⟨by rw [HR0.out, HCC.out]; rfl⟩, ⟨by show r0 < 16 * 1; omega⟩, ⟨fun j h1 h2 => by omega⟩, rfl⟩
    case round =>
      obtain ⟨i, acc, rfl, rfl, HG, HAC, HBD, HJ, hW⟩ := hrel
      subst hW
      have hgi := HG.out
      by_cases hi : i < 3
      · obtain ⟨g0, rfl⟩ : ∃ g0, gk = g0 + 1 := ⟨gk - 1, by omega⟩
        obtain ⟨ad', e', hci⟩ := HCI.out i hi
        cases e'
        have hc := (HB5.out.cell (World.block_lt_of_cell? w _ hci)).trans hci
        obtain ⟨x, hx⟩ : ∃ x, x = f i := ⟨_, rfl⟩
        rw [← hx] at hc
        have HX := Aside0.mk hx
        have hx256 : (x : Int) < 256 := by have := HLT.out i; omega
        have hacc : (acc : Int) ≤ 32767 := by
          have h := HBD.out
          have h2 := hgi.2
          rcases (show i = 1 ∨ i = 2 ∨ i = 3 by omega) with rfl | rfl | rfl <;> simp at h <;> omega
        have hil : (i : Int) < 3 := by omega
        have HI := Aside0.mk hi
        clear hx hgi hi hci
        by_cases h1 : x < 128
        · have h1I : (x : Int) < 128 := by omega
          have H1 := Aside0.mk h1
          clear h1
          go_wp2
          go_ret2
          exact ⟨by rw [HO.out, whole_none HSB.out.symm i HG.out.2 (by rw [HN.out]; exact HI.out) (.inl (by rw [← HX.out]; exact H1.out))]; rfl, HB5.out⟩
        · by_cases h2 : 191 < x
          · have h1I : (128 : Int) ≤ x := by omega
            have h2I : (191 : Int) < x := by omega
            have H2 := Aside0.mk h2
            clear h1 h2
            go_wp2
            go_ret2
            exact ⟨by rw [HO.out, whole_none HSB.out.symm i HG.out.2 (by rw [HN.out]; exact HI.out) (.inr (by rw [← HX.out]; exact H2.out))]; rfl, HB5.out⟩
          · have h1I : (128 : Int) ≤ x := by omega
            have h2I : (x : Int) ≤ 191 := by omega
            have H12 := Aside0.mk (show 128 ≤ x ∧ x ≤ 191 from ⟨by omega, by omega⟩)
            clear h1 h2
            go_wp2_with fail
            go_roundg g0
            case measure => omega
            case rel =>
              have hst := acc_step f (f 0 % 16) i HG.out.2
              rw [← HAC.out, ← HX.out] at hst
              exact ⟨i + 1, acc * 64 + x % 64, by first | rfl | go_num | (congr 1; omega), by first | rfl | (congr 1; omega), ⟨⟨by have := HG.out.1; omega, by omega⟩⟩, ⟨hst.symm⟩, ⟨by
                have h := HBD.out
                have h2 := HG.out
                rcases (show i = 1 ∨ i = 2 ∨ i = 3 by omega) with rfl | rfl | rfl <;> simp at h ⊢ <;> omega⟩, ⟨fun j h1 h2 => by
                rcases Nat.lt_or_ge j i with h | h
                · exact HJ.out j h1 h
                · obtain rfl : j = i := by omega
                  rw [← HX.out]; exact H12.out⟩, rfl⟩
      · have hil : (3 : Int) ≤ i := by omega
        clear hgi hi
        go_wp2
        go_ret2
        obtain rfl : i = 3 := by have := HG.out; omega
        exact ⟨by rw [HO.out, whole_some (m := 16) HSB.out.symm HN.out (by decide) HJ.out, ← HAC.out]; rfl, HB5.out⟩
set_option maxHeartbeats 3200000 in
set_option maxRecDepth 100000 in
theorem whole_4 (A : Option Addr) (cp : Nat) (l : List Int) (w : World) (hr : Kd.C (Kd.int .u8) w A l.length l) (hb : Bytes l) (hN : needN (bya l 0) = 4) (hl : l.length = 4) :
    Calls Tryd.prog 45 #[.slice A 4 cp] w fun e w' => e = .returned (wres (wholeN (bya l 0) (bya l 1) (bya l 2) (bya l 3))) ∧ Below w.heap.size w w' := by
  obtain ⟨ad, rfl, hc0'⟩ := at_byte hr hb 0 (by omega)
  have hc0 : w.cell? ad = some (.int .u8 (bya l 0 : Int)) := hc0'
  clear hc0'
  obtain ⟨ad', e', hc1⟩ := at_byte1 hr hb 1 (by omega) (by omega)
  cases e'
  have HCI := Aside0.mk (fun i h => at_byte hr hb i (by rw [hl]; exact h))
  have HLT := Aside0.mk (bya_lt hb)
  have HND := Aside0.mk (need_c (bya l 0) (bya_lt hb 0))
  have HSC := Aside0.mk (second_c (bya l 0) (bya l 1) (bya_lt hb 0) (bya_lt hb 1))
  obtain ⟨f, hf⟩ : ∃ f, f = bya l := ⟨_, rfl⟩
  rw [← hf] at hc0 hc1 HCI HND HSC HLT hN ⊢
  rw [hN] at HND
  obtain ⟨SB, hSB⟩ : ∃ N, N = secondB (f 0) (f 1) := ⟨_, rfl⟩
  rw [← hSB] at HSC
  have HSB := Aside0.mk hSB
  have HN := Aside0.mk hN
  obtain ⟨o, ho⟩ : ∃ o, o = wholeN (f 0) (f 1) (f 2) (f 3) := ⟨_, rfl⟩
  rw [← ho]
  have HO := Aside0.mk ho
  obtain ⟨c0, hcc⟩ : ∃ c, c = f 0 := ⟨_, rfl⟩
  obtain ⟨c1, hcc1⟩ : ∃ c, c = f 1 := ⟨_, rfl⟩
  have hq0 : (f 0 : Int) < 256 := by have := HLT.out 0; omega
  rw [← hcc] at hc0 HND HSC hq0
  rw [← hcc1] at hc1 HSC
  have HCC := Aside0.mk hcc
  clear hr hb hN hl hf hSB ho hcc hcc1
  go_enter Tryd.func45, Tryd.ntmps45
  go_wp2_with fail
  refine (HND.out w).mono ?_
  rintro e w1 ⟨rfl, hb⟩
  have HB := Aside0.mk hb
  have s0 : w1.drew.cell? ad = some (.int .u8 (c0 : Int)) := (hb.cell (World.block_lt_of_cell? w _ hc0)).trans hc0
  have s1 : w1.drew.cell? ⟨ad.block, ad.off + 1, none⟩ = some (.int .u8 (c1 : Int)) := (hb.cell (World.block_lt_of_cell? w _ hc1)).trans hc1
  clear hb hc0 hc1
  go_upto_region 2 with fail
  refine start_ (n := 18) (S := fun w' => w'.cell? ad = some (.int .u8 c0) ∧ w'.cell? ⟨ad.block, ad.off + 1, none⟩ = some (.int .u8 c1)) (ds := []) #[false, false, false, false, false, false, false, false, false, false, false, false, false, false, false, false, false, false] (by kernel_rfl) rfl rfl ⟨s0, s1⟩ (fun hHeld => ?_)
  refine pure_ (i := 0) (N := some 11) (v := ?_) (a' := ?_) #[true, false, false, false, false, false, false, false, false, false, false, false, false, false, false, false, false, false] rfl rfl (by kernel_rfl) (fun _ _ _ h => h) (Or.inl ⟨by rfl, ?_⟩) ?_ ?_
  rotate_left
  · intro w'
    go_simp
    with_reducible rfl
  rotate_left
  · simp only [Act.put, List.setIfInBounds_toArray, List.set_cons_zero, List.set_cons_succ, i64_w, i32_w]
    rfl
  refine pure_ (i := 1) (N := some 12) (v := ?_) (a' := ?_) #[true, true, false, false, false, false, false, false, false, false, false, false, false, false, false, false, false, false] rfl rfl (by kernel_rfl) (fun _ _ _ h => h) (Or.inl ⟨by rfl, ?_⟩) ?_ ?_
  rotate_left
  · intro w'
    go_simp
    with_reducible rfl
  rotate_left
  · simp only [Act.put, List.setIfInBounds_toArray, List.set_cons_zero, List.set_cons_succ, i64_w, i32_w]
    rfl
  refine pure_ (i := 2) (N := some 13) (v := ?_) (a' := ?_) #[true, true, true, false, false, false, false, false, false, false, false, false, false, false, false, false, false, false] rfl rfl (by kernel_rfl) (fun _ _ _ h => h) (Or.inl ⟨by rfl, ?_⟩) ?_ ?_
  rotate_left
  · intro w'
    go_simp
    with_reducible rfl
  rotate_left
  · simp only [Act.put, List.setIfInBounds_toArray, List.set_cons_zero, List.set_cons_succ, i64_w, i32_w]
    rfl
  refine pure_ (i := 3) (N := some 14) (v := ?_) (a' := ?_) #[true, true, true, true, false, false, false, false, false, false, false, false, false, false, false, false, false, false] rfl rfl (by kernel_rfl) (fun _ _ _ h => h) (Or.inl ⟨by rfl, ?_⟩) ?_ ?_
  rotate_left
  · intro w'
    go_simp
    with_reducible rfl
  rotate_left
  · simp only [Act.put, List.setIfInBounds_toArray, List.set_cons_zero, List.set_cons_succ, i64_w, i32_w]
    rfl
  refine pure_ (i := 4) (N := some 15) (v := ?_) (a' := ?_) #[true, true, true, true, true, false, false, false, false, false, false, false, false, false, false, false, false, false] rfl rfl (by kernel_rfl) (fun _ _ _ h => h) (Or.inl ⟨by rfl, ?_⟩) ?_ ?_
  rotate_left
  · intro w'
    go_simp
    with_reducible rfl
  rotate_left
  · simp only [Act.put, List.setIfInBounds_toArray, List.set_cons_zero, List.set_cons_succ, i64_w, i32_w]
    rfl
  refine pure_ (i := 5) (N := some 16) (v := ?_) (a' := ?_) #[true, true, true, true, true, true, false, false, false, false, false, false, false, false, false, false, false, false] rfl rfl (by kernel_rfl) (fun _ _ _ h => h) (Or.inl ⟨by rfl, ?_⟩) ?_ ?_
  rotate_left
  · intro w'
    go_simp
    with_reducible rfl
  rotate_left
  · simp only [Act.put, List.setIfInBounds_toArray, List.set_cons_zero, List.set_cons_succ, i64_w, i32_w]
    rfl
  refine pure_ (i := 6) (N := some 17) (v := ?_) (a' := ?_) #[true, true, true, true, true, true, true, false, false, false, false, false, false, false, false, false, false, false] rfl rfl (by kernel_rfl) (fun _ _ _ h => h) (Or.inl ⟨by rfl, ?_⟩) ?_ ?_
  rotate_left
  · intro w'
    go_simp
    with_reducible rfl
  rotate_left
  · simp only [Act.put, List.setIfInBounds_toArray, List.set_cons_zero, List.set_cons_succ, i64_w, i32_w]
    rfl
  refine pure_ (i := 7) (N := some 18) (v := ?_) (a' := ?_) #[true, true, true, true, true, true, true, true, false, false, false, false, false, false, false, false, false, false] rfl rfl (by kernel_rfl) (fun _ _ _ h => h) (Or.inl ⟨by rfl, ?_⟩) ?_ ?_
  rotate_left
  · intro w'
    go_simp
    with_reducible rfl
  rotate_left
  · simp only [Act.put, List.setIfInBounds_toArray, List.set_cons_zero, List.set_cons_succ, i64_w, i32_w]
    rfl
  refine pure_ (i := 8) (N := some 19) (v := ?_) (a' := ?_) #[true, true, true, true, true, true, true, true, true, false, false, false, false, false, false, false, false, false] rfl rfl (by kernel_rfl) (fun _ _ _ h => h) (Or.inl ⟨by rfl, ?_⟩) ?_ ?_
  rotate_left
  · intro w'
    go_simp
    with_reducible rfl
  rotate_left
  · simp only [Act.put, List.setIfInBounds_toArray, List.set_cons_zero, List.set_cons_succ, i64_w, i32_w]
    rfl
  refine pure_ (i := 9) (N := some 20) (v := ?_) (a' := ?_) #[true, true, true, true, true, true, true, true, true, true, false, false, false, false, false, false, false, false] rfl rfl (by kernel_rfl) (fun _ _ _ h => h) (Or.inl ⟨by rfl, ?_⟩) ?_ ?_
  rotate_left
  · intro w'
    go_simp
    with_reducible rfl
  rotate_left
  · simp only [Act.put, List.setIfInBounds_toArray, List.set_cons_zero, List.set_cons_succ, i64_w, i32_w]
    rfl
  refine pure_ (i := 10) (N := some 21) (v := ?_) (a' := ?_) #[true, true, true, true, true, true, true, true, true, true, true, false, false, false, false, false, false, false] rfl rfl (by kernel_rfl) (fun _ _ _ h => h) (Or.inl ⟨by rfl, ?_⟩) ?_ ?_
  rotate_left
  · intro w'
    go_simp
    with_reducible rfl
  rotate_left
  · simp only [Act.put, List.setIfInBounds_toArray, List.set_cons_zero, List.set_cons_succ, i64_w, i32_w]
    rfl
  refine pure_ (i := 12) (N := some 23) (v := ?_) (a' := ?_) #[true, true, true, true, true, true, true, true, true, true, true, false, true, false, false, false, false, false] rfl rfl (by kernel_rfl) (fun _ _ _ h => h) (Or.inl ⟨by rfl, ?_⟩) ?_ ?_
  rotate_left
  · intro w'
    go_simp
    with_reducible rfl
  rotate_left
  · simp only [Act.put, List.setIfInBounds_toArray, List.set_cons_zero, List.set_cons_succ, i64_w, i32_w]
    rfl
  refine pure_ (i := 13) (N := some 24) (v := ?_) (a' := ?_) #[true, true, true, true, true, true, true, true, true, true, true, false, true, true, false, false, false, false] rfl rfl (by kernel_rfl) (fun _ _ _ h => h) (Or.inl ⟨by rfl, ?_⟩) ?_ ?_
  rotate_left
  · intro w'
    go_simp
    with_reducible rfl
  rotate_left
  · simp only [Act.put, List.setIfInBounds_toArray, List.set_cons_zero, List.set_cons_succ, i64_w, i32_w]
    rfl
  refine take_ (i := 11) (N := some 22) (v := ?_) (a' := ?_) #[true, true, true, true, true, true, true, true, true, true, true, true, true, true, false, false, false, false] rfl rfl (by kernel_rfl) (fun _ _ _ h => h) (Or.inl ⟨by rfl, ?_⟩) hHeld ?_ ?_
  rotate_left
  · rintro w' ⟨s0, s1⟩
    go_simp
    with_reducible rfl
  rotate_left
  · simp only [Act.put, List.setIfInBounds_toArray, List.set_cons_zero, List.set_cons_succ, i64_w, i32_w]
    rfl
  refine take_ (i := 14) (N := some 25) (v := ?_) (a' := ?_) #[true, true, true, true, true, true, true, true, true, true, true, true, true, true, true, false, false, false] rfl rfl (by kernel_rfl) (fun _ _ _ h => h) (Or.inl ⟨by rfl, ?_⟩) hHeld ?_ ?_
  rotate_left
  · rintro w' ⟨s0, s1⟩
    go_simp
    with_reducible rfl
  rotate_left
  · simp only [Act.put, List.setIfInBounds_toArray, List.set_cons_zero, List.set_cons_succ, i64_w, i32_w]
    rfl
  refine one_ (i := 15) (N := some 26) #[true, true, true, true, true, true, true, true, true, true, true, true, true, true, true, true, false, false] rfl rfl (by kernel_rfl) (by decide) (fun K hK => ?_)
  refine goes_ Tryd.func47 (by kernel_rfl) rfl #[.int .u8 c0, .int .u8 c1] (by rfl) rfl rfl (by simp only [List.map_toArray, List.map_cons, List.map_nil]; rfl) ?_
  with_reducible refine ((HSC.out w1.drew)).mono ?_
  rintro e w5 ⟨rfl, hb⟩
  refine ⟨_, rfl, ?_⟩
  have HB5 := Aside0.mk (below_kept (below_drew HB.out) hb)
  have t0 := (hb.cell (World.block_lt_of_cell? _ _ s0)).trans s0
  have t1 := (hb.cell (World.block_lt_of_cell? _ _ s1)).trans s1
  clear hb
  refine hK.out _ _ ⟨t0, t1⟩ (fun hHeld => ?_)
  clear hK K
  refine norm_ (a' := ?_) ?_ ?_
  rotate_left
  · show Act.put _ (some 26) _ = _
    simp only [Act.put, List.setIfInBounds_toArray, List.set_cons_zero, List.set_cons_succ, i64_w, i32_w]
    rfl
  refine pure_ (i := 16) (N := some 27) (v := ?_) (a' := ?_) #[true, true, true, true, true, true, true, true, true, true, true, true, true, true, true, true, true, false] rfl rfl (by kernel_rfl) (fun _ _ _ h => h) (Or.inl ⟨by rfl, ?_⟩) ?_ ?_
  rotate_left
  · intro w'
    go_simp
    with_reducible rfl
  rotate_left
  · simp only [Act.put, List.setIfInBounds_toArray, List.set_cons_zero, List.set_cons_succ, i64_w, i32_w]
    rfl
  refine pure_ (i := 17) (N := some 28) (v := ?_) (a' := ?_) #[true, true, true, true, true, true, true, true, true, true, true, true, true, true, true, true, true, true] rfl rfl (by kernel_rfl) (fun _ _ _ h => h) (Or.inl ⟨by rfl, ?_⟩) ?_ ?_
  rotate_left
  · intro w'
    go_simp
    with_reducible rfl
  rotate_left
  · simp only [Act.put, List.setIfInBounds_toArray, List.set_cons_zero, List.set_cons_succ, i64_w, i32_w]
    rfl
  refine done_ (by kernel_rfl) ?_
  clear s0 s1 hHeld
  cases SB
  · go_wp2
    go_ret2
    exact ⟨by rw [HO.out, wholeN, if_pos HSB.out.symm]; rfl, HB5.out⟩
  · have hbit := and_8 c0 (by omega)
    obtain ⟨r0, hr0⟩ : ∃ r0, r0 = c0 % 8 := ⟨_, rfl⟩
    rw [← hr0] at hbit
    have HR0 := Aside0.mk hr0
    have hr0b : (r0 : Int) < 8 := by omega
    clear hr0
    go_wp2_with fail
    go_loopg [5, 6] 3 (fun gk v5 v6 W => ∃ (i acc : Nat), v6 = .int .i64 (i : Int) ∧ v5 = .int .i32 (acc : Int) ∧ Aside0 (gk + i = 4 ∧ 1 ≤ i) ∧ Aside0 (acc = accR f (f 0 % 8) i) ∧ Aside0 (acc < 8 * 64 ^ (i - 1)) ∧ Aside0 (∀ j, 1 ≤ j → j < i → 128 ≤ f j ∧ f j ≤ 191) ∧ W = w5)
    case atStart => exact ⟨1, r0, rfl, rfl, ⟨⟨by omega, by omega⟩⟩, ⟨by rw [HR0.out, HCC.out]; rfl⟩, ⟨by show r0 < 8 * 1; omega⟩, ⟨fun j h1 h2 => by omega⟩, rfl⟩
    case round =>
      obtain ⟨i, acc, rfl, rfl, HG, HAC, HBD, HJ, hW⟩ := hrel
      subst hW
      have hgi := HG.out
      by_cases hi : i < 4
      · obtain ⟨g0, rfl⟩ : ∃ g0, gk = g0 + 1 := ⟨gk - 1, by omega⟩
        obtain ⟨ad', e', hci⟩ := HCI.out i hi
        cases e'
        have hc := (HB5.out.cell (World.block_lt_of_cell? w _ hci)).trans hci
        obtain ⟨x, hx⟩ : ∃ x, x = f i := ⟨_, rfl⟩
        rw [← hx] at hc
        have HX := Aside0.mk hx
        have hx256 : (x : Int) < 256 := by have := HLT.out i; omega
        have hacc : (acc : Int) ≤ 32767 := by
          have h := HBD.out
          have h2 := hgi.2
          rcases (show i = 1 ∨ i = 2 ∨ i = 3 by omega) with rfl | rfl | rfl <;> simp at h <;> omega
        have hil : (i : Int) < 4 := by omega
        have HI := Aside0.mk hi
        clear hx hgi hi hci
        by_cases h1 : x < 128
        · have h1I : (x : Int) < 128 := by omega
          have H1 := Aside0.mk h1
          clear h1
          go_wp2
          go_ret2
          exact ⟨by rw [HO.out, whole_none HSB.out.symm i HG.out.2 (by rw [HN.out]; exact HI.out) (.inl (by rw [← HX.out]; exact H1.out))]; rfl, HB5.out⟩
        · by_cases h2 : 191 < x
          · have h1I : (128 : Int) ≤ x := by omega
            have h2I : (191 : Int) < x := by omega
            have H2 := Aside0.mk h2
            clear h1 h2
            go_wp2
            go_ret2
            exact ⟨by rw [HO.out, whole_none HSB.out.symm i HG.out.2 (by rw [HN.out]; exact HI.out) (.inr (by rw [← HX.out]; exact H2.out))]; rfl, HB5.out⟩
          · have h1I : (128 : Int) ≤ x := by omega
            have h2I : (x : Int) ≤ 191 := by omega
            have H12 := Aside0.mk (show 128 ≤ x ∧ x ≤ 191 from ⟨by omega, by omega⟩)
            clear h1 h2
            go_wp2_with fail
            go_roundg g0
            case measure => omega
            case rel =>
              have hst := acc_step f (f 0 % 8) i HG.out.2
              rw [← HAC.out, ← HX.out] at hst
              exact ⟨i + 1, acc * 64 + x % 64, by first | rfl | go_num | (congr 1; omega), by first | rfl | (congr 1; omega), ⟨⟨by have := HG.out.1; omega, by omega⟩⟩, ⟨hst.symm⟩, ⟨by
                have h := HBD.out
                have h2 := HG.out
                rcases (show i = 1 ∨ i = 2 ∨ i = 3 by omega) with rfl | rfl | rfl <;> simp at h ⊢ <;> omega⟩, ⟨fun j h1 h2 => by
                rcases Nat.lt_or_ge j i with h | h
                · exact HJ.out j h1 h
                · obtain rfl : j = i := by omega
                  rw [← HX.out]; exact H12.out⟩, rfl⟩
      · have hil : (4 : Int) ≤ i := by omega
        clear hgi hi
        go_wp2
        go_ret2
        obtain rfl : i = 4 := by have := HG.out; omega
        exact ⟨by rw [HO.out, whole_some (m := 8) HSB.out.symm HN.out (by decide) HJ.out, ← HAC.out]; rfl, HB5.out⟩
end Go.Proofs.YtkdkajcokoggiaaDoor.VtRefW
/- The reference's runes, as a contract. -/
namespace Go.Proofs.YtkdkajcokoggiaaDoor.VtRefR
open Go.RowKit Go.Proofs.YtkdkajcokoggiaaDoor.Kit Go.Proofs.YtkdkajcokoggiaaDoor.Plain Go.Proofs.YtkdkajcokoggiaaDoor.Mine Go.Proofs.YtkdkajcokoggiaaDoor.UtfPure Go.Proofs.YtkdkajcokoggiaaDoor.UtfFull Go.Proofs.YtkdkajcokoggiaaDoor.UtfFeed Go.Proofs.YtkdkajcokoggiaaDoor.VtPure Go.Proofs.YtkdkajcokoggiaaDoor.VtSmall Go.Proofs.YtkdkajcokoggiaaDoor.VtRefP Go.Proofs.YtkdkajcokoggiaaDoor.VtRefU Go.Proofs.YtkdkajcokoggiaaDoor.VtRefW Go.Proofs.YtkdkajcokoggiaaDoorW.PrintWords Go.Proofs.YtkdkajcokoggiaaDoorW.PrintLast Go.Proofs.YtkdkajcokoggiaaDoorW.PrintMore
open Go.Proofs.YtkdkajcokoggiaaDoor.PVtParts (S37 k37 k37_open k37_openM k37_mk k37_mkM)
set_option linter.unusedVariables false
set_option linter.unusedSimpArgs false
theorem drain_low {l : List Int} (hb : Bytes l) (hn : 1 ≤ l.length) (h : bya l 0 < 128) : UtfPure.drain l = ((bya l 0 : Int) :: (UtfPure.drain (l.drop 1)).1, (UtfPure.drain (l.drop 1)).2) := by
  match l, hn with
  | x :: t, _ =>
    have hx := hb x (by simp)
    have e : bya (x :: t) 0 = x.toNat := rfl
    rw [e] at h ⊢
    have ha := ascii_dec x t ⟨hx.1, by omega⟩
    rw [drain_on hb (by simp) ha.2, ha.1]
theorem drain_begun {l : List Int} (hb : Bytes l) (hn : 1 ≤ l.length) (h : beginsB l = true) : UtfPure.drain l = ([], l) := drain_stop (.inr (by rw [begins_full hb hn, h]; rfl))
theorem ne_of_len {l : List Int} (h : 1 ≤ l.length) : l ≠ [] := fun e => by subst e; simp at h
theorem drain_rune {l : List Int} (hb : Bytes l) (hn : 1 ≤ l.length) (h : beginsB l = false) (h0 : needN (bya l 0) ≠ 0) (hl : needN (bya l 0) ≤ l.length) {r : Nat} (hw : wholeN (bya l 0) (bya l 1) (bya l 2) (bya l 3) = some r) :
    UtfPure.drain l = ((r : Int) :: (UtfPure.drain (l.drop (needN (bya l 0)))).1, (UtfPure.drain (l.drop (needN (bya l 0)))).2) := by
  have hd := dec_whole hb h0 hl
  rw [hw] at hd
  rw [drain_on hb (ne_of_len hn) (by rw [begins_full hb hn, h]; rfl), hd]
theorem drain_bad {l : List Int} (hb : Bytes l) (hn : 1 ≤ l.length) (h : beginsB l = false) (h8 : 128 ≤ bya l 0) (hw : needN (bya l 0) = 0 ∨ l.length < needN (bya l 0) ∨ (needN (bya l 0) ≠ 0 ∧ needN (bya l 0) ≤ l.length ∧ wholeN (bya l 0) (bya l 1) (bya l 2) (bya l 3) = none)) :
    UtfPure.drain l = (65533 :: (UtfPure.drain (l.drop 1)).1, (UtfPure.drain (l.drop 1)).2) := by
  have hd : dec1 l = (65533, 1) := by
    rcases hw with h1 | h1 | ⟨h1, h2, h3⟩
    · exact dec_wrong hb hn h8 (.inl h1)
    · exact dec_wrong hb hn h8 (.inr h1)
    · have hd := dec_whole hb h1 h2
      rw [h3] at hd
      exact hd
  rw [drain_on hb (ne_of_len hn) (by rw [begins_full hb hn, h]; rfl), hd]
  rfl
theorem cut_block {P : Program} {α : Type} (d : Kd α) (t e : TypeId) (z : Value) (bytes : Nat) (ht : P.underlying t = some (.slice e)) (hinfo : (P.info? e).map (fun i => (i.zero, i.size, i.bytes)) = some (some z, d.sz, bytes))
    (A : Option Addr) (c : Nat) (xs : List α) (j : Int) (h0 : 0 ≤ j) (hj : j ≤ xs.length) (hc : xs.length ≤ c) :
    ∃ A' c', (∀ W : World, (Instr.slice t (.slice A xs.length c) (some (.int .i64 j)) none none).run P W = .ok (.slice A' (xs.drop j.toNat).length c') W) ∧ (xs.drop j.toNat).length ≤ c' ∧
      (∀ W, d.C W A xs.length xs → d.C W A' (xs.drop j.toNat).length (xs.drop j.toNat)) ∧ ∀ ad', A' = some ad' → ∃ ad, A = some ad ∧ ad'.block = ad.block := by
  obtain ⟨i0, hi, _, hsz, _⟩ := info_parts hinfo
  refine ⟨if c = j.toNat then A else A.map (·.add (j.toNat * d.sz)), c - j.toNat, fun W => ?_, by rw [List.length_drop]; omega, fun W h => Kd.C_drop h (by omega) hc, fun ad' e => ?_⟩
  · rw [List.length_drop]
    exact cut_from t e .i64 ht hi d.sz hsz A xs.length c j h0 hj W
  · split at e
    · exact ⟨ad', e, rfl⟩
    · rw [Option.map_eq_some_iff] at e
      obtain ⟨ad, e1, e2⟩ := e
      refine ⟨ad, e1, ?_⟩
      rw [← e2]
      unfold Addr.add
      split <;> rfl
/-- The contract of whole for each length. -/
theorem whole_c (A : Option Addr) (cp : Nat) (l : List Int) (w : World) (hr : Kd.C (Kd.int .u8) w A l.length l) (hb : Bytes l) (h0 : needN (bya l 0) ≠ 0) (hl : l.length = needN (bya l 0)) :
    Calls Tryd.prog 45 #[.slice A l.length cp] w fun e w' => e = .returned (wres (wholeN (bya l 0) (bya l 1) (bya l 2) (bya l 3))) ∧ Below w.heap.size w w' := by
  have h2 := (need_128 h0).2
  have h4 := need_le (bya l 0)
  rcases (show needN (bya l 0) = 2 ∨ needN (bya l 0) = 3 ∨ needN (bya l 0) = 4 by omega) with h | h | h
  · have hl2 : l.length = 2 := by omega
    have h3 := whole_2 A cp l w hr hb h hl2
    rw [hl2]; exact h3
  · have hl2 : l.length = 3 := by omega
    have h3 := whole_3 A cp l w hr hb h hl2
    rw [hl2]; exact h3
  · have hl2 : l.length = 4 := by omega
    have h3 := whole_4 A cp l w hr hb h hl2
    rw [hl2]; exact h3
theorem bya_take (l : List Int) (n i : Nat) (h : i < n) : bya (l.take n) i = bya l i := by
  unfold bya
  rw [List.getD_eq_getElem?_getD, List.getElem?_take_of_lt h, ← List.getD_eq_getElem?_getD]
theorem whole_take (l : List Int) (n : Nat) (hn : needN (bya l 0) = n) (h2 : 2 ≤ n) : wholeN (bya (l.take n) 0) (bya (l.take n) 1) (bya (l.take n) 2) (bya (l.take n) 3) = wholeN (bya l 0) (bya l 1) (bya l 2) (bya l 3) := by
  have h4 := need_le (bya l 0)
  rw [bya_take l n 0 (by omega), bya_take l n 1 (by omega)]
  unfold wholeN
  by_cases hs : secondB (bya l 0) (bya l 1) = false
  · rw [if_pos hs, if_pos hs]
  · rw [if_neg hs, if_neg hs]
    by_cases e2 : needN (bya l 0) = 2
    · rw [if_pos e2, if_pos e2]
    · rw [if_neg e2, if_neg e2, bya_take l n 2 (by omega)]
      by_cases e3 : bya l 2 < 128 ∨ 191 < bya l 2
      · rw [if_pos e3, if_pos e3]
      · rw [if_neg e3, if_neg e3]
        by_cases e4 : needN (bya l 0) = 3
        · rw [if_pos e4, if_pos e4]
        · rw [if_neg e4, if_neg e4, bya_take l n 3 (by omega)]
theorem printedP_cons (x : Int) (l : List Int) (o : List S37) : o ++ printedP (x :: l) = (o ++ [printA x]) ++ printedP l := by
  unfold printedP
  rw [List.map_cons, List.append_assoc]
  rfl
/-- What runes tells. -/
def RT (w : World) (A0 : Option Addr) (r : List Int × List Int) (e : Ending) (w' : World) : Prop := ∃ (u : Value) (A : Option Addr) (n c : Nat), e = .returned (.tuple #[u, .slice A n c]) ∧ Kd.R k37 37 w' w.heap.size (fun _ => True) u (printedP r.1) ∧ Kd.C (Kd.int .u8) w' A n r.2 ∧ (∀ ad', A = some ad' → ∃ ad, A0 = some ad ∧ ad'.block = ad.block) ∧ Below w.heap.size w w'
set_option maxHeartbeats 6400000 in
set_option maxRecDepth 100000 in
theorem runes_c (A0 : Option Addr) (cp0 : Nat) (l0 : List Int) (w : World) (hr : Kd.C (Kd.int .u8) w A0 l0.length l0) (hcp0 : l0.length ≤ cp0) (hb : Bytes l0) (hl : l0.length ≤ 4) :
    Calls Tryd.prog 41 #[.slice A0 l0.length cp0] w (RT w A0 (UtfPure.drain l0)) := by
  have hua := Tryd.underlying37
  have HR0 := Aside0.mk hr
  have HB0 := Aside0.mk hb
  have HL0 := Aside0.mk hl
  have HCP0 := Aside0.mk hcp0
  obtain ⟨D, hD⟩ : ∃ D, D = UtfPure.drain l0 := ⟨_, rfl⟩
  rw [← hD]
  have HD0 := Aside0.mk hD
  obtain ⟨L0, hL0⟩ : ∃ L, L = l0.length := ⟨_, rfl⟩
  rw [← hL0]
  have HLL := Aside0.mk hL0
  clear hr hb hl hD hcp0 hL0
  go_enter Tryd.func41, Tryd.ntmps41
  go_wp2_with fail
  go_loopg [0, 4, 5] 5 (fun gk v0 v4 v5 W => ∃ (i : Nat) (A : Option Addr) (cp : Nat) (l : List Int) (L : Nat) (out : List S37) (u : Value), v5 = .int .i64 (i : Int) ∧ v0 = .slice A L cp ∧ u = v4 ∧ Aside0 (gk + i = 5 ∧ i + l.length ≤ 4 ∧ L = l.length ∧ L ≤ cp) ∧ Aside0 (Bytes l) ∧ Aside0 (Kd.C (Kd.int .u8) w A l.length l) ∧ Aside0 (∀ ad', A = some ad' → ∃ ad, A0 = some ad ∧ ad'.block = ad.block) ∧ Aside0 (out ++ printedP (UtfPure.drain l).1 = printedP D.1 ∧ (UtfPure.drain l).2 = D.2) ∧ Aside0 (out.length ≤ i) ∧ Aside0 (Kd.R k37 37 W w.heap.size (fun _ => True) u out) ∧ Aside0 (Below w.heap.size w W))
  case atStart => exact ⟨0, A0, cp0, l0, L0, [], _, rfl, rfl, rfl, ⟨⟨by omega, by have := HL0.out; omega, HLL.out, by have := HCP0.out; have := HLL.out; omega⟩⟩, HB0, HR0, ⟨fun ad e => ⟨ad, e, rfl⟩⟩, ⟨by rw [HD0.out]; exact ⟨List.nil_append _, rfl⟩⟩, ⟨Nat.le_refl _⟩, ⟨Kd.R_nil _ _ _ _ _⟩, ⟨Below.refl _ _⟩⟩
  case round =>
    obtain ⟨i, A, cp, l, L, out, u, rfl, rfl, rfl, HG, HBY, HC, HA, HE, HOL, HO, HB⟩ := hrel
    have hgi := HG.out
    have hi8 : (i : Int) < 8 := by omega
    have hL4 : (L : Int) ≤ 4 := by omega
    by_cases hz : L = 0
    · subst hz
      have hnil : l = [] := List.eq_nil_of_length_eq_zero hgi.2.2.1.symm
      have HF := Aside0.mk (show out = printedP D.1 ∧ Kd.C (Kd.int .u8) w A 0 D.2 from by
        have h := HE.out
        have hc := HC.out
        rw [hnil] at h hc
        exact ⟨by rw [← h.1]; exact (List.append_nil _).symm, by rw [← h.2]; exact hc⟩)
      clear hgi hnil
      go_wp2
      go_ret2
      exact ⟨_, A, 0, cp, rfl, by rw [← HF.out.1]; exact HO.out, Kd.C_below HF.out.2 HB.out, HA.out, HB.out⟩
    · obtain ⟨g0, rfl⟩ : ∃ g0, gk = g0 + 1 := ⟨gk - 1, by omega⟩
      have hn1 : 1 ≤ l.length := by omega
      have hL0 : (0 : Int) < L := by omega
      have hLn : 0 < L := by omega
      obtain ⟨ad, ead, hc0'⟩ := at_byte HC.out HBY.out 0 hn1
      subst ead
      have hc0w : w.cell? ad = some (.int .u8 (bya l 0 : Int)) := hc0'
      have hc0 := (HB.out.cell (World.block_lt_of_cell? w ad hc0w)).trans hc0w
      obtain ⟨A1, c1, hcut1, hcc1, hC1, hA1⟩ := cut_block (P := Tryd.prog) (Kd.int .u8) 42 5 (.int .u8 0) 1 Tryd.underlying42 info_u8 (some ad) cp l (1 : Int) (by omega) (by omega) (by omega)
      rw [← hgi.2.2.1] at hcut1
      obtain ⟨l1, hl1⟩ : ∃ l1, l1 = l.drop 1 := ⟨_, rfl⟩
      rw [show l.drop (Int.toNat 1) = l1 from hl1.symm] at hcut1 hcc1 hC1
      obtain ⟨L1, hL1⟩ : ∃ L1, L1 = l1.length := ⟨_, rfl⟩
      rw [← hL1] at hcut1 hcc1
      have HP1 := Aside0.mk (show g0 + (i + 1) = 5 ∧ (i + 1) + l1.length ≤ 4 ∧ L1 = l1.length ∧ L1 ≤ c1 from ⟨by omega, by rw [hl1, List.length_drop]; omega, hL1, hcc1⟩)
      have HBY1 := Aside0.mk (show Bytes l1 from by rw [hl1]; exact HBY.out.drop 1)
      have HC1 := Aside0.mk (hC1 w HC.out)
      have HA1 := Aside0.mk (show ∀ ad', A1 = some ad' → ∃ ad, A0 = some ad ∧ ad'.block = ad.block from fun ad' e => by
        obtain ⟨ad2, e2, e3⟩ := hA1 ad' e
        obtain ⟨ad3, e4, e5⟩ := HA.out ad2 e2
        exact ⟨ad3, e4, e3.trans e5⟩)
      have hlt := bya_lt HBY.out 0
      have hlt1 := bya_lt HBY.out 1
      have HN1 := Aside0.mk hn1
      have HLE := Aside0.mk hgi.2.2.1
      have HXL := Aside0.mk (show (out.length + 1) * 72 ≤ 140737488355328 from by have := HOL.out; omega)
      have HL1 := Aside0.mk hl1
      have HDL := Aside0.mk (fun h => drain_low HBY.out hn1 h)
      have HDB := Aside0.mk (fun h => drain_begun HBY.out hn1 h)
      have HDR := Aside0.mk (fun h h0 hh r hw => drain_rune (r := r) HBY.out hn1 h h0 hh hw)
      have HDX := Aside0.mk (fun h h8 hw => drain_bad HBY.out hn1 h h8 hw)
      obtain ⟨c0, hcc⟩ : ∃ c, c = bya l 0 := ⟨_, rfl⟩
      rw [← hcc] at hc0 hc0w hlt HDL HDR HDX
      have HCC := Aside0.mk hcc
      have hltI : (c0 : Int) < 256 := by omega
      have HHC := Aside0.mk hc0
      clear hgi hz hn1 hc0' hcc1 hC1 hA1 hl1 hL1 hcc hc0w
      by_cases h8 : c0 < 128
      · have h8I : (c0 : Int) < 128 := by omega
        have HD := Aside0.mk (HDL.out h8)
        clear h8
        go_wp2_with fail
        refine (printed_c (c0 : Int) wr).mono ?_
        rintro e w5 ⟨rfl, hb⟩
        have HO7 := Aside0.mk (Kd.R_below HO.out hb)
        have HB7 := Aside0.mk (below_kept HB.out hb)
        clear hb hc0
        go_wp2_with (first
          | ((with_reducible refine gate_builtin (b := .append) (xs := #[.tmp 22, .tmp 28]) rfl ?_); at_builtin; go_must ((refine Kd.R_append k37 (w0 := w) w.heap.size rfl (.tmp 22) (.tmp 28) 29 37 (.agg #[(.int .i64 0), (.int .i32 0), (.int .u8 0), (.string ⟨#[]⟩), (.slice none 0 0), (.string ⟨#[]⟩)]) 72 rfl Tryd.underlying29 info37 rfl (by decide) (by omega) u out (printA ((c0 : Int))) [.int .i64 0, .int .i32 ((c0 : Int)), .int .u8 0, .string ⟨#[]⟩, .slice none 0 0, .string ⟨#[]⟩] (fun _ => True) (fun _ => False) rfl (by first | rfl | (go_simp; done) | (go_simp; rfl)) ?aP (fun _ hk => hk.elim) ?aF HO7.out HB7.out HB7.out.size HXL.out ?_; (case aP => exact k37_mkM _ _ _ (printA ((c0 : Int))) (Kd.R_nil _ _ _ _ _)); (case aF => exact fun _ _ => trivial); intro v1 w8 ho hb hg hat; have HO8 := Aside0.mk ho; have HB8 := Aside0.mk hb; clear ho hb hg hat)))
          | fail)
        go_roundg g0
        case measure => omega
        case rel => exact ⟨i + 1, A1, c1, l1, L1, out ++ [printA (c0 : Int)], v1, by first | rfl | go_num | (congr 1; omega), rfl, rfl, HP1, HBY1, HC1, HA1, ⟨by rw [HL1.out, ← HE.out.1, ← HE.out.2, HD.out, printedP_cons]; exact ⟨rfl, rfl⟩⟩, ⟨by rw [List.length_append, List.length_singleton]; have := HOL.out; omega⟩, HO8, HB8⟩
      · have h8I : (128 : Int) ≤ c0 := by omega
        have H8 := Aside0.mk (show 128 ≤ c0 by omega)
        clear h8
        have HBG := Aside0.mk (begins_c (some ad) cp l wr (Kd.C_below HC.out HB.out) HBY.out HN1.out (by have := HLE.out; omega))
        obtain ⟨BG, hBG⟩ : ∃ b, b = beginsB l := ⟨_, rfl⟩
        rw [← hBG, ← HLE.out] at HBG
        have HBB := Aside0.mk hBG
        clear hBG
        go_wp2_with fail
        refine HBG.out.mono ?_
        rintro e w4 ⟨rfl, hb⟩
        have HB4 := Aside0.mk (below_kept HB.out hb)
        have HO4 := Aside0.mk (Kd.R_below HO.out hb)
        have hc04 := (hb.cell (World.block_lt_of_cell? _ ad hc0)).trans hc0
        have HHC4 := Aside0.mk hc04
        clear hb hc0 HBG
        cases BG
        case true =>
          have HD := Aside0.mk (HDB.out HBB.out.symm)
          go_wp2
          go_ret2
          have he := HE.out
          rw [HD.out] at he
          exact ⟨_, some ad, L, cp, rfl, by rw [← he.1]; exact (show Kd.R k37 _ _ _ _ _ (out ++ []) from by rw [List.append_nil]; exact HO4.out), by rw [← he.2]; have h := Kd.C_below HC.out HB4.out; rw [← HLE.out] at h; exact h, HA.out, HB4.out⟩
        case false =>
          have HBF := Aside0.mk HBB.out.symm
          clear HBB
          go_wp2_with fail
          refine (need_c c0 (by omega) w4).mono ?_
          rintro e w5 ⟨rfl, hb⟩
          have HO5 := Aside0.mk (Kd.R_below HO4.out hb)
          have HB5 := Aside0.mk (below_kept HB4.out hb)
          have hc05 := (hb.cell (World.block_lt_of_cell? _ ad hc04)).trans hc04
          obtain ⟨N, hN⟩ : ∃ N, N = needN c0 := ⟨_, rfl⟩
          have hN4 : (N : Int) ≤ 4 := by have := need_le c0; omega
          rw [← hN]
          have HN := Aside0.mk hN
          clear hb hc04 hN
          by_cases hz : N = 0
          · have HBAD := Aside0.mk (HDX.out HBF.out H8.out (.inl (by rw [← HN.out]; exact hz)))
            have hzI : ((N : Int)) ≤ 0 := by omega
            have hzJ : decide ((0 : Int) < N) = false := decide_eq_false (by omega)
            clear hz
            clear hc05
            go_wp2_with fail
            refine (printed_c 65533 w5).mono ?_
            rintro e w9 ⟨rfl, hb⟩
            have HO7 := Aside0.mk (Kd.R_below HO5.out hb)
            have HB7 := Aside0.mk (below_kept HB5.out hb)
            clear hb
            go_wp2_with (first
              | ((with_reducible refine gate_builtin (b := .append) (xs := #[.tmp 64, .tmp 66]) rfl ?_); at_builtin; go_must ((refine Kd.R_append k37 (w0 := w) w.heap.size rfl (.tmp 64) (.tmp 66) 29 37 (.agg #[(.int .i64 0), (.int .i32 0), (.int .u8 0), (.string ⟨#[]⟩), (.slice none 0 0), (.string ⟨#[]⟩)]) 72 rfl Tryd.underlying29 info37 rfl (by decide) (by omega) u out (printA (65533)) [.int .i64 0, .int .i32 (65533), .int .u8 0, .string ⟨#[]⟩, .slice none 0 0, .string ⟨#[]⟩] (fun _ => True) (fun _ => False) rfl (by first | rfl | (go_simp; done) | (go_simp; rfl)) ?aP (fun _ hk => hk.elim) ?aF HO7.out HB7.out HB7.out.size HXL.out ?_; (case aP => exact k37_mkM _ _ _ (printA (65533)) (Kd.R_nil _ _ _ _ _)); (case aF => exact fun _ _ => trivial); intro v1 w8 ho hb hg hat; have HO8 := Aside0.mk ho; have HB8 := Aside0.mk hb; clear ho hb hg hat)))
              | fail)
            go_roundg g0
            case measure => omega
            case rel => exact ⟨i + 1, A1, c1, l1, L1, out ++ [printA 65533], v1, by first | rfl | go_num | (congr 1; omega), rfl, rfl, HP1, HBY1, HC1, HA1, ⟨by rw [HL1.out, ← HE.out.1, ← HE.out.2, HBAD.out, printedP_cons]; exact ⟨rfl, rfl⟩⟩, ⟨by rw [List.length_append, List.length_singleton]; have := HOL.out; omega⟩, HO8, HB8⟩
          · have hzI : (0 : Int) < N := by omega
            have HZ := Aside0.mk hz
            clear hz
            by_cases hle : N ≤ L
            · have hleI : (N : Int) ≤ L := by omega
              obtain ⟨hcut2, hcc2, hC2⟩ := cut_to_ex (P := Tryd.prog) (Kd.int .u8) 42 5 (.int .u8 0) 1 Tryd.underlying42 info_u8 (some ad) cp l (N : Int) (by omega) (by have := HLE.out; omega) (by have := HG.out; omega)
              obtain ⟨A3, c3, hcut3, hcc3, hC3, hA3⟩ := cut_block (P := Tryd.prog) (Kd.int .u8) 42 5 (.int .u8 0) 1 Tryd.underlying42 info_u8 (some ad) cp l (N : Int) (by omega) (by have := HLE.out; omega) (by have := HG.out; omega)
              rw [Int.toNat_natCast] at hcut2 hC2 hcut3 hcc3 hC3
              have hlt3 : (l.take N).length = N := by rw [List.length_take]; have := HLE.out; omega
              have hn0 : needN (bya (l.take N) 0) = N := by rw [bya_take l N 0 (by have := HZ.out; omega), ← HCC.out, HN.out]
              have HWH := Aside0.mk (whole_c (some ad) cp (l.take N) w5 (Kd.C_below (hC2 w HC.out) HB5.out) (fun x hx => HBY.out x (List.mem_of_mem_take hx)) (by rw [hn0]; exact HZ.out) (by rw [hlt3, hn0]))
              have hwt := whole_take l N (by rw [← HCC.out, HN.out]) (by have h5 := (need_128 (c := c0) (by rw [← HN.out]; exact HZ.out)).2; have h6 := HN.out; omega)
              rw [hwt, hlt3] at HWH
              rw [hlt3] at hcut2
              rw [← HLE.out] at hcut2 hcut3
              obtain ⟨o, ho⟩ : ∃ o, o = wholeN (bya l 0) (bya l 1) (bya l 2) (bya l 3) := ⟨_, rfl⟩
              rw [← ho] at HWH
              have HWO := Aside0.mk ho
              obtain ⟨l3, hl3⟩ : ∃ l3, l3 = l.drop N := ⟨_, rfl⟩
              rw [← hl3] at hcut3 hcc3 hC3
              obtain ⟨L3, hL3⟩ : ∃ L3, L3 = l3.length := ⟨_, rfl⟩
              rw [← hL3] at hcut3 hcc3
              have HP3 := Aside0.mk (show g0 + (i + 1) = 5 ∧ (i + 1) + l3.length ≤ 4 ∧ L3 = l3.length ∧ L3 ≤ c3 from ⟨by have := HG.out; omega, by rw [hl3, List.length_drop]; have := HG.out; have := HZ.out; omega, hL3, hcc3⟩)
              have HBY3 := Aside0.mk (show Bytes l3 from by rw [hl3]; exact HBY.out.drop N)
              have HC3 := Aside0.mk (hC3 w HC.out)
              have HA3 := Aside0.mk (show ∀ ad', A3 = some ad' → ∃ ad, A0 = some ad ∧ ad'.block = ad.block from fun ad' e => by
                obtain ⟨ad2, e2, e3⟩ := hA3 ad' e
                obtain ⟨ad3, e4, e5⟩ := HA.out ad2 e2
                exact ⟨ad3, e4, e3.trans e5⟩)
              have HL3 := Aside0.mk hl3
              have HLEN := Aside0.mk (show needN c0 ≤ l.length from by rw [← HN.out, ← HLE.out]; exact hle)
              clear hle hcc2 hC2 hcc3 hC3 hA3 hlt3 hn0 hwt ho hl3 hL3
              go_wp2_with fail
              refine HWH.out.mono ?_
              rintro e w6 ⟨rfl, hb⟩
              have HO6 := Aside0.mk (Kd.R_below HO5.out hb)
              have HB6 := Aside0.mk (below_kept HB5.out hb)
              clear hb HWH hc05
              cases o with
              | some r =>
                have HD := Aside0.mk (HDR.out HBF.out (by rw [← HN.out]; exact HZ.out) HLEN.out r (by rw [HCC.out]; exact HWO.out.symm))
                rw [show wres (some r) = .tuple #[.int .i32 (r : Int), .bool true] from rfl]
                dsimp only
                go_wp2_with fail
                refine (printed_c (r : Int) w6).mono ?_
                rintro e w9 ⟨rfl, hb⟩
                have HO7 := Aside0.mk (Kd.R_below HO6.out hb)
                have HB7 := Aside0.mk (below_kept HB6.out hb)
                clear hb
                go_wp2_with (first
                  | ((with_reducible refine gate_builtin (b := .append) (xs := #[.tmp 56, .tmp 59]) rfl ?_); at_builtin; go_must ((refine Kd.R_append k37 (w0 := w) w.heap.size rfl (.tmp 56) (.tmp 59) 29 37 (.agg #[(.int .i64 0), (.int .i32 0), (.int .u8 0), (.string ⟨#[]⟩), (.slice none 0 0), (.string ⟨#[]⟩)]) 72 rfl Tryd.underlying29 info37 rfl (by decide) (by omega) u out (printA ((r : Int))) [.int .i64 0, .int .i32 ((r : Int)), .int .u8 0, .string ⟨#[]⟩, .slice none 0 0, .string ⟨#[]⟩] (fun _ => True) (fun _ => False) rfl (by first | rfl | (go_simp; done) | (go_simp; rfl)) ?aP (fun _ hk => hk.elim) ?aF HO7.out HB7.out HB7.out.size HXL.out ?_; (case aP => exact k37_mkM _ _ _ (printA ((r : Int))) (Kd.R_nil _ _ _ _ _)); (case aF => exact fun _ _ => trivial); intro v1 w8 ho hb hg hat; have HO8 := Aside0.mk ho; have HB8 := Aside0.mk hb; clear ho hb hg hat)))
                  | fail)
                go_roundg g0
                case measure => omega
                case rel => exact ⟨i + 1, A3, c3, l3, L3, out ++ [printA (r : Int)], v1, by first | rfl | go_num | (congr 1; omega), rfl, rfl, HP3, HBY3, HC3, HA3, ⟨by rw [HL3.out, ← HE.out.1, ← HE.out.2, HD.out, printedP_cons, HN.out]; exact ⟨rfl, rfl⟩⟩, ⟨by rw [List.length_append, List.length_singleton]; have := HOL.out; omega⟩, HO8, HB8⟩
              | none =>
                have HBAD := Aside0.mk (HDX.out HBF.out H8.out (.inr (.inr ⟨by rw [← HN.out]; exact HZ.out, HLEN.out, by rw [HCC.out]; exact HWO.out.symm⟩)))
                rw [show wres none = .tuple #[.int .i32 0, .bool false] from rfl]
                dsimp only
                go_wp2_with fail
                refine (printed_c 65533 w6).mono ?_
                rintro e w9 ⟨rfl, hb⟩
                have HO7 := Aside0.mk (Kd.R_below HO6.out hb)
                have HB7 := Aside0.mk (below_kept HB6.out hb)
                clear hb
                go_wp2_with (first
                  | ((with_reducible refine gate_builtin (b := .append) (xs := #[.tmp 64, .tmp 66]) rfl ?_); at_builtin; go_must ((refine Kd.R_append k37 (w0 := w) w.heap.size rfl (.tmp 64) (.tmp 66) 29 37 (.agg #[(.int .i64 0), (.int .i32 0), (.int .u8 0), (.string ⟨#[]⟩), (.slice none 0 0), (.string ⟨#[]⟩)]) 72 rfl Tryd.underlying29 info37 rfl (by decide) (by omega) u out (printA (65533)) [.int .i64 0, .int .i32 (65533), .int .u8 0, .string ⟨#[]⟩, .slice none 0 0, .string ⟨#[]⟩] (fun _ => True) (fun _ => False) rfl (by first | rfl | (go_simp; done) | (go_simp; rfl)) ?aP (fun _ hk => hk.elim) ?aF HO7.out HB7.out HB7.out.size HXL.out ?_; (case aP => exact k37_mkM _ _ _ (printA (65533)) (Kd.R_nil _ _ _ _ _)); (case aF => exact fun _ _ => trivial); intro v1 w8 ho hb hg hat; have HO8 := Aside0.mk ho; have HB8 := Aside0.mk hb; clear ho hb hg hat)))
                  | fail)
                go_roundg g0
                case measure => omega
                case rel => exact ⟨i + 1, A1, c1, l1, L1, out ++ [printA 65533], v1, by first | rfl | go_num | (congr 1; omega), rfl, rfl, HP1, HBY1, HC1, HA1, ⟨by rw [HL1.out, ← HE.out.1, ← HE.out.2, HBAD.out, printedP_cons]; exact ⟨rfl, rfl⟩⟩, ⟨by rw [List.length_append, List.length_singleton]; have := HOL.out; omega⟩, HO8, HB8⟩
            · have hleI : (L : Int) < N := by omega
              have hleJ : decide ((N : Int) ≤ L) = false := decide_eq_false (by omega)
              have HBAD := Aside0.mk (HDX.out HBF.out H8.out (.inr (.inl (by rw [← HN.out, ← HLE.out]; omega))))
              clear hle
              clear hc05
              go_wp2_with fail
              refine (printed_c 65533 w5).mono ?_
              rintro e w9 ⟨rfl, hb⟩
              have HO7 := Aside0.mk (Kd.R_below HO5.out hb)
              have HB7 := Aside0.mk (below_kept HB5.out hb)
              clear hb
              go_wp2_with (first
                | ((with_reducible refine gate_builtin (b := .append) (xs := #[.tmp 64, .tmp 66]) rfl ?_); at_builtin; go_must ((refine Kd.R_append k37 (w0 := w) w.heap.size rfl (.tmp 64) (.tmp 66) 29 37 (.agg #[(.int .i64 0), (.int .i32 0), (.int .u8 0), (.string ⟨#[]⟩), (.slice none 0 0), (.string ⟨#[]⟩)]) 72 rfl Tryd.underlying29 info37 rfl (by decide) (by omega) u out (printA (65533)) [.int .i64 0, .int .i32 (65533), .int .u8 0, .string ⟨#[]⟩, .slice none 0 0, .string ⟨#[]⟩] (fun _ => True) (fun _ => False) rfl (by first | rfl | (go_simp; done) | (go_simp; rfl)) ?aP (fun _ hk => hk.elim) ?aF HO7.out HB7.out HB7.out.size HXL.out ?_; (case aP => exact k37_mkM _ _ _ (printA (65533)) (Kd.R_nil _ _ _ _ _)); (case aF => exact fun _ _ => trivial); intro v1 w8 ho hb hg hat; have HO8 := Aside0.mk ho; have HB8 := Aside0.mk hb; clear ho hb hg hat)))
                | fail)
              go_roundg g0
              case measure => omega
              case rel => exact ⟨i + 1, A1, c1, l1, L1, out ++ [printA 65533], v1, by first | rfl | go_num | (congr 1; omega), rfl, rfl, HP1, HBY1, HC1, HA1, ⟨by rw [HL1.out, ← HE.out.1, ← HE.out.2, HBAD.out, printedP_cons]; exact ⟨rfl, rfl⟩⟩, ⟨by rw [List.length_append, List.length_singleton]; have := HOL.out; omega⟩, HO8, HB8⟩
end Go.Proofs.YtkdkajcokoggiaaDoor.VtRefR
/- The reference's parser as a value; its New and done. -/
namespace Go.Proofs.YtkdkajcokoggiaaDoor.VtRefK
open Go.RowKit Go.Proofs.YtkdkajcokoggiaaDoor.Kit Go.Proofs.YtkdkajcokoggiaaDoor.Plain Go.Proofs.YtkdkajcokoggiaaDoor.Mine Go.Proofs.YtkdkajcokoggiaaDoor.UtfPure Go.Proofs.YtkdkajcokoggiaaDoor.UtfFeed Go.Proofs.YtkdkajcokoggiaaDoor.VtPure Go.Proofs.YtkdkajcokoggiaaDoor.VtSmall Go.Proofs.YtkdkajcokoggiaaDoorW.PrintWords Go.Proofs.YtkdkajcokoggiaaDoorW.PrintLast Go.Proofs.YtkdkajcokoggiaaDoorW.PrintMore
open Go.Proofs.YtkdkajcokoggiaaDoor.PVtParts (S37 k37 k37_open k37_openM k37_mk k37_mkM)
set_option linter.unusedVariables false
set_option linter.unusedSimpArgs false
def nm0 : ByteArray := ⟨#[103, 114, 111, 117, 110, 100]⟩
theorem nm0_l : nm0.toList = [103, 114, 111, 117, 110, 100] := by simp [nm0, ByteArray.toList_eq]
def nm1 : ByteArray := ⟨#[101, 115, 99, 97, 112, 101]⟩
theorem nm1_l : nm1.toList = [101, 115, 99, 97, 112, 101] := by simp [nm1, ByteArray.toList_eq]
def nm2 : ByteArray := ⟨#[109, 97, 114, 107, 115]⟩
theorem nm2_l : nm2.toList = [109, 97, 114, 107, 115] := by simp [nm2, ByteArray.toList_eq]
def nm3 : ByteArray := ⟨#[101, 110, 116, 114, 121]⟩
theorem nm3_l : nm3.toList = [101, 110, 116, 114, 121] := by simp [nm3, ByteArray.toList_eq]
def nm4 : ByteArray := ⟨#[115, 116, 114, 97, 110, 103, 101]⟩
theorem nm4_l : nm4.toList = [115, 116, 114, 97, 110, 103, 101] := by simp [nm4, ByteArray.toList_eq]
def nm5 : ByteArray := ⟨#[115, 116, 114, 105, 110, 103]⟩
theorem nm5_l : nm5.toList = [115, 116, 114, 105, 110, 103] := by simp [nm5, ByteArray.toList_eq]
def nm6 : ByteArray := ⟨#[100, 101, 118, 105, 99, 101]⟩
theorem nm6_l : nm6.toList = [100, 101, 118, 105, 99, 101] := by simp [nm6, ByteArray.toList_eq]
def nm75 : ByteArray := ⟨#[115, 116, 114, 105, 110, 103, 32, 101, 115, 99]⟩
theorem nm75_l : nm75.toList = [115, 116, 114, 105, 110, 103, 32, 101, 115, 99] := by simp [nm75, ByteArray.toList_eq]
def nm76 : ByteArray := ⟨#[100, 101, 118, 105, 99, 101, 32, 101, 115, 99]⟩
theorem nm76_l : nm76.toList = [100, 101, 118, 105, 99, 101, 32, 101, 115, 99] := by simp [nm76, ByteArray.toList_eq]
/-- The word of a state. -/
def nm (st wi : Int) : ByteArray := if st = 0 then nm0 else if st = 1 then nm1 else if st = 2 then nm2 else if st = 3 then nm3 else if st = 4 then nm4 else if st = 5 then nm5 else if st = 6 then nm6 else if wi = 5 then nm75 else nm76
def qcells (v : PR) (a b : Value) : Array Value := #[.string (nm v.st v.wi), a, .string v.mr, b, .string v.tx]
def qval (v : PR) (a b : Value) : Value := .agg (qcells v a b)
def qzero : Array Value := #[.string ⟨#[]⟩, .slice none 0 0, .string ⟨#[]⟩, .slice none 0 0, .string ⟨#[]⟩]
/-- Acts that are read. -/
def CA (w : World) (u : Value) (l : List S37) : Prop := ∃ (A : Option Addr) (c : Nat), u = .slice A l.length c ∧ Kd.C k37 w A l.length l
theorem CA.of_R {e : Nat} {w : World} {base : Nat} {ok : Nat → Prop} {u : Value} {l : List S37} (h : Kd.R k37 e w base ok u l) : CA w u l := by
  obtain ⟨A, c, rfl⟩ := Kd.R_slice h
  exact ⟨A, c, rfl, (Kd.R_reads' h).2.2⟩
theorem CA.nil (w : World) : CA w (.slice none 0 0) [] := ⟨none, 0, rfl, Kd.C_nil _ _⟩
theorem CA.below {w w1 : World} {u : Value} {l : List S37} (h : CA w u l) (hb : Below w.heap.size w w1) : CA w1 u l := by
  obtain ⟨A, c, e, hc⟩ := h
  exact ⟨A, c, e, Kd.C_below hc hb⟩
/-- What a byte tells, in the reference: the parser that is left, and the acts. -/
def QT (w : World) (A0 : Option Addr) (n0 : Nat) (B0 : Option Addr) (m0 : Nat) (r : PR × List S37) (e : Ending) (w' : World) : Prop := ∃ (u : Value) (A : Option Addr) (n c : Nat) (B : Option Addr) (m d : Nat), e = .returned (.tuple #[qval r.1 (.slice A n c) (.slice B m d), u]) ∧ Kd.C (Kd.int .u8) w' A n r.1.u ∧ (Kd.C (Kd.int .i64) w' B m r.1.ps ∧ m ≤ d) ∧ CA w' u r.2 ∧ Below w.heap.size w w' ∧ (∀ ad, A = some ad → (A = A0 ∧ n = n0) ∨ w.heap.size ≤ ad.block) ∧ (∀ ad, B = some ad → (B = B0 ∧ m = m0) ∨ w.heap.size ≤ ad.block)
/-! A function's two blocks: the parser's own one, and the result's. -/
def Q2 (w W : World) (g gr : Nat) (pc rc : Array Value) : Prop := W.heap[g]? = some (.cells pc 44 (0, 0)) ∧ W.heap[gr]? = some (.cells rc 44 (0, 0)) ∧ w.heap.size ≤ g ∧ w.heap.size ≤ gr ∧ g ≠ gr ∧ Below w.heap.size w W
section
variable {w W W' : World} {g gr : Nat} {pc rc : Array Value}
theorem Q2.on (h : Q2 w W g gr pc rc) (hb : Below W.heap.size W W') : Q2 w W' g gr pc rc := ⟨blk_below h.1 hb, blk_below h.2.1 hb, h.2.2.1, h.2.2.2.1, h.2.2.2.2.1, below_kept h.2.2.2.2.2 hb⟩
theorem Q2.drew (h : Q2 w W g gr pc rc) : Q2 w W.drew g gr pc rc := h.on (below_drew (Below.refl _ _))
theorem Q2.grow (h : Q2 w W g gr pc rc) (hg : W.grownBy W' none) (hb : Below w.heap.size w W') : Q2 w W' g gr pc rc :=
  ⟨(hg.block g (blk_lt h.1) (by simp)).trans h.1, (hg.block gr (blk_lt h.2.1) (by simp)).trans h.2.1, h.2.2.1, h.2.2.2.1, h.2.2.2.2.1, hb⟩
theorem Q2.enter (w : World) (pc rc : Array Value) : Q2 w ((w.alloc (.cells pc 44)).alloc (.cells rc 44)) w.heap.size (w.heap.size + 1) pc rc := by
  have e : (w.alloc (.cells pc 44)).heap.size = w.heap.size + 1 := Array.size_push _
  have h2 := blk_new (w.alloc (.cells pc 44)) (.cells rc 44)
  rw [e] at h2
  exact ⟨blk_alloc (blk_new w _) _, h2, Nat.le_refl _, by omega, by omega, below_alloc (below_alloc (Below.refl _ _) _) _⟩
theorem Q2.set_p (h : Q2 w W g gr pc rc) (i : Nat) (u : Value) {pc' : Array Value} (e : pc.setIfInBounds i u = pc') : Q2 w (W.setCell ⟨g, i, none⟩ u) g gr pc' rc :=
  ⟨blk_put h.1 i u e, ((KeepBut.refl W g none).set_ i u).blk h.2.1 (Ne.symm h.2.2.2.2.1) (by simp), h.2.2.1, h.2.2.2.1, h.2.2.2.2.1, h.2.2.2.2.2.setCell h.2.2.1 _⟩
theorem Q2.set_r (h : Q2 w W g gr pc rc) (i : Nat) (u : Value) {rc' : Array Value} (e : rc.setIfInBounds i u = rc') : Q2 w (W.setCell ⟨gr, i, none⟩ u) g gr pc rc' :=
  ⟨((KeepBut.refl W gr none).set_ i u).blk h.1 h.2.2.2.2.1 (by simp), blk_put h.2.1 i u e, h.2.2.1, h.2.2.2.1, h.2.2.2.2.1, h.2.2.2.2.2.setCell h.2.2.2.1 _⟩
theorem Q2.ret {r0 r1 r2 r3 r4 : Value} (h : Q2 w W g gr pc #[r0, r1, r2, r3, r4]) (v0 v1 v2 v3 v4 : Value) : Q2 w (((((W.setCell ⟨gr, 0, none⟩ v0).setCell ⟨gr, 1, none⟩ v1).setCell ⟨gr, 2, none⟩ v2).setCell ⟨gr, 3, none⟩ v3).setCell ⟨gr, 4, none⟩ v4) g gr pc #[v0, v1, v2, v3, v4] := by
  have h0 : Q2 w (W.setCell ⟨gr, 0, none⟩ v0) g gr pc #[v0, r1, r2, r3, r4] := h.set_r 0 v0 rfl
  have h1 : Q2 w ((W.setCell ⟨gr, 0, none⟩ v0).setCell ⟨gr, 1, none⟩ v1) g gr pc #[v0, v1, r2, r3, r4] := h0.set_r 1 v1 rfl
  have h2 : Q2 w (((W.setCell ⟨gr, 0, none⟩ v0).setCell ⟨gr, 1, none⟩ v1).setCell ⟨gr, 2, none⟩ v2) g gr pc #[v0, v1, v2, r3, r4] := h1.set_r 2 v2 rfl
  have h3 : Q2 w ((((W.setCell ⟨gr, 0, none⟩ v0).setCell ⟨gr, 1, none⟩ v1).setCell ⟨gr, 2, none⟩ v2).setCell ⟨gr, 3, none⟩ v3) g gr pc #[v0, v1, v2, v3, r4] := h2.set_r 3 v3 rfl
  have h4 : Q2 w (((((W.setCell ⟨gr, 0, none⟩ v0).setCell ⟨gr, 1, none⟩ v1).setCell ⟨gr, 2, none⟩ v2).setCell ⟨gr, 3, none⟩ v3).setCell ⟨gr, 4, none⟩ v4) g gr pc #[v0, v1, v2, v3, v4] := h3.set_r 4 v4 rfl
  exact h4
theorem Q2.own {r0 r1 r2 r3 r4 : Value} (h : Q2 w W g gr #[r0, r1, r2, r3, r4] rc) (v0 v1 v2 v3 v4 : Value) : Q2 w (((((W.setCell ⟨g, 0, none⟩ v0).setCell ⟨g, 1, none⟩ v1).setCell ⟨g, 2, none⟩ v2).setCell ⟨g, 3, none⟩ v3).setCell ⟨g, 4, none⟩ v4) g gr #[v0, v1, v2, v3, v4] rc := by
  have h0 : Q2 w (W.setCell ⟨g, 0, none⟩ v0) g gr #[v0, r1, r2, r3, r4] rc := h.set_p 0 v0 rfl
  have h1 : Q2 w ((W.setCell ⟨g, 0, none⟩ v0).setCell ⟨g, 1, none⟩ v1) g gr #[v0, v1, r2, r3, r4] rc := h0.set_p 1 v1 rfl
  have h2 : Q2 w (((W.setCell ⟨g, 0, none⟩ v0).setCell ⟨g, 1, none⟩ v1).setCell ⟨g, 2, none⟩ v2) g gr #[v0, v1, v2, r3, r4] rc := h1.set_p 2 v2 rfl
  have h3 : Q2 w ((((W.setCell ⟨g, 0, none⟩ v0).setCell ⟨g, 1, none⟩ v1).setCell ⟨g, 2, none⟩ v2).setCell ⟨g, 3, none⟩ v3) g gr #[v0, v1, v2, v3, r4] rc := h2.set_p 3 v3 rfl
  have h4 : Q2 w (((((W.setCell ⟨g, 0, none⟩ v0).setCell ⟨g, 1, none⟩ v1).setCell ⟨g, 2, none⟩ v2).setCell ⟨g, 3, none⟩ v3).setCell ⟨g, 4, none⟩ v4) g gr #[v0, v1, v2, v3, v4] rc := h3.set_p 4 v4 rfl
  exact h4
theorem keep5 (W : World) (g : Nat) (v0 v1 v2 v3 v4 : Value) : KeepBut W (((((W.setCell ⟨g, 0, none⟩ v0).setCell ⟨g, 1, none⟩ v1).setCell ⟨g, 2, none⟩ v2).setCell ⟨g, 3, none⟩ v3).setCell ⟨g, 4, none⟩ v4) g none := by
  have h0 : KeepBut W (W.setCell ⟨g, 0, none⟩ v0) g none := (KeepBut.refl W g none).set_ 0 v0
  have h1 : KeepBut W ((W.setCell ⟨g, 0, none⟩ v0).setCell ⟨g, 1, none⟩ v1) g none := h0.set_ 1 v1
  have h2 : KeepBut W (((W.setCell ⟨g, 0, none⟩ v0).setCell ⟨g, 1, none⟩ v1).setCell ⟨g, 2, none⟩ v2) g none := h1.set_ 2 v2
  have h3 : KeepBut W ((((W.setCell ⟨g, 0, none⟩ v0).setCell ⟨g, 1, none⟩ v1).setCell ⟨g, 2, none⟩ v2).setCell ⟨g, 3, none⟩ v3) g none := h2.set_ 3 v3
  have h4 : KeepBut W (((((W.setCell ⟨g, 0, none⟩ v0).setCell ⟨g, 1, none⟩ v1).setCell ⟨g, 2, none⟩ v2).setCell ⟨g, 3, none⟩ v3).setCell ⟨g, 4, none⟩ v4) g none := h3.set_ 4 v4
  exact h4
theorem Q2.cells {v : PR} {a b : Value} (h : Q2 w W g gr pc rc) (e : pc = qcells v a b) :
    W.cell? ⟨g, 0, none⟩ = some (.string (nm v.st v.wi)) ∧ W.cell? ⟨g, 1, none⟩ = some a ∧ W.cell? ⟨g, 2, none⟩ = some (.string v.mr) ∧ W.cell? ⟨g, 3, none⟩ = some b ∧ W.cell? ⟨g, 4, none⟩ = some (.string v.tx) := by
  subst e
  exact ⟨(blk_cell h.1 0).trans rfl, (blk_cell h.1 1).trans rfl, (blk_cell h.1 2).trans rfl, (blk_cell h.1 3).trans rfl, (blk_cell h.1 4).trans rfl⟩
theorem Q2.zero (h : Q2 w W g gr pc qzero) :
    W.cell? ⟨gr, 0, none⟩ = some (.string ⟨#[]⟩) ∧ W.cell? ⟨gr, 1, none⟩ = some (.slice none 0 0) ∧ W.cell? ⟨gr, 2, none⟩ = some (.string ⟨#[]⟩) ∧ W.cell? ⟨gr, 3, none⟩ = some (.slice none 0 0) ∧ W.cell? ⟨gr, 4, none⟩ = some (.string ⟨#[]⟩) :=
  ⟨(blk_cell h.2.1 0).trans rfl, (blk_cell h.2.1 1).trans rfl, (blk_cell h.2.1 2).trans rfl, (blk_cell h.2.1 3).trans rfl, (blk_cell h.2.1 4).trans rfl⟩
theorem Q2.thaw (h : Q2 w W g gr pc rc) : W.frozen? ⟨gr, 0, none⟩ = false ∧ W.frozen? ⟨gr, 1, none⟩ = false ∧ W.frozen? ⟨gr, 2, none⟩ = false ∧ W.frozen? ⟨gr, 3, none⟩ = false ∧ W.frozen? ⟨gr, 4, none⟩ = false :=
  ⟨blk_frozen h.2.1 0, blk_frozen h.2.1 1, blk_frozen h.2.1 2, blk_frozen h.2.1 3, blk_frozen h.2.1 4⟩
theorem Q2.thawp (h : Q2 w W g gr pc rc) : W.frozen? ⟨g, 0, none⟩ = false ∧ W.frozen? ⟨g, 1, none⟩ = false ∧ W.frozen? ⟨g, 2, none⟩ = false ∧ W.frozen? ⟨g, 3, none⟩ = false ∧ W.frozen? ⟨g, 4, none⟩ = false :=
  ⟨blk_frozen h.1 0, blk_frozen h.1 1, blk_frozen h.1 2, blk_frozen h.1 3, blk_frozen h.1 4⟩
end
set_option maxHeartbeats 800000 in
set_option maxRecDepth 100000 in
theorem new_c (w : World) : Calls Tryd.prog 15 #[] w fun e w' => e = .returned (.agg #[.string nm0, .slice none 0 0, .string ⟨#[]⟩, .slice none 0 0, .string ⟨#[]⟩]) ∧ Below w.heap.size w w' := by
  have hu := Tryd.underlying44
  go_enter Tryd.func15, Tryd.ntmps15
  go_wp2
  have hb := below_alloc (Below.refl w.heap.size w) (.cells (qcells (atP 0) (.slice none 0 0) (.slice none 0 0)) 44)
  have hg := blk_new w (.cells (qcells (atP 0) (.slice none 0 0) (.slice none 0 0)) 44)
  exact bodyPost_ret (results_single Tryd.results15 (.cell w.heap.size 44 (qcells (atP 0) (.slice none 0 0) (.slice none 0 0)) (0, 0) _ rfl hg hu rfl (by kernel_rfl) .nil)) rfl ⟨rfl, hb⟩
end Go.Proofs.YtkdkajcokoggiaaDoor.VtRefK
/- The reference's done, as a contract. -/
namespace Go.Proofs.YtkdkajcokoggiaaDoor.VtRefD
open Go.RowKit Go.Proofs.YtkdkajcokoggiaaDoor.Kit Go.Proofs.YtkdkajcokoggiaaDoor.Plain Go.Proofs.YtkdkajcokoggiaaDoor.Mine Go.Proofs.YtkdkajcokoggiaaDoor.UtfPure Go.Proofs.YtkdkajcokoggiaaDoor.UtfFeed Go.Proofs.YtkdkajcokoggiaaDoor.VtPure Go.Proofs.YtkdkajcokoggiaaDoor.VtSmall Go.Proofs.YtkdkajcokoggiaaDoor.VtEsc Go.Proofs.YtkdkajcokoggiaaDoor.VtRefK Go.Proofs.YtkdkajcokoggiaaDoorW.PrintWords Go.Proofs.YtkdkajcokoggiaaDoorW.PrintLast Go.Proofs.YtkdkajcokoggiaaDoorW.PrintMore
open Go.Proofs.YtkdkajcokoggiaaDoor.PVtParts (S37 k37 k37_open k37_openM k37_mk k37_mkM)
set_option linter.unusedVariables false
set_option linter.unusedSimpArgs false
set_option maxHeartbeats 1600000 in
set_option maxRecDepth 100000 in
theorem done_k (nk : ByteArray) (kd : Int) (hk : (nk = nm5 ∧ kd = 4) ∨ (nk = nm75 ∧ kd = 4) ∨ (nk = nm76 ∧ kd = 5)) (a b : Value) (mr tx : ByteArray) (w : World) : Calls Tryd.prog 28 #[.agg #[.string nk, a, .string mr, b, .string tx]] w fun e w' => ∃ u, e = .returned (.tuple #[.agg #[.string nm0, .slice none 0 0, .string ⟨#[]⟩, .slice none 0 0, .string ⟨#[]⟩], u]) ∧ Kd.R k37 37 w' w.heap.size (fun _ => True) u [strA kd tx] ∧ Below w.heap.size w w' := by
  have hup := Tryd.underlying44
  have hua := Tryd.underlying37
  have HK := Aside0.mk hk
  clear hk
  obtain ⟨pc, hpc⟩ : ∃ pc : Array Value, pc = #[.string nk, a, .string mr, b, .string tx] := ⟨_, rfl⟩
  rw [show (.agg #[.string nk, a, .string mr, b, .string tx] : Value) = .agg pc from by rw [hpc]]
  have HPC := Aside0.mk hpc
  clear hpc
  go_enter Tryd.func28, Tryd.ntmps28
  go_upto_region 0 with fail
  go_cut [1, 2, 3] (fun v1 v2 v3 W => ∃ g gr : Nat, v1 = .pointer (some ⟨g, 0, none⟩) ∧ v2 = .pointer (some ⟨gr, 0, none⟩) ∧ v3 = .slice none 0 0 ∧ Aside0 (Q2 w W g gr pc qzero))
  case first =>
    go_wp2_with fail
    go_meet
    case rel => exact ⟨_, _, rfl, rfl, rfl, ⟨Q2.enter w pc qzero⟩⟩
  case rest =>
    obtain ⟨g, gr, rfl, rfl, rfl, HV⟩ := hcut
    have k0 : wc.cell? ⟨g, 0, none⟩ = some (.string nk) := (blk_cell HV.out.1 0).trans (by rw [HPC.out]; rfl)
    have HKD := Aside0.mk (show kd = 4 ∨ kd = 5 from by rcases HK.out with ⟨_, h⟩ | ⟨_, h⟩ | ⟨_, h⟩ <;> simp [h])
    go_upto_region 2 with fail
    go_cut [12] from 5 to 13 (fun v12 W => v12 = .bool (decide (kd = 5)) ∧ W = wc)
    case first =>
      clear HPC HKD
      rcases HK.out with ⟨rfl, rfl⟩ | ⟨rfl, rfl⟩ | ⟨rfl, rfl⟩
      · have hn := nm5_l
        go_wp2_with fail
        go_meet
        case rel => exact ⟨rfl, rfl⟩
      · have hn := nm75_l
        go_wp2_with fail
        go_meet
        case rel => exact ⟨rfl, rfl⟩
      · have hn := nm76_l
        go_wp2_with fail
        go_meet
        case rel => exact ⟨rfl, rfl⟩
    case rest =>
      obtain ⟨rfl, hW⟩ := hcut
      subst hW
      clear k0 HK
      go_upto_if 12 with fail
      go_cut [4] from 9000 to 9000 (fun v4 W => v4 = .int .i64 kd ∧ W = wc)
      case first =>
        clear HPC
        rcases HKD.out with rfl | rfl
        · have hd : decide ((4 : Int) = 5) = false := rfl
          go_wp2_with fail
          go_meet
          case rel => exact ⟨rfl, rfl⟩
        · have hd : decide ((5 : Int) = 5) = true := rfl
          go_wp2_with fail
          go_meet
          case rel => exact ⟨rfl, rfl⟩
      case rest =>
        obtain ⟨rfl, hW⟩ := hcut
        subst hW
        clear HKD
        go_upto_region 4 with fail
        have HVd := Aside0.mk HV.out.drew
        refine start_ (n := 8) (S := fun w' => w'.cell? ⟨g, 4, none⟩ = some (.string tx)) (ds := []) #[false, false, false, false, false, false, false, false] (by kernel_rfl) rfl rfl (((blk_cell HVd.out.1 4).trans (by rw [HPC.out]; rfl))) (fun hHeld => ?_)
        refine pure_ (i := 1) (N := some 14) (v := ?_) (a' := ?_) #[false, true, false, false, false, false, false, false] rfl rfl (by kernel_rfl) (fun _ _ _ h => h) (Or.inl ⟨by rfl, ?_⟩) ?_ ?_
        rotate_left
        · intro w'
          go_simp
          with_reducible rfl
        rotate_left
        · simp only [Act.put, List.setIfInBounds_toArray, List.set_cons_zero, List.set_cons_succ, i64_w, i32_w]
          rfl
        refine pure_ (i := 2) (N := some 15) (v := ?_) (a' := ?_) #[false, true, true, false, false, false, false, false] rfl rfl (by kernel_rfl) (fun _ _ _ h => h) (Or.inl ⟨by rfl, ?_⟩) ?_ ?_
        rotate_left
        · intro w'
          go_simp
          with_reducible rfl
        rotate_left
        · simp only [Act.put, List.setIfInBounds_toArray, List.set_cons_zero, List.set_cons_succ, i64_w, i32_w]
          rfl
        refine take_ (i := 3) (N := some 16) (v := ?_) (a' := ?_) #[false, true, true, true, false, false, false, false] rfl rfl (by kernel_rfl) (fun _ _ _ h => h) (Or.inl ⟨by rfl, ?_⟩) hHeld ?_ ?_
        rotate_left
        · intro w' s0
          go_simp
          with_reducible rfl
        rotate_left
        · simp only [Act.put, List.setIfInBounds_toArray, List.set_cons_zero, List.set_cons_succ, i64_w, i32_w]
          rfl
        refine pure_ (i := 4) (N := some 17) (v := ?_) (a' := ?_) #[false, true, true, true, true, false, false, false] rfl rfl (by kernel_rfl) (fun _ _ _ h => h) (Or.inl ⟨by rfl, ?_⟩) ?_ ?_
        rotate_left
        · intro w'
          go_simp
          with_reducible rfl
        rotate_left
        · simp only [Act.put, List.setIfInBounds_toArray, List.set_cons_zero, List.set_cons_succ, i64_w, i32_w]
          rfl
        refine join_ (σ := Value) 1 #[true, true, true, true, true, true, true, false] (fun s => [(13, .agg #[.string nm0, .slice none 0 0, .string ⟨#[]⟩, .slice none 0 0, .string ⟨#[]⟩]), (18, s)]) (fun s w' => Q2 w w' g gr pc #[.string nm0, .slice none 0 0, .string ⟨#[]⟩, .slice none 0 0, .string ⟨#[]⟩] ∧ Kd.R k37 37 w' w.heap.size (fun k => k ≠ g ∧ k ≠ gr) s [strA kd tx]) ?_ ?_
        rotate_left
        · intro hCont
          refine two_ (i := 0) (j := 5) (Ni := some 13) (Nj := some 18) #[true, true, true, true, true, false, false, false] #[false, true, true, true, true, true, false, false] rfl rfl rfl rfl (by kernel_rfl) (by decide) (by decide) (fun K hK => ?_) (fun K hK => ?_)
          · skip
            refine goes_ Tryd.func15 (by kernel_rfl) rfl #[] (by rfl) rfl rfl (by simp only [List.map_toArray, List.map_nil]) ?_
            with_reducible refine ((new_c _)).mono ?_
            rintro e wa ⟨rfl, hb⟩
            refine ⟨_, rfl, ?_⟩
            have HVa := Aside0.mk (HVd.out.on hb)
            clear hb
            refine hK.out _ _ (((blk_cell HVa.out.1 4).trans (by rw [HPC.out]; rfl))) (fun hHeld => ?_)
            clear hK K
            refine norm_ (a' := ?_) ?_ ?_
            rotate_left
            · show Act.put _ (some 13) _ = _
              simp only [Act.put, List.setIfInBounds_toArray, List.set_cons_zero, List.set_cons_succ, i64_w, i32_w]
              rfl
            refine two_ (i := 5) (j := 6) (Ni := some 18) (Nj := none) #[true, true, true, true, true, true, false, false] #[true, true, true, true, true, false, true, false] rfl rfl rfl rfl (by kernel_rfl) (by decide) (by decide) (fun K hK => ?_) (fun K hK => ?_)
            · skip
              refine Kd.R_lit_step k37 (w0 := w) w.heap.size 37 (by rfl) rfl (xs := [strA kd tx]) (inner := [.int .i64 kd, .int .i32 0, .int .u8 0, .string ⟨#[]⟩, .slice none 0 0, .string tx]) (ok := fun k => k ≠ g ∧ k ≠ gr) (okp := fun _ => False) ?lr ?lp (fun _ h => h.elim) ?lf HVa.out.2.2.2.2.2 HVa.out.2.2.2.2.2.size (by simp) ?_; (case lr => first | (go_simp; done) | (go_simp; rfl)); (case lp => exact reps_one rfl (k37_mkM _ _ _ (strA kd tx) (Kd.R_nil _ _ _ _ _))); (case lf => exact ⟨Ne.symm (Nat.ne_of_lt (blk_lt HVa.out.1)), Ne.symm (Nat.ne_of_lt (blk_lt HVa.out.2.1))⟩)
              intro vl wl ho hb hg hw
              have HVl := Aside0.mk (HVa.out.grow hg hb)
              have HRl := Aside0.mk ho
              clear ho hb hg hw
              refine hK.out _ _ (((blk_cell HVl.out.1 4).trans (by rw [HPC.out]; rfl))) (fun hHeld => ?_)
              clear hK K
              refine norm_ (a' := ?_) ?_ ?_
              rotate_left
              · show Act.put _ (some 18) _ = _
                simp only [Act.put, List.setIfInBounds_toArray, List.set_cons_zero, List.set_cons_succ, i64_w, i32_w]
                rfl
              refine one_ (i := 6) (N := none) #[true, true, true, true, true, true, true, false] rfl rfl (by kernel_rfl) (by decide) (fun K hK => ?_)
              obtain ⟨z0, z1, z2, z3, z4⟩ := HVl.out.zero
              obtain ⟨y0, y1, y2, y3, y4⟩ := HVl.out.thaw
              refine skip_ (w1 := ?_) (by rfl) rfl ?_ ?_
              rotate_left
              · go_simp
                rfl
              have HVs := Aside0.mk (HVl.out.ret (.string nm0) (.slice none 0 0) (.string ⟨#[]⟩) (.slice none 0 0) (.string ⟨#[]⟩))
              refine hK.out _ _ (((blk_cell HVs.out.1 4).trans (by rw [HPC.out]; rfl))) (fun hHeld => ?_)
              clear hK K
              exact norm_ (by simp only [putAll, Act.put, List.setIfInBounds_toArray, List.set_cons_zero, List.set_cons_succ]) (hCont vl _ ⟨HVs.out, Kd.R_keep HRl.out (keep5 _ _ _ _ _ _ _) (fun k h => h.2)⟩)
            · skip
              obtain ⟨z0, z1, z2, z3, z4⟩ := HVa.out.zero
              obtain ⟨y0, y1, y2, y3, y4⟩ := HVa.out.thaw
              refine skip_ (w1 := ?_) (by rfl) rfl ?_ ?_
              rotate_left
              · go_simp
                rfl
              have HVs := Aside0.mk (HVa.out.ret (.string nm0) (.slice none 0 0) (.string ⟨#[]⟩) (.slice none 0 0) (.string ⟨#[]⟩))
              refine hK.out _ _ (((blk_cell HVs.out.1 4).trans (by rw [HPC.out]; rfl))) (fun hHeld => ?_)
              clear hK K
              refine one_ (i := 5) (N := some 18) #[true, true, true, true, true, true, true, false] rfl rfl (by kernel_rfl) (by decide) (fun K hK => ?_)
              refine Kd.R_lit_step k37 (w0 := w) w.heap.size 37 (by rfl) rfl (xs := [strA kd tx]) (inner := [.int .i64 kd, .int .i32 0, .int .u8 0, .string ⟨#[]⟩, .slice none 0 0, .string tx]) (ok := fun k => k ≠ g ∧ k ≠ gr) (okp := fun _ => False) ?lr ?lp (fun _ h => h.elim) ?lf HVs.out.2.2.2.2.2 HVs.out.2.2.2.2.2.size (by simp) ?_; (case lr => first | (go_simp; done) | (go_simp; rfl)); (case lp => exact reps_one rfl (k37_mkM _ _ _ (strA kd tx) (Kd.R_nil _ _ _ _ _))); (case lf => exact ⟨Ne.symm (Nat.ne_of_lt (blk_lt HVs.out.1)), Ne.symm (Nat.ne_of_lt (blk_lt HVs.out.2.1))⟩)
              intro vl wl ho hb hg hw
              have HVl := Aside0.mk (HVs.out.grow hg hb)
              have HRl := Aside0.mk ho
              clear ho hb hg hw
              refine hK.out _ _ (((blk_cell HVl.out.1 4).trans (by rw [HPC.out]; rfl))) (fun hHeld => ?_)
              clear hK K
              refine norm_ (a' := ?_) ?_ ?_
              rotate_left
              · show Act.put _ (some 18) _ = _
                simp only [Act.put, List.setIfInBounds_toArray, List.set_cons_zero, List.set_cons_succ, i64_w, i32_w]
                rfl
              exact norm_ (by simp only [putAll, Act.put, List.setIfInBounds_toArray, List.set_cons_zero, List.set_cons_succ]) (hCont vl _ ⟨HVl.out, HRl.out⟩)
          · skip
            refine Kd.R_lit_step k37 (w0 := w) w.heap.size 37 (by rfl) rfl (xs := [strA kd tx]) (inner := [.int .i64 kd, .int .i32 0, .int .u8 0, .string ⟨#[]⟩, .slice none 0 0, .string tx]) (ok := fun k => k ≠ g ∧ k ≠ gr) (okp := fun _ => False) ?lr ?lp (fun _ h => h.elim) ?lf HVd.out.2.2.2.2.2 HVd.out.2.2.2.2.2.size (by simp) ?_; (case lr => first | (go_simp; done) | (go_simp; rfl)); (case lp => exact reps_one rfl (k37_mkM _ _ _ (strA kd tx) (Kd.R_nil _ _ _ _ _))); (case lf => exact ⟨Ne.symm (Nat.ne_of_lt (blk_lt HVd.out.1)), Ne.symm (Nat.ne_of_lt (blk_lt HVd.out.2.1))⟩)
            intro vl wl ho hb hg hw
            have HVl := Aside0.mk (HVd.out.grow hg hb)
            have HRl := Aside0.mk ho
            clear ho hb hg hw
            refine hK.out _ _ (((blk_cell HVl.out.1 4).trans (by rw [HPC.out]; rfl))) (fun hHeld => ?_)
            clear hK K
            refine norm_ (a' := ?_) ?_ ?_
            rotate_left
            · show Act.put _ (some 18) _ = _
              simp only [Act.put, List.setIfInBounds_toArray, List.set_cons_zero, List.set_cons_succ, i64_w, i32_w]
              rfl
            refine one_ (i := 0) (N := some 13) #[true, true, true, true, true, true, false, false] rfl rfl (by kernel_rfl) (by decide) (fun K hK => ?_)
            refine goes_ Tryd.func15 (by kernel_rfl) rfl #[] (by rfl) rfl rfl (by simp only [List.map_toArray, List.map_nil]) ?_
            with_reducible refine ((new_c _)).mono ?_
            rintro e wa ⟨rfl, hb⟩
            refine ⟨_, rfl, ?_⟩
            have HVa := Aside0.mk (HVl.out.on hb)
            have HRa := Aside0.mk (Kd.R_below HRl.out hb)
            clear hb
            refine hK.out _ _ (((blk_cell HVa.out.1 4).trans (by rw [HPC.out]; rfl))) (fun hHeld => ?_)
            clear hK K
            refine norm_ (a' := ?_) ?_ ?_
            rotate_left
            · show Act.put _ (some 13) _ = _
              simp only [Act.put, List.setIfInBounds_toArray, List.set_cons_zero, List.set_cons_succ, i64_w, i32_w]
              rfl
            refine one_ (i := 6) (N := none) #[true, true, true, true, true, true, true, false] rfl rfl (by kernel_rfl) (by decide) (fun K hK => ?_)
            obtain ⟨z0, z1, z2, z3, z4⟩ := HVa.out.zero
            obtain ⟨y0, y1, y2, y3, y4⟩ := HVa.out.thaw
            refine skip_ (w1 := ?_) (by rfl) rfl ?_ ?_
            rotate_left
            · go_simp
              rfl
            have HVs := Aside0.mk (HVa.out.ret (.string nm0) (.slice none 0 0) (.string ⟨#[]⟩) (.slice none 0 0) (.string ⟨#[]⟩))
            refine hK.out _ _ (((blk_cell HVs.out.1 4).trans (by rw [HPC.out]; rfl))) (fun hHeld => ?_)
            clear hK K
            exact norm_ (by simp only [putAll, Act.put, List.setIfInBounds_toArray, List.set_cons_zero, List.set_cons_succ]) (hCont vl _ ⟨HVs.out, Kd.R_keep HRa.out (keep5 _ _ _ _ _ _ _) (fun k h => h.2)⟩)
        rintro vs ws ⟨hvs, hrs⟩
        have HVz := Aside0.mk hvs
        have HRz := Aside0.mk hrs
        have hHeld : ws.cell? ⟨g, 4, none⟩ = some (.string tx) := ((blk_cell HVz.out.1 4).trans (by rw [HPC.out]; rfl))
        clear hvs hrs
        refine norm_ (a' := ?_) ?_ ?_
        rotate_left
        · simp only [putAll, Act.put, List.setIfInBounds_toArray, List.set_cons_zero, List.set_cons_succ]
          rfl
        refine pure_ (i := 7) (N := some 3) (v := ?_) (a' := ?_) #[true, true, true, true, true, true, true, true] rfl rfl (by kernel_rfl) (fun _ _ _ h => h) (Or.inl ⟨by rfl, ?_⟩) ?_ ?_
        rotate_left
        · intro w'
          go_simp
          with_reducible rfl
        rotate_left
        · simp only [Act.put, List.setIfInBounds_toArray, List.set_cons_zero, List.set_cons_succ, i64_w, i32_w]
          rfl
        refine done_ (by kernel_rfl) ?_
        go_wp2
        exact bodyPost_ret (results_ct Tryd.results28 _ _ gr 44 #[.string nm0, .slice none 0 0, .string ⟨#[]⟩, .slice none 0 0, .string ⟨#[]⟩] (0, 0) _ rfl HVz.out.2.1 hup rfl (by kernel_rfl)) rfl ⟨vs, rfl, Kd.R_mono HRz.out (fun _ _ => trivial), HVz.out.2.2.2.2.2⟩
theorem done_5 (a b : Value) (mr tx : ByteArray) (w : World) : Calls Tryd.prog 28 #[.agg #[.string nm5, a, .string mr, b, .string tx]] w fun e w' => ∃ u, e = .returned (.tuple #[.agg #[.string nm0, .slice none 0 0, .string ⟨#[]⟩, .slice none 0 0, .string ⟨#[]⟩], u]) ∧ Kd.R k37 37 w' w.heap.size (fun _ => True) u [strA 4 tx] ∧ Below w.heap.size w w' := done_k nm5 4 (by simp) a b mr tx w
theorem done_75 (a b : Value) (mr tx : ByteArray) (w : World) : Calls Tryd.prog 28 #[.agg #[.string nm75, a, .string mr, b, .string tx]] w fun e w' => ∃ u, e = .returned (.tuple #[.agg #[.string nm0, .slice none 0 0, .string ⟨#[]⟩, .slice none 0 0, .string ⟨#[]⟩], u]) ∧ Kd.R k37 37 w' w.heap.size (fun _ => True) u [strA 4 tx] ∧ Below w.heap.size w w' := done_k nm75 4 (by simp) a b mr tx w
theorem done_76 (a b : Value) (mr tx : ByteArray) (w : World) : Calls Tryd.prog 28 #[.agg #[.string nm76, a, .string mr, b, .string tx]] w fun e w' => ∃ u, e = .returned (.tuple #[.agg #[.string nm0, .slice none 0 0, .string ⟨#[]⟩, .slice none 0 0, .string ⟨#[]⟩], u]) ∧ Kd.R k37 37 w' w.heap.size (fun _ => True) u [strA 5 tx] ∧ Below w.heap.size w w' := done_k nm76 5 (by simp) a b mr tx w
end Go.Proofs.YtkdkajcokoggiaaDoor.VtRefD
/- The reference's texts, as a contract. -/
namespace Go.Proofs.YtkdkajcokoggiaaDoor.VtRefT
open Go.RowKit Go.Proofs.YtkdkajcokoggiaaDoor.Kit Go.Proofs.YtkdkajcokoggiaaDoor.Plain Go.Proofs.YtkdkajcokoggiaaDoor.Mine Go.Proofs.YtkdkajcokoggiaaDoor.UtfPure Go.Proofs.YtkdkajcokoggiaaDoor.UtfFeed Go.Proofs.YtkdkajcokoggiaaDoor.VtPure Go.Proofs.YtkdkajcokoggiaaDoor.VtSmall Go.Proofs.YtkdkajcokoggiaaDoor.VtEsc Go.Proofs.YtkdkajcokoggiaaDoor.VtRefK Go.Proofs.YtkdkajcokoggiaaDoor.VtRefD Go.Proofs.YtkdkajcokoggiaaDoorW.PrintWords Go.Proofs.YtkdkajcokoggiaaDoorW.PrintLast Go.Proofs.YtkdkajcokoggiaaDoorW.PrintMore
open Go.Proofs.YtkdkajcokoggiaaDoor.PVtParts (S37 k37 k37_open k37_openM k37_mk k37_mkM)
set_option linter.unusedVariables false
set_option linter.unusedSimpArgs false
theorem cat5 : nm5 ++ ⟨#[32, 101, 115, 99]⟩ = nm75 := by decide
set_option maxHeartbeats 3200000 in
set_option maxRecDepth 100000 in
theorem texts_5 (u ps : List Int) (mk tx : ByteArray) (wi : Int) (A : Option Addr) (n cu : Nat) (B : Option Addr) (m d : Nat) (c : Int) (w : World) (hc : 0 ≤ c ∧ c < 256) (hu : Kd.C (Kd.int .u8) w A n u) (hps : Kd.C (Kd.int .i64) w B m ps) (hmd : m ≤ d) :
    Calls Tryd.prog 27 #[.agg #[.string nm5, .slice A n cu, .string mk, .slice B m d, .string tx], .int .u8 c] w (QT w A n B m (stringP ⟨5, u, mk, ps, tx, wi⟩ c)) := by
  have hup := Tryd.underlying44
  have hua := Tryd.underlying37
  have hCV := conv1 c hc
  have hc1 := hc.1
  have hc2 : c ≤ 255 := by omega
  have HU := Aside0.mk hu
  have HPS := Aside0.mk hps
  have HMD := Aside0.mk hmd
  clear hc hu hps hmd
  obtain ⟨pc, hpc⟩ : ∃ pc : Array Value, pc = #[.string nm5, .slice A n cu, .string mk, .slice B m d, .string tx] := ⟨_, rfl⟩
  rw [show (.agg #[.string nm5, .slice A n cu, .string mk, .slice B m d, .string tx] : Value) = .agg pc from by rw [hpc]]
  have HPC := Aside0.mk hpc
  clear hpc
  go_enter Tryd.func27, Tryd.ntmps27
  go_upto_region 0 with fail
  go_cut [2, 4, 5] (fun va vb vc W => ∃ g gr : Nat, va = .pointer (some ⟨g, 0, none⟩) ∧ vb = .pointer (some ⟨gr, 0, none⟩) ∧ vc = .slice none 0 0 ∧ Aside0 (Q2 w W g gr pc qzero))
  case first =>
    go_wp2_with fail
    go_meet
    case rel => exact ⟨_, _, rfl, rfl, rfl, ⟨Q2.enter w pc qzero⟩⟩
  case rest =>
    obtain ⟨g, gr, rfl, rfl, rfl, HV0⟩ := hcut
    have HV := Aside0.mk (show Q2 w wc g gr #[.string nm5, .slice A n cu, .string mk, .slice B m d, .string tx] qzero from by have h := HV0.out; rw [HPC.out] at h; exact h)
    clear HV0 HPC
    have hn := nm5_l
    by_cases h27 : c = 27
    · subst h27
      have HEP := Aside0.mk (show stringP ⟨5, u, mk, ps, tx, wi⟩ 27 = (⟨7, u, mk, ps, tx, 5⟩, []) from rfl)
      have hcat := cat5
      have p0 : wc.cell? ⟨g, 0, none⟩ = some (.string nm5) := (blk_cell HV.out.1 0).trans rfl
      have fp0 := HV.out.thawp.1
      go_upto_region 2 with fail
      go_cut [] from 9000 to 9000 (fun W => Aside0 (Q2 w W g gr #[.string nm75, .slice A n cu, .string mk, .slice B m d, .string tx] qzero))
      case first =>
        go_wp2_with fail
        go_meet
        case rel => exact ⟨HV.out.set_p 0 (.string nm75) rfl⟩
      case rest =>
        have HV2 := hcut
        clear p0 fp0 hn hCV HV
        obtain ⟨wq, hwq⟩ : ∃ wq, wq = wc := ⟨_, rfl⟩
        subst hwq
        obtain ⟨z0, z1, z2, z3, z4⟩ := HV2.out.zero
        obtain ⟨y0, y1, y2, y3, y4⟩ := HV2.out.thaw
        have p0 : wq.cell? ⟨g, 0, none⟩ = some (.string (nm75)) := (blk_cell HV2.out.1 0).trans rfl
        have p1 : wq.cell? ⟨g, 1, none⟩ = some (.slice A n cu) := (blk_cell HV2.out.1 1).trans rfl
        have p2 : wq.cell? ⟨g, 2, none⟩ = some (.string (mk)) := (blk_cell HV2.out.1 2).trans rfl
        have p3 : wq.cell? ⟨g, 3, none⟩ = some (.slice B m d) := (blk_cell HV2.out.1 3).trans rfl
        have p4 : wq.cell? ⟨g, 4, none⟩ = some (.string (tx)) := (blk_cell HV2.out.1 4).trans rfl
        go_wp2
        have hf := HV2.out.ret (.string (nm75)) (.slice A n cu) (.string (mk)) (.slice B m d) (.string (tx))
        refine bodyPost_ret (results_ct Tryd.results27 _ _ gr 44 #[.string (nm75), .slice A n cu, .string (mk), .slice B m d, .string (tx)] (0, 0) _ rfl hf.2.1 hup rfl (by kernel_rfl)) rfl ⟨.slice none 0 0, A, n, cu, B, m, d, by rw [HEP.out]; rfl, by rw [HEP.out]; exact Kd.C_below HU.out hf.2.2.2.2.2, by rw [HEP.out]; exact ⟨Kd.C_below HPS.out hf.2.2.2.2.2, HMD.out⟩, by rw [HEP.out]; exact CA.nil _, hf.2.2.2.2.2, (fun _ _ => .inl ⟨rfl, rfl⟩), (fun _ _ => .inl ⟨rfl, rfl⟩)⟩
    · have h27b : (c == 27) = false := beq_eq_false_iff_ne.mpr h27
      by_cases h7 : c = 7
      · subst h7
        have HEP := Aside0.mk (show stringP ⟨5, u, mk, ps, tx, wi⟩ 7 = (atP 0, [strA 4 tx]) from rfl)
        obtain ⟨z0, z1, z2, z3, z4⟩ := HV.out.zero
        have p0 : wc.cell? ⟨g, 0, none⟩ = some (.string nm5) := (blk_cell HV.out.1 0).trans rfl
        have p1 : wc.cell? ⟨g, 1, none⟩ = some (.slice A n cu) := (blk_cell HV.out.1 1).trans rfl
        have p2 : wc.cell? ⟨g, 2, none⟩ = some (.string mk) := (blk_cell HV.out.1 2).trans rfl
        have p3 : wc.cell? ⟨g, 3, none⟩ = some (.slice B m d) := (blk_cell HV.out.1 3).trans rfl
        have p4 : wc.cell? ⟨g, 4, none⟩ = some (.string tx) := (blk_cell HV.out.1 4).trans rfl
        clear h27 hCV
        go_wp2_with fail
        refine (done_5 (.slice A n cu) (.slice B m d) mk tx wc).mono ?_
        rintro e w5 ⟨ua, rfl, hr5, hb5⟩
        have HV5 := Aside0.mk (HV.out.on hb5)
        have HR5 := Aside0.mk (Kd.R_mono (ok' := fun k => k ≠ gr) (Kd.R_bound hr5) (fun k h => by have := blk_lt HV.out.2.1; have := h.2.1; omega))
        have HBS := Aside0.mk (show w.heap.size ≤ wc.heap.size from HV.out.2.2.2.2.2.size)
        clear hr5 hb5 z0 z1 z2 z3 z4 p0 p1 p2 p3 p4
        obtain ⟨z0, z1, z2, z3, z4⟩ := HV5.out.zero
        obtain ⟨y0, y1, y2, y3, y4⟩ := HV5.out.thaw
        go_wp2
        have hf := HV5.out.ret (.string nm0) (.slice none 0 0) (.string ⟨#[]⟩) (.slice none 0 0) (.string ⟨#[]⟩)
        refine bodyPost_ret (results_ct Tryd.results27 _ _ gr 44 #[.string nm0, .slice none 0 0, .string ⟨#[]⟩, .slice none 0 0, .string ⟨#[]⟩] (0, 0) _ rfl hf.2.1 hup rfl (by kernel_rfl)) rfl ⟨ua, none, 0, 0, none, 0, 0, by rw [HEP.out]; rfl, by rw [HEP.out]; exact Kd.C_nil _ _, by rw [HEP.out]; exact ⟨Kd.C_nil _ _, Nat.le_refl _⟩, by rw [HEP.out]; exact CA.of_R (Kd.R_keep HR5.out (keep5 _ _ _ _ _ _ _) (fun k h => h)), hf.2.2.2.2.2, (fun _ h => nomatch h), (fun _ h => nomatch h)⟩
      have h7b : (c == 7) = false := beq_eq_false_iff_ne.mpr h7
      by_cases h24 : c = 24 ∨ c = 26
      · have HEP := Aside0.mk (show stringP ⟨5, u, mk, ps, tx, wi⟩ c = (atP 0, []) from by rcases h24 with rfl | rfl <;> rfl)
        obtain ⟨z0, z1, z2, z3, z4⟩ := HV.out.zero
        have p0 : wc.cell? ⟨g, 0, none⟩ = some (.string nm5) := (blk_cell HV.out.1 0).trans rfl
        clear hCV
        rcases h24 with h24 | h24
        · subst h24
          go_wp2_with fail
          refine (new_c wc).mono ?_
          rintro e w5 ⟨rfl, hb5⟩
          have HV5 := Aside0.mk (HV.out.on hb5)
          clear hb5 z0 z1 z2 z3 z4 p0
          obtain ⟨z0, z1, z2, z3, z4⟩ := HV5.out.zero
          obtain ⟨y0, y1, y2, y3, y4⟩ := HV5.out.thaw
          go_wp2
          have hf := HV5.out.ret (.string nm0) (.slice none 0 0) (.string ⟨#[]⟩) (.slice none 0 0) (.string ⟨#[]⟩)
          refine bodyPost_ret (results_ct Tryd.results27 _ _ gr 44 #[.string nm0, .slice none 0 0, .string ⟨#[]⟩, .slice none 0 0, .string ⟨#[]⟩] (0, 0) _ rfl hf.2.1 hup rfl (by kernel_rfl)) rfl ⟨.slice none 0 0, none, 0, 0, none, 0, 0, by rw [HEP.out]; rfl, by rw [HEP.out]; exact Kd.C_nil _ _, by rw [HEP.out]; exact ⟨Kd.C_nil _ _, Nat.le_refl _⟩, by rw [HEP.out]; exact CA.nil _, hf.2.2.2.2.2, (fun _ h => nomatch h), (fun _ h => nomatch h)⟩
        · subst h24
          go_wp2_with fail
          refine (new_c wc).mono ?_
          rintro e w5 ⟨rfl, hb5⟩
          have HV5 := Aside0.mk (HV.out.on hb5)
          clear hb5 z0 z1 z2 z3 z4 p0
          obtain ⟨z0, z1, z2, z3, z4⟩ := HV5.out.zero
          obtain ⟨y0, y1, y2, y3, y4⟩ := HV5.out.thaw
          go_wp2
          have hf := HV5.out.ret (.string nm0) (.slice none 0 0) (.string ⟨#[]⟩) (.slice none 0 0) (.string ⟨#[]⟩)
          refine bodyPost_ret (results_ct Tryd.results27 _ _ gr 44 #[.string nm0, .slice none 0 0, .string ⟨#[]⟩, .slice none 0 0, .string ⟨#[]⟩] (0, 0) _ rfl hf.2.1 hup rfl (by kernel_rfl)) rfl ⟨.slice none 0 0, none, 0, 0, none, 0, 0, by rw [HEP.out]; rfl, by rw [HEP.out]; exact Kd.C_nil _ _, by rw [HEP.out]; exact ⟨Kd.C_nil _ _, Nat.le_refl _⟩, by rw [HEP.out]; exact CA.nil _, hf.2.2.2.2.2, (fun _ h => nomatch h), (fun _ h => nomatch h)⟩
      have h24b : (c == 24) = false := beq_eq_false_iff_ne.mpr (by omega)
      have h26b : (c == 26) = false := beq_eq_false_iff_ne.mpr (by omega)
      have p0 : wc.cell? ⟨g, 0, none⟩ = some (.string nm5) := (blk_cell HV.out.1 0).trans rfl
      have p4 : wc.cell? ⟨g, 4, none⟩ = some (.string tx) := (blk_cell HV.out.1 4).trans rfl
      by_cases h32 : 32 ≤ c ∧ tx.size < 40
      · have HEP := Aside0.mk (show stringP ⟨5, u, mk, ps, tx, wi⟩ c = (⟨5, u, mk, ps, tx ++ b1 c, wi⟩, []) from by unfold stringP; rw [if_neg h27, if_neg (fun h => by first | exact h7 h.1 | exact absurd h.2 (by decide)), if_neg h24, if_pos h32])
        have h32a := h32.1
        have h32b : (tx.size : Int) < 40 := by omega
        have fp4 := HV.out.thawp.2.2.2.2
        have hlg := blk_lt HV.out.1
        have hb1 : (b1 c).size = 1 := rfl
        clear h27 h24 h32 h7
        go_upto_region 9 with fail
        go_cut [] from 9000 to 9000 (fun W => Aside0 (Q2 w W g gr #[.string nm5, .slice A n cu, .string mk, .slice B m d, .string (tx ++ b1 c)] qzero))
        case first =>
          go_wp2_with fail
          go_meet
          case rel => exact ⟨(HV.out.set_p 4 (.string (tx ++ b1 c)) rfl).on (below_alloc (Below.refl _ _) _)⟩
        case rest =>
          have HV2 := hcut
          clear p0 p4 fp4 hn hCV HV hlg
          obtain ⟨wq, hwq⟩ : ∃ wq, wq = wc := ⟨_, rfl⟩
          subst hwq
          obtain ⟨z0, z1, z2, z3, z4⟩ := HV2.out.zero
          obtain ⟨y0, y1, y2, y3, y4⟩ := HV2.out.thaw
          have p0 : wq.cell? ⟨g, 0, none⟩ = some (.string (nm5)) := (blk_cell HV2.out.1 0).trans rfl
          have p1 : wq.cell? ⟨g, 1, none⟩ = some (.slice A n cu) := (blk_cell HV2.out.1 1).trans rfl
          have p2 : wq.cell? ⟨g, 2, none⟩ = some (.string (mk)) := (blk_cell HV2.out.1 2).trans rfl
          have p3 : wq.cell? ⟨g, 3, none⟩ = some (.slice B m d) := (blk_cell HV2.out.1 3).trans rfl
          have p4 : wq.cell? ⟨g, 4, none⟩ = some (.string (tx ++ b1 c)) := (blk_cell HV2.out.1 4).trans rfl
          go_wp2
          have hf := HV2.out.ret (.string (nm5)) (.slice A n cu) (.string (mk)) (.slice B m d) (.string (tx ++ b1 c))
          refine bodyPost_ret (results_ct Tryd.results27 _ _ gr 44 #[.string (nm5), .slice A n cu, .string (mk), .slice B m d, .string (tx ++ b1 c)] (0, 0) _ rfl hf.2.1 hup rfl (by kernel_rfl)) rfl ⟨.slice none 0 0, A, n, cu, B, m, d, by rw [HEP.out]; rfl, by rw [HEP.out]; exact Kd.C_below HU.out hf.2.2.2.2.2, by rw [HEP.out]; exact ⟨Kd.C_below HPS.out hf.2.2.2.2.2, HMD.out⟩, by rw [HEP.out]; exact CA.nil _, hf.2.2.2.2.2, (fun _ _ => .inl ⟨rfl, rfl⟩), (fun _ _ => .inl ⟨rfl, rfl⟩)⟩
      · have HEP := Aside0.mk (show stringP ⟨5, u, mk, ps, tx, wi⟩ c = (⟨5, u, mk, ps, tx, wi⟩, []) from by unfold stringP; rw [if_neg h27, if_neg (fun h => by first | exact h7 h.1 | exact absurd h.2 (by decide)), if_neg h24, if_neg h32])
        obtain ⟨wq, hwq⟩ : ∃ wq, wq = wc := ⟨_, rfl⟩
        subst hwq
        clear p0 p4 hCV h27 h24 h7
        by_cases h3 : 32 ≤ c
        · have h4 : (40 : Int) ≤ tx.size := by omega
          have h4b : decide ((tx.size : Int) < 40) = false := decide_eq_false (by omega)
          clear h32
          obtain ⟨z0, z1, z2, z3, z4⟩ := HV.out.zero
          obtain ⟨y0, y1, y2, y3, y4⟩ := HV.out.thaw
          have p0 : wq.cell? ⟨g, 0, none⟩ = some (.string (nm5)) := (blk_cell HV.out.1 0).trans rfl
          have p1 : wq.cell? ⟨g, 1, none⟩ = some (.slice A n cu) := (blk_cell HV.out.1 1).trans rfl
          have p2 : wq.cell? ⟨g, 2, none⟩ = some (.string (mk)) := (blk_cell HV.out.1 2).trans rfl
          have p3 : wq.cell? ⟨g, 3, none⟩ = some (.slice B m d) := (blk_cell HV.out.1 3).trans rfl
          have p4 : wq.cell? ⟨g, 4, none⟩ = some (.string (tx)) := (blk_cell HV.out.1 4).trans rfl
          go_wp2
          have hf := HV.out.ret (.string (nm5)) (.slice A n cu) (.string (mk)) (.slice B m d) (.string (tx))
          refine bodyPost_ret (results_ct Tryd.results27 _ _ gr 44 #[.string (nm5), .slice A n cu, .string (mk), .slice B m d, .string (tx)] (0, 0) _ rfl hf.2.1 hup rfl (by kernel_rfl)) rfl ⟨.slice none 0 0, A, n, cu, B, m, d, by rw [HEP.out]; rfl, by rw [HEP.out]; exact Kd.C_below HU.out hf.2.2.2.2.2, by rw [HEP.out]; exact ⟨Kd.C_below HPS.out hf.2.2.2.2.2, HMD.out⟩, by rw [HEP.out]; exact CA.nil _, hf.2.2.2.2.2, (fun _ _ => .inl ⟨rfl, rfl⟩), (fun _ _ => .inl ⟨rfl, rfl⟩)⟩
        · have h4 : c < 32 := by omega
          have h4b : decide (32 ≤ c) = false := decide_eq_false h3
          clear h32 h3
          obtain ⟨z0, z1, z2, z3, z4⟩ := HV.out.zero
          obtain ⟨y0, y1, y2, y3, y4⟩ := HV.out.thaw
          have p0 : wq.cell? ⟨g, 0, none⟩ = some (.string (nm5)) := (blk_cell HV.out.1 0).trans rfl
          have p1 : wq.cell? ⟨g, 1, none⟩ = some (.slice A n cu) := (blk_cell HV.out.1 1).trans rfl
          have p2 : wq.cell? ⟨g, 2, none⟩ = some (.string (mk)) := (blk_cell HV.out.1 2).trans rfl
          have p3 : wq.cell? ⟨g, 3, none⟩ = some (.slice B m d) := (blk_cell HV.out.1 3).trans rfl
          have p4 : wq.cell? ⟨g, 4, none⟩ = some (.string (tx)) := (blk_cell HV.out.1 4).trans rfl
          go_wp2
          have hf := HV.out.ret (.string (nm5)) (.slice A n cu) (.string (mk)) (.slice B m d) (.string (tx))
          refine bodyPost_ret (results_ct Tryd.results27 _ _ gr 44 #[.string (nm5), .slice A n cu, .string (mk), .slice B m d, .string (tx)] (0, 0) _ rfl hf.2.1 hup rfl (by kernel_rfl)) rfl ⟨.slice none 0 0, A, n, cu, B, m, d, by rw [HEP.out]; rfl, by rw [HEP.out]; exact Kd.C_below HU.out hf.2.2.2.2.2, by rw [HEP.out]; exact ⟨Kd.C_below HPS.out hf.2.2.2.2.2, HMD.out⟩, by rw [HEP.out]; exact CA.nil _, hf.2.2.2.2.2, (fun _ _ => .inl ⟨rfl, rfl⟩), (fun _ _ => .inl ⟨rfl, rfl⟩)⟩
theorem cat6 : nm6 ++ ⟨#[32, 101, 115, 99]⟩ = nm76 := by decide
set_option maxHeartbeats 3200000 in
set_option maxRecDepth 100000 in
theorem texts_6 (u ps : List Int) (mk tx : ByteArray) (wi : Int) (A : Option Addr) (n cu : Nat) (B : Option Addr) (m d : Nat) (c : Int) (w : World) (hc : 0 ≤ c ∧ c < 256) (hu : Kd.C (Kd.int .u8) w A n u) (hps : Kd.C (Kd.int .i64) w B m ps) (hmd : m ≤ d) :
    Calls Tryd.prog 27 #[.agg #[.string nm6, .slice A n cu, .string mk, .slice B m d, .string tx], .int .u8 c] w (QT w A n B m (stringP ⟨6, u, mk, ps, tx, wi⟩ c)) := by
  have hup := Tryd.underlying44
  have hua := Tryd.underlying37
  have hCV := conv1 c hc
  have hc1 := hc.1
  have hc2 : c ≤ 255 := by omega
  have HU := Aside0.mk hu
  have HPS := Aside0.mk hps
  have HMD := Aside0.mk hmd
  clear hc hu hps hmd
  obtain ⟨pc, hpc⟩ : ∃ pc : Array Value, pc = #[.string nm6, .slice A n cu, .string mk, .slice B m d, .string tx] := ⟨_, rfl⟩
  rw [show (.agg #[.string nm6, .slice A n cu, .string mk, .slice B m d, .string tx] : Value) = .agg pc from by rw [hpc]]
  have HPC := Aside0.mk hpc
  clear hpc
  go_enter Tryd.func27, Tryd.ntmps27
  go_upto_region 0 with fail
  go_cut [2, 4, 5] (fun va vb vc W => ∃ g gr : Nat, va = .pointer (some ⟨g, 0, none⟩) ∧ vb = .pointer (some ⟨gr, 0, none⟩) ∧ vc = .slice none 0 0 ∧ Aside0 (Q2 w W g gr pc qzero))
  case first =>
    go_wp2_with fail
    go_meet
    case rel => exact ⟨_, _, rfl, rfl, rfl, ⟨Q2.enter w pc qzero⟩⟩
  case rest =>
    obtain ⟨g, gr, rfl, rfl, rfl, HV0⟩ := hcut
    have HV := Aside0.mk (show Q2 w wc g gr #[.string nm6, .slice A n cu, .string mk, .slice B m d, .string tx] qzero from by have h := HV0.out; rw [HPC.out] at h; exact h)
    clear HV0 HPC
    have hn := nm6_l
    by_cases h27 : c = 27
    · subst h27
      have HEP := Aside0.mk (show stringP ⟨6, u, mk, ps, tx, wi⟩ 27 = (⟨7, u, mk, ps, tx, 6⟩, []) from rfl)
      have hcat := cat6
      have p0 : wc.cell? ⟨g, 0, none⟩ = some (.string nm6) := (blk_cell HV.out.1 0).trans rfl
      have fp0 := HV.out.thawp.1
      go_upto_region 2 with fail
      go_cut [] from 9000 to 9000 (fun W => Aside0 (Q2 w W g gr #[.string nm76, .slice A n cu, .string mk, .slice B m d, .string tx] qzero))
      case first =>
        go_wp2_with fail
        go_meet
        case rel => exact ⟨HV.out.set_p 0 (.string nm76) rfl⟩
      case rest =>
        have HV2 := hcut
        clear p0 fp0 hn hCV HV
        obtain ⟨wq, hwq⟩ : ∃ wq, wq = wc := ⟨_, rfl⟩
        subst hwq
        obtain ⟨z0, z1, z2, z3, z4⟩ := HV2.out.zero
        obtain ⟨y0, y1, y2, y3, y4⟩ := HV2.out.thaw
        have p0 : wq.cell? ⟨g, 0, none⟩ = some (.string (nm76)) := (blk_cell HV2.out.1 0).trans rfl
        have p1 : wq.cell? ⟨g, 1, none⟩ = some (.slice A n cu) := (blk_cell HV2.out.1 1).trans rfl
        have p2 : wq.cell? ⟨g, 2, none⟩ = some (.string (mk)) := (blk_cell HV2.out.1 2).trans rfl
        have p3 : wq.cell? ⟨g, 3, none⟩ = some (.slice B m d) := (blk_cell HV2.out.1 3).trans rfl
        have p4 : wq.cell? ⟨g, 4, none⟩ = some (.string (tx)) := (blk_cell HV2.out.1 4).trans rfl
        go_wp2
        have hf := HV2.out.ret (.string (nm76)) (.slice A n cu) (.string (mk)) (.slice B m d) (.string (tx))
        refine bodyPost_ret (results_ct Tryd.results27 _ _ gr 44 #[.string (nm76), .slice A n cu, .string (mk), .slice B m d, .string (tx)] (0, 0) _ rfl hf.2.1 hup rfl (by kernel_rfl)) rfl ⟨.slice none 0 0, A, n, cu, B, m, d, by rw [HEP.out]; rfl, by rw [HEP.out]; exact Kd.C_below HU.out hf.2.2.2.2.2, by rw [HEP.out]; exact ⟨Kd.C_below HPS.out hf.2.2.2.2.2, HMD.out⟩, by rw [HEP.out]; exact CA.nil _, hf.2.2.2.2.2, (fun _ _ => .inl ⟨rfl, rfl⟩), (fun _ _ => .inl ⟨rfl, rfl⟩)⟩
    · have h27b : (c == 27) = false := beq_eq_false_iff_ne.mpr h27
      by_cases h7 : c = 7
      · subst h7
        have HEP := Aside0.mk (show stringP ⟨6, u, mk, ps, tx, wi⟩ 7 = (⟨6, u, mk, ps, tx, wi⟩, []) from rfl)
        obtain ⟨wq, hwq⟩ : ∃ wq, wq = wc := ⟨_, rfl⟩
        subst hwq
        clear h27 hCV
        obtain ⟨z0, z1, z2, z3, z4⟩ := HV.out.zero
        obtain ⟨y0, y1, y2, y3, y4⟩ := HV.out.thaw
        have p0 : wq.cell? ⟨g, 0, none⟩ = some (.string (nm6)) := (blk_cell HV.out.1 0).trans rfl
        have p1 : wq.cell? ⟨g, 1, none⟩ = some (.slice A n cu) := (blk_cell HV.out.1 1).trans rfl
        have p2 : wq.cell? ⟨g, 2, none⟩ = some (.string (mk)) := (blk_cell HV.out.1 2).trans rfl
        have p3 : wq.cell? ⟨g, 3, none⟩ = some (.slice B m d) := (blk_cell HV.out.1 3).trans rfl
        have p4 : wq.cell? ⟨g, 4, none⟩ = some (.string (tx)) := (blk_cell HV.out.1 4).trans rfl
        go_wp2
        have hf := HV.out.ret (.string (nm6)) (.slice A n cu) (.string (mk)) (.slice B m d) (.string (tx))
        refine bodyPost_ret (results_ct Tryd.results27 _ _ gr 44 #[.string (nm6), .slice A n cu, .string (mk), .slice B m d, .string (tx)] (0, 0) _ rfl hf.2.1 hup rfl (by kernel_rfl)) rfl ⟨.slice none 0 0, A, n, cu, B, m, d, by rw [HEP.out]; rfl, by rw [HEP.out]; exact Kd.C_below HU.out hf.2.2.2.2.2, by rw [HEP.out]; exact ⟨Kd.C_below HPS.out hf.2.2.2.2.2, HMD.out⟩, by rw [HEP.out]; exact CA.nil _, hf.2.2.2.2.2, (fun _ _ => .inl ⟨rfl, rfl⟩), (fun _ _ => .inl ⟨rfl, rfl⟩)⟩
      have h7b : (c == 7) = false := beq_eq_false_iff_ne.mpr h7
      by_cases h24 : c = 24 ∨ c = 26
      · have HEP := Aside0.mk (show stringP ⟨6, u, mk, ps, tx, wi⟩ c = (atP 0, []) from by rcases h24 with rfl | rfl <;> rfl)
        obtain ⟨z0, z1, z2, z3, z4⟩ := HV.out.zero
        have p0 : wc.cell? ⟨g, 0, none⟩ = some (.string nm6) := (blk_cell HV.out.1 0).trans rfl
        clear hCV
        rcases h24 with h24 | h24
        · subst h24
          go_wp2_with fail
          refine (new_c wc).mono ?_
          rintro e w5 ⟨rfl, hb5⟩
          have HV5 := Aside0.mk (HV.out.on hb5)
          clear hb5 z0 z1 z2 z3 z4 p0
          obtain ⟨z0, z1, z2, z3, z4⟩ := HV5.out.zero
          obtain ⟨y0, y1, y2, y3, y4⟩ := HV5.out.thaw
          go_wp2
          have hf := HV5.out.ret (.string nm0) (.slice none 0 0) (.string ⟨#[]⟩) (.slice none 0 0) (.string ⟨#[]⟩)
          refine bodyPost_ret (results_ct Tryd.results27 _ _ gr 44 #[.string nm0, .slice none 0 0, .string ⟨#[]⟩, .slice none 0 0, .string ⟨#[]⟩] (0, 0) _ rfl hf.2.1 hup rfl (by kernel_rfl)) rfl ⟨.slice none 0 0, none, 0, 0, none, 0, 0, by rw [HEP.out]; rfl, by rw [HEP.out]; exact Kd.C_nil _ _, by rw [HEP.out]; exact ⟨Kd.C_nil _ _, Nat.le_refl _⟩, by rw [HEP.out]; exact CA.nil _, hf.2.2.2.2.2, (fun _ h => nomatch h), (fun _ h => nomatch h)⟩
        · subst h24
          go_wp2_with fail
          refine (new_c wc).mono ?_
          rintro e w5 ⟨rfl, hb5⟩
          have HV5 := Aside0.mk (HV.out.on hb5)
          clear hb5 z0 z1 z2 z3 z4 p0
          obtain ⟨z0, z1, z2, z3, z4⟩ := HV5.out.zero
          obtain ⟨y0, y1, y2, y3, y4⟩ := HV5.out.thaw
          go_wp2
          have hf := HV5.out.ret (.string nm0) (.slice none 0 0) (.string ⟨#[]⟩) (.slice none 0 0) (.string ⟨#[]⟩)
          refine bodyPost_ret (results_ct Tryd.results27 _ _ gr 44 #[.string nm0, .slice none 0 0, .string ⟨#[]⟩, .slice none 0 0, .string ⟨#[]⟩] (0, 0) _ rfl hf.2.1 hup rfl (by kernel_rfl)) rfl ⟨.slice none 0 0, none, 0, 0, none, 0, 0, by rw [HEP.out]; rfl, by rw [HEP.out]; exact Kd.C_nil _ _, by rw [HEP.out]; exact ⟨Kd.C_nil _ _, Nat.le_refl _⟩, by rw [HEP.out]; exact CA.nil _, hf.2.2.2.2.2, (fun _ h => nomatch h), (fun _ h => nomatch h)⟩
      have h24b : (c == 24) = false := beq_eq_false_iff_ne.mpr (by omega)
      have h26b : (c == 26) = false := beq_eq_false_iff_ne.mpr (by omega)
      have p0 : wc.cell? ⟨g, 0, none⟩ = some (.string nm6) := (blk_cell HV.out.1 0).trans rfl
      have p4 : wc.cell? ⟨g, 4, none⟩ = some (.string tx) := (blk_cell HV.out.1 4).trans rfl
      by_cases h32 : 32 ≤ c ∧ tx.size < 40
      · have HEP := Aside0.mk (show stringP ⟨6, u, mk, ps, tx, wi⟩ c = (⟨6, u, mk, ps, tx ++ b1 c, wi⟩, []) from by unfold stringP; rw [if_neg h27, if_neg (fun h => by first | exact h7 h.1 | exact absurd h.2 (by decide)), if_neg h24, if_pos h32])
        have h32a := h32.1
        have h32b : (tx.size : Int) < 40 := by omega
        have fp4 := HV.out.thawp.2.2.2.2
        have hlg := blk_lt HV.out.1
        have hb1 : (b1 c).size = 1 := rfl
        clear h27 h24 h32 h7
        go_upto_region 9 with fail
        go_cut [] from 9000 to 9000 (fun W => Aside0 (Q2 w W g gr #[.string nm6, .slice A n cu, .string mk, .slice B m d, .string (tx ++ b1 c)] qzero))
        case first =>
          go_wp2_with fail
          go_meet
          case rel => exact ⟨(HV.out.set_p 4 (.string (tx ++ b1 c)) rfl).on (below_alloc (Below.refl _ _) _)⟩
        case rest =>
          have HV2 := hcut
          clear p0 p4 fp4 hn hCV HV hlg
          obtain ⟨wq, hwq⟩ : ∃ wq, wq = wc := ⟨_, rfl⟩
          subst hwq
          obtain ⟨z0, z1, z2, z3, z4⟩ := HV2.out.zero
          obtain ⟨y0, y1, y2, y3, y4⟩ := HV2.out.thaw
          have p0 : wq.cell? ⟨g, 0, none⟩ = some (.string (nm6)) := (blk_cell HV2.out.1 0).trans rfl
          have p1 : wq.cell? ⟨g, 1, none⟩ = some (.slice A n cu) := (blk_cell HV2.out.1 1).trans rfl
          have p2 : wq.cell? ⟨g, 2, none⟩ = some (.string (mk)) := (blk_cell HV2.out.1 2).trans rfl
          have p3 : wq.cell? ⟨g, 3, none⟩ = some (.slice B m d) := (blk_cell HV2.out.1 3).trans rfl
          have p4 : wq.cell? ⟨g, 4, none⟩ = some (.string (tx ++ b1 c)) := (blk_cell HV2.out.1 4).trans rfl
          go_wp2
          have hf := HV2.out.ret (.string (nm6)) (.slice A n cu) (.string (mk)) (.slice B m d) (.string (tx ++ b1 c))
          refine bodyPost_ret (results_ct Tryd.results27 _ _ gr 44 #[.string (nm6), .slice A n cu, .string (mk), .slice B m d, .string (tx ++ b1 c)] (0, 0) _ rfl hf.2.1 hup rfl (by kernel_rfl)) rfl ⟨.slice none 0 0, A, n, cu, B, m, d, by rw [HEP.out]; rfl, by rw [HEP.out]; exact Kd.C_below HU.out hf.2.2.2.2.2, by rw [HEP.out]; exact ⟨Kd.C_below HPS.out hf.2.2.2.2.2, HMD.out⟩, by rw [HEP.out]; exact CA.nil _, hf.2.2.2.2.2, (fun _ _ => .inl ⟨rfl, rfl⟩), (fun _ _ => .inl ⟨rfl, rfl⟩)⟩
      · have HEP := Aside0.mk (show stringP ⟨6, u, mk, ps, tx, wi⟩ c = (⟨6, u, mk, ps, tx, wi⟩, []) from by unfold stringP; rw [if_neg h27, if_neg (fun h => by first | exact h7 h.1 | exact absurd h.2 (by decide)), if_neg h24, if_neg h32])
        obtain ⟨wq, hwq⟩ : ∃ wq, wq = wc := ⟨_, rfl⟩
        subst hwq
        clear p0 p4 hCV h27 h24 h7
        by_cases h3 : 32 ≤ c
        · have h4 : (40 : Int) ≤ tx.size := by omega
          have h4b : decide ((tx.size : Int) < 40) = false := decide_eq_false (by omega)
          clear h32
          obtain ⟨z0, z1, z2, z3, z4⟩ := HV.out.zero
          obtain ⟨y0, y1, y2, y3, y4⟩ := HV.out.thaw
          have p0 : wq.cell? ⟨g, 0, none⟩ = some (.string (nm6)) := (blk_cell HV.out.1 0).trans rfl
          have p1 : wq.cell? ⟨g, 1, none⟩ = some (.slice A n cu) := (blk_cell HV.out.1 1).trans rfl
          have p2 : wq.cell? ⟨g, 2, none⟩ = some (.string (mk)) := (blk_cell HV.out.1 2).trans rfl
          have p3 : wq.cell? ⟨g, 3, none⟩ = some (.slice B m d) := (blk_cell HV.out.1 3).trans rfl
          have p4 : wq.cell? ⟨g, 4, none⟩ = some (.string (tx)) := (blk_cell HV.out.1 4).trans rfl
          go_wp2
          have hf := HV.out.ret (.string (nm6)) (.slice A n cu) (.string (mk)) (.slice B m d) (.string (tx))
          refine bodyPost_ret (results_ct Tryd.results27 _ _ gr 44 #[.string (nm6), .slice A n cu, .string (mk), .slice B m d, .string (tx)] (0, 0) _ rfl hf.2.1 hup rfl (by kernel_rfl)) rfl ⟨.slice none 0 0, A, n, cu, B, m, d, by rw [HEP.out]; rfl, by rw [HEP.out]; exact Kd.C_below HU.out hf.2.2.2.2.2, by rw [HEP.out]; exact ⟨Kd.C_below HPS.out hf.2.2.2.2.2, HMD.out⟩, by rw [HEP.out]; exact CA.nil _, hf.2.2.2.2.2, (fun _ _ => .inl ⟨rfl, rfl⟩), (fun _ _ => .inl ⟨rfl, rfl⟩)⟩
        · have h4 : c < 32 := by omega
          have h4b : decide (32 ≤ c) = false := decide_eq_false h3
          clear h32 h3
          obtain ⟨z0, z1, z2, z3, z4⟩ := HV.out.zero
          obtain ⟨y0, y1, y2, y3, y4⟩ := HV.out.thaw
          have p0 : wq.cell? ⟨g, 0, none⟩ = some (.string (nm6)) := (blk_cell HV.out.1 0).trans rfl
          have p1 : wq.cell? ⟨g, 1, none⟩ = some (.slice A n cu) := (blk_cell HV.out.1 1).trans rfl
          have p2 : wq.cell? ⟨g, 2, none⟩ = some (.string (mk)) := (blk_cell HV.out.1 2).trans rfl
          have p3 : wq.cell? ⟨g, 3, none⟩ = some (.slice B m d) := (blk_cell HV.out.1 3).trans rfl
          have p4 : wq.cell? ⟨g, 4, none⟩ = some (.string (tx)) := (blk_cell HV.out.1 4).trans rfl
          go_wp2
          have hf := HV.out.ret (.string (nm6)) (.slice A n cu) (.string (mk)) (.slice B m d) (.string (tx))
          refine bodyPost_ret (results_ct Tryd.results27 _ _ gr 44 #[.string (nm6), .slice A n cu, .string (mk), .slice B m d, .string (tx)] (0, 0) _ rfl hf.2.1 hup rfl (by kernel_rfl)) rfl ⟨.slice none 0 0, A, n, cu, B, m, d, by rw [HEP.out]; rfl, by rw [HEP.out]; exact Kd.C_below HU.out hf.2.2.2.2.2, by rw [HEP.out]; exact ⟨Kd.C_below HPS.out hf.2.2.2.2.2, HMD.out⟩, by rw [HEP.out]; exact CA.nil _, hf.2.2.2.2.2, (fun _ _ => .inl ⟨rfl, rfl⟩), (fun _ _ => .inl ⟨rfl, rfl⟩)⟩
end Go.Proofs.YtkdkajcokoggiaaDoor.VtRefT
