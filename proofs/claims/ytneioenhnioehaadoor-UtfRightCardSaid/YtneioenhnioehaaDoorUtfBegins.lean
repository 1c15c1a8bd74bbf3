/- Whether one to three bytes begin a rune and don't end it, as the statements of layer 5 tell it: a contract. -/
import Derived.Test.YtneioenhnioehaaDoorUtfRight
import Derived.Deep.CutBlock
namespace Go.Proofs.YtneioenhnioehaaDoor.UtfBegins
open Go.RowKit Go.Proofs.YtneioenhnioehaaDoor.Kit Go.Proofs.YtneioenhnioehaaDoor.Plain Go.Proofs.YtneioenhnioehaaDoor.Mine Go.Proofs.YtneioenhnioehaaDoor.UtfPure Go.Proofs.YtneioenhnioehaaDoor.UtfFull Go.Proofs.YtneioenhnioehaaDoor.UtfDec Go.Proofs.YtneioenhnioehaaDoor.UtfFeed Go.Proofs.YtneioenhnioehaaDoor.UtfRight Go.Proofs.YtneioenhnioehaaDoorW.PrintWords Go.Proofs.YtneioenhnioehaaDoorW.PrintLast Go.Proofs.YtneioenhnioehaaDoorW.PrintMore
open Go.Lib (firstT accLo accHi Utf8Tabs)
set_option linter.unusedVariables false
set_option linter.unusedSimpArgs false
def Tells (c s lo hi : Nat) : Prop := ∀ n b1 b2 : Nat, 1 ≤ n → fullN n c b1 b2 = (decide (s ≤ n) || (decide (1 < n) && (decide (b1 < lo) || decide (hi < b1))) || (decide (2 < n) && (decide (b2 < 128) || decide (191 < b2))))
theorem tells_of {c s lo hi : Nat} (h1 : firstT c % 8 = s) (h2 : accLo (firstT c / 16) = lo) (h3 : accHi (firstT c / 16) = hi) : Tells c s lo hi := fun n b1 b2 hn => by
  unfold fullN; rw [h1, h2, h3]
theorem tells_zero {c lo hi : Nat} (h : firstT c % 8 ≤ 1) : Tells c 0 lo hi := fun n b1 b2 hn => by
  unfold fullN; rw [decide_eq_true (show firstT c % 8 ≤ n by omega), decide_eq_true (show 0 ≤ n by omega)]; simp
set_option maxHeartbeats 3200000 in
set_option maxRecDepth 100000 in
theorem begins_c (A : Option Addr) (cp : Nat) (b : List Int) (w : World) (hr : Kd.C (Kd.int .u8) w A b.length b) (hb : Bytes b) (hn : 1 ≤ b.length) (hl : b.length ≤ 3) :
    Calls Tryd.prog 14 #[.slice A b.length cp] w fun e w' => e = .returned (.bool (!full b)) ∧ Below w.heap.size w w' := by
  obtain ⟨ad, rfl, hc0'⟩ := at_byte hr hb 0 hn
  have hc0 : w.cell? ad = some (.int .u8 (bya b 0 : Int)) := hc0'
  clear hc0'
  have HB1 := Aside0.mk (fun h => at_byte1 hr hb 1 h (by omega))
  have HB2 := Aside0.mk (fun h => at_byte1 hr hb 2 h (by omega))
  obtain ⟨r, hrr⟩ : ∃ r, r = full b := ⟨_, rfl⟩
  rw [← hrr]
  have HR := Aside0.mk (show r = fullN b.length (bya b 0) (bya b 1) (bya b 2) from hrr)
  obtain ⟨c, hcc⟩ : ∃ c, c = bya b 0 := ⟨_, rfl⟩
  have hlt := bya_lt hb 0
  have HL1 := Aside0.mk (bya_lt hb 1)
  have HL2 := Aside0.mk (bya_lt hb 2)
  rw [← hcc] at hc0 hlt HR
  have HN := Aside0.mk hn
  have HLT := Aside0.mk hlt
  have hz1 : (0 : Int) < b.length := by omega
  have hz : ((b.length : Int) == 0) = false := beq_eq_false_iff_ne.mpr (by omega)
  have hz3 : (b.length : Int) ≤ 3 := by omega
  have hcI : (c : Int) < 256 := by omega
  have HZ := Aside0.mk hz
  clear hr hb hn hl hrr hcc hlt
  go_enter Tryd.func14, Tryd.ntmps14
  go_upto_block 0 with fail
  go_cut [3, 4, 5] (fun v3 v4 v5 W => ∃ (s lo hi : Nat), v3 = .int .u8 (lo : Int) ∧ v4 = .int .u8 (hi : Int) ∧ v5 = .int .i64 (s : Int) ∧ Aside0 (s ≤ 4 ∧ lo < 256 ∧ hi < 256) ∧ Aside0 (Tells c s lo hi) ∧ W = w)
  case first =>
    by_cases k0 : c < 194
    · skip
      have FT := Aside0.mk (show firstT c % 8 ≤ 1 from by unfold firstT; ((repeat' split) <;> omega))
      have q0 : decide (194 ≤ (c : Int)) = false := decide_eq_false (by omega)
      have q1 : decide (224 ≤ (c : Int)) = false := decide_eq_false (by omega)
      have q2 : decide (240 ≤ (c : Int)) = false := decide_eq_false (by omega)
      have q3 : decide ((c : Int) ≤ 223) = true := decide_eq_true (by omega)
      have q4 : decide ((c : Int) ≤ 239) = true := decide_eq_true (by omega)
      have q5 : decide ((c : Int) ≤ 244) = true := decide_eq_true (by omega)
      have q6 : ((c : Int) == 224) = false := beq_eq_false_iff_ne.mpr (by omega)
      have q7 : ((c : Int) == 237) = false := beq_eq_false_iff_ne.mpr (by omega)
      have q8 : ((c : Int) == 240) = false := beq_eq_false_iff_ne.mpr (by omega)
      have q9 : ((c : Int) == 244) = false := beq_eq_false_iff_ne.mpr (by omega)
      clear k0
      go_wp2_with fail
      go_meet
      case rel => exact ⟨0, 128, 191, rfl, rfl, rfl, ⟨by omega, by omega, by omega⟩, ⟨tells_zero FT.out⟩, rfl⟩
    by_cases k1 : c < 224
    · skip
      have FT := Aside0.mk (show firstT c = 2 from by unfold firstT; ((repeat' split) <;> omega))
      have q0 : decide (194 ≤ (c : Int)) = true := decide_eq_true (by omega)
      have q1 : decide (224 ≤ (c : Int)) = false := decide_eq_false (by omega)
      have q2 : decide (240 ≤ (c : Int)) = false := decide_eq_false (by omega)
      have q3 : decide ((c : Int) ≤ 223) = true := decide_eq_true (by omega)
      have q4 : decide ((c : Int) ≤ 239) = true := decide_eq_true (by omega)
      have q5 : decide ((c : Int) ≤ 244) = true := decide_eq_true (by omega)
      have q6 : ((c : Int) == 224) = false := beq_eq_false_iff_ne.mpr (by omega)
      have q7 : ((c : Int) == 237) = false := beq_eq_false_iff_ne.mpr (by omega)
      have q8 : ((c : Int) == 240) = false := beq_eq_false_iff_ne.mpr (by omega)
      have q9 : ((c : Int) == 244) = false := beq_eq_false_iff_ne.mpr (by omega)
      clear k0 k1
      go_wp2_with fail
      go_meet
      case rel => exact ⟨2, 128, 191, rfl, rfl, rfl, ⟨by omega, by omega, by omega⟩, ⟨tells_of (by rw [FT.out]) (by rw [FT.out]; rfl) (by rw [FT.out]; rfl)⟩, rfl⟩
    by_cases k2 : c = 224
    · skip
      have FT := Aside0.mk (show firstT c = 19 from by unfold firstT; ((repeat' split) <;> omega))
      have q0 : decide (194 ≤ (c : Int)) = true := decide_eq_true (by omega)
      have q1 : decide (224 ≤ (c : Int)) = true := decide_eq_true (by omega)
      have q2 : decide (240 ≤ (c : Int)) = false := decide_eq_false (by omega)
      have q3 : decide ((c : Int) ≤ 223) = false := decide_eq_false (by omega)
      have q4 : decide ((c : Int) ≤ 239) = true := decide_eq_true (by omega)
      have q5 : decide ((c : Int) ≤ 244) = true := decide_eq_true (by omega)
      have q6 : ((c : Int) == 224) = true := beq_iff_eq.mpr (by omega)
      have q7 : ((c : Int) == 237) = false := beq_eq_false_iff_ne.mpr (by omega)
      have q8 : ((c : Int) == 240) = false := beq_eq_false_iff_ne.mpr (by omega)
      have q9 : ((c : Int) == 244) = false := beq_eq_false_iff_ne.mpr (by omega)
      clear k0 k1 k2
      go_wp2_with fail
      go_meet
      case rel => exact ⟨3, 160, 191, rfl, rfl, rfl, ⟨by omega, by omega, by omega⟩, ⟨tells_of (by rw [FT.out]) (by rw [FT.out]; rfl) (by rw [FT.out]; rfl)⟩, rfl⟩
    by_cases k3 : c < 237
    · skip
      have FT := Aside0.mk (show firstT c = 3 from by unfold firstT; ((repeat' split) <;> omega))
      have q0 : decide (194 ≤ (c : Int)) = true := decide_eq_true (by omega)
      have q1 : decide (224 ≤ (c : Int)) = true := decide_eq_true (by omega)
      have q2 : decide (240 ≤ (c : Int)) = false := decide_eq_false (by omega)
      have q3 : decide ((c : Int) ≤ 223) = false := decide_eq_false (by omega)
      have q4 : decide ((c : Int) ≤ 239) = true := decide_eq_true (by omega)
      have q5 : decide ((c : Int) ≤ 244) = true := decide_eq_true (by omega)
      have q6 : ((c : Int) == 224) = false := beq_eq_false_iff_ne.mpr (by omega)
      have q7 : ((c : Int) == 237) = false := beq_eq_false_iff_ne.mpr (by omega)
      have q8 : ((c : Int) == 240) = false := beq_eq_false_iff_ne.mpr (by omega)
      have q9 : ((c : Int) == 244) = false := beq_eq_false_iff_ne.mpr (by omega)
      clear k0 k1 k2 k3
      go_wp2_with fail
      go_meet
      case rel => exact ⟨3, 128, 191, rfl, rfl, rfl, ⟨by omega, by omega, by omega⟩, ⟨tells_of (by rw [FT.out]) (by rw [FT.out]; rfl) (by rw [FT.out]; rfl)⟩, rfl⟩
    by_cases k4 : c = 237
    · skip
      have FT := Aside0.mk (show firstT c = 35 from by unfold firstT; ((repeat' split) <;> omega))
      have q0 : decide (194 ≤ (c : Int)) = true := decide_eq_true (by omega)
      have q1 : decide (224 ≤ (c : Int)) = true := decide_eq_true (by omega)
      have q2 : decide (240 ≤ (c : Int)) = false := decide_eq_false (by omega)
      have q3 : decide ((c : Int) ≤ 223) = false := decide_eq_false (by omega)
      have q4 : decide ((c : Int) ≤ 239) = true := decide_eq_true (by omega)
      have q5 : decide ((c : Int) ≤ 244) = true := decide_eq_true (by omega)
      have q6 : ((c : Int) == 224) = false := beq_eq_false_iff_ne.mpr (by omega)
      have q7 : ((c : Int) == 237) = true := beq_iff_eq.mpr (by omega)
      have q8 : ((c : Int) == 240) = false := beq_eq_false_iff_ne.mpr (by omega)
      have q9 : ((c : Int) == 244) = false := beq_eq_false_iff_ne.mpr (by omega)
      clear k0 k1 k2 k3 k4
      go_wp2_with fail
      go_meet
      case rel => exact ⟨3, 128, 159, rfl, rfl, rfl, ⟨by omega, by omega, by omega⟩, ⟨tells_of (by rw [FT.out]) (by rw [FT.out]; rfl) (by rw [FT.out]; rfl)⟩, rfl⟩
    by_cases k5 : c < 240
    · skip
      have FT := Aside0.mk (show firstT c = 3 from by unfold firstT; ((repeat' split) <;> omega))
      have q0 : decide (194 ≤ (c : Int)) = true := decide_eq_true (by omega)
      have q1 : decide (224 ≤ (c : Int)) = true := decide_eq_true (by omega)
      have q2 : decide (240 ≤ (c : Int)) = false := decide_eq_false (by omega)
      have q3 : decide ((c : Int) ≤ 223) = false := decide_eq_false (by omega)
      have q4 : decide ((c : Int) ≤ 239) = true := decide_eq_true (by omega)
      have q5 : decide ((c : Int) ≤ 244) = true := decide_eq_true (by omega)
      have q6 : ((c : Int) == 224) = false := beq_eq_false_iff_ne.mpr (by omega)
      have q7 : ((c : Int) == 237) = false := beq_eq_false_iff_ne.mpr (by omega)
      have q8 : ((c : Int) == 240) = false := beq_eq_false_iff_ne.mpr (by omega)
      have q9 : ((c : Int) == 244) = false := beq_eq_false_iff_ne.mpr (by omega)
      clear k0 k1 k2 k3 k4 k5
      go_wp2_with fail
      go_meet
      case rel => exact ⟨3, 128, 191, rfl, rfl, rfl, ⟨by omega, by omega, by omega⟩, ⟨tells_of (by rw [FT.out]) (by rw [FT.out]; rfl) (by rw [FT.out]; rfl)⟩, rfl⟩
    by_cases k6 : c = 240
    · skip
      have FT := Aside0.mk (show firstT c = 52 from by unfold firstT; ((repeat' split) <;> omega))
      have q0 : decide (194 ≤ (c : Int)) = true := decide_eq_true (by omega)
      have q1 : decide (224 ≤ (c : Int)) = true := decide_eq_true (by omega)
      have q2 : decide (240 ≤ (c : Int)) = true := decide_eq_true (by omega)
      have q3 : decide ((c : Int) ≤ 223) = false := decide_eq_false (by omega)
      have q4 : decide ((c : Int) ≤ 239) = false := decide_eq_false (by omega)
      have q5 : decide ((c : Int) ≤ 244) = true := decide_eq_true (by omega)
      have q6 : ((c : Int) == 224) = false := beq_eq_false_iff_ne.mpr (by omega)
      have q7 : ((c : Int) == 237) = false := beq_eq_false_iff_ne.mpr (by omega)
      have q8 : ((c : Int) == 240) = true := beq_iff_eq.mpr (by omega)
      have q9 : ((c : Int) == 244) = false := beq_eq_false_iff_ne.mpr (by omega)
      clear k0 k1 k2 k3 k4 k5 k6
      go_wp2_with fail
      go_meet
      case rel => exact ⟨4, 144, 191, rfl, rfl, rfl, ⟨by omega, by omega, by omega⟩, ⟨tells_of (by rw [FT.out]) (by rw [FT.out]; rfl) (by rw [FT.out]; rfl)⟩, rfl⟩
    by_cases k7 : c < 244
    · skip
      have FT := Aside0.mk (show firstT c = 4 from by unfold firstT; ((repeat' split) <;> omega))
      have q0 : decide (194 ≤ (c : Int)) = true := decide_eq_true (by omega)
      have q1 : decide (224 ≤ (c : Int)) = true := decide_eq_true (by omega)
      have q2 : decide (240 ≤ (c : Int)) = true := decide_eq_true (by omega)
      have q3 : decide ((c : Int) ≤ 223) = false := decide_eq_false (by omega)
      have q4 : decide ((c : Int) ≤ 239) = false := decide_eq_false (by omega)
      have q5 : decide ((c : Int) ≤ 244) = true := decide_eq_true (by omega)
      have q6 : ((c : Int) == 224) = false := beq_eq_false_iff_ne.mpr (by omega)
      have q7 : ((c : Int) == 237) = false := beq_eq_false_iff_ne.mpr (by omega)
      have q8 : ((c : Int) == 240) = false := beq_eq_false_iff_ne.mpr (by omega)
      have q9 : ((c : Int) == 244) = false := beq_eq_false_iff_ne.mpr (by omega)
      clear k0 k1 k2 k3 k4 k5 k6 k7
      go_wp2_with fail
      go_meet
      case rel => exact ⟨4, 128, 191, rfl, rfl, rfl, ⟨by omega, by omega, by omega⟩, ⟨tells_of (by rw [FT.out]) (by rw [FT.out]; rfl) (by rw [FT.out]; rfl)⟩, rfl⟩
    by_cases k8 : c = 244
    · skip
      have FT := Aside0.mk (show firstT c = 68 from by unfold firstT; ((repeat' split) <;> omega))
      have q0 : decide (194 ≤ (c : Int)) = true := decide_eq_true (by omega)
      have q1 : decide (224 ≤ (c : Int)) = true := decide_eq_true (by omega)
      have q2 : decide (240 ≤ (c : Int)) = true := decide_eq_true (by omega)
      have q3 : decide ((c : Int) ≤ 223) = false := decide_eq_false (by omega)
      have q4 : decide ((c : Int) ≤ 239) = false := decide_eq_false (by omega)
      have q5 : decide ((c : Int) ≤ 244) = true := decide_eq_true (by omega)
      have q6 : ((c : Int) == 224) = false := beq_eq_false_iff_ne.mpr (by omega)
      have q7 : ((c : Int) == 237) = false := beq_eq_false_iff_ne.mpr (by omega)
      have q8 : ((c : Int) == 240) = false := beq_eq_false_iff_ne.mpr (by omega)
      have q9 : ((c : Int) == 244) = true := beq_iff_eq.mpr (by omega)
      clear k0 k1 k2 k3 k4 k5 k6 k7 k8
      go_wp2_with fail
      go_meet
      case rel => exact ⟨4, 128, 143, rfl, rfl, rfl, ⟨by omega, by omega, by omega⟩, ⟨tells_of (by rw [FT.out]) (by rw [FT.out]; rfl) (by rw [FT.out]; rfl)⟩, rfl⟩
    have FT := Aside0.mk (show firstT c % 8 ≤ 1 from by unfold firstT; ((repeat' split) <;> omega))
    have q0 : decide (194 ≤ (c : Int)) = true := decide_eq_true (by omega)
    have q1 : decide (224 ≤ (c : Int)) = true := decide_eq_true (by omega)
    have q2 : decide (240 ≤ (c : Int)) = true := decide_eq_true (by omega)
    have q3 : decide ((c : Int) ≤ 223) = false := decide_eq_false (by omega)
    have q4 : decide ((c : Int) ≤ 239) = false := decide_eq_false (by omega)
    have q5 : decide ((c : Int) ≤ 244) = false := decide_eq_false (by omega)
    have q6 : ((c : Int) == 224) = false := beq_eq_false_iff_ne.mpr (by omega)
    have q7 : ((c : Int) == 237) = false := beq_eq_false_iff_ne.mpr (by omega)
    have q8 : ((c : Int) == 240) = false := beq_eq_false_iff_ne.mpr (by omega)
    have q9 : ((c : Int) == 244) = false := beq_eq_false_iff_ne.mpr (by omega)
    clear k0 k1 k2 k3 k4 k5 k6 k7 k8
    go_wp2_with fail
    go_meet
    case rel => exact ⟨0, 128, 191, rfl, rfl, rfl, ⟨by omega, by omega, by omega⟩, ⟨tells_zero FT.out⟩, rfl⟩
  case rest =>
    obtain ⟨s, lo, hi, rfl, rfl, rfl, HS, HTL, rfl⟩ := hcut
    have hS4 : (s : Int) ≤ 4 := by have := HS.out.1; omega
    have hlo : (lo : Int) < 256 := by have := HS.out.2.1; omega
    have hhi : (hi : Int) < 256 := by have := HS.out.2.2; omega
    have HV := Aside0.mk (HTL.out b.length (bya b 1) (bya b 2) HN.out)
    rw [← HR.out] at HV
    clear HR HTL hc0
    have hs0 : (0 : Int) ≤ s := by omega
    by_cases t : s ≤ b.length
    · have t1 : (s : Int) ≤ b.length := by omega
      have t2 : decide ((s : Int) ≤ b.length) = true := decide_eq_true t1
      have e : r = true := by rw [HV.out, decide_eq_true t]; rfl
      clear t
      go_wp2_with fail
      go_ret
      exact ⟨by rw [e]; rfl, Below.refl _ _⟩
    have T0 := Aside0.mk (show decide (s ≤ b.length) = false from decide_eq_false t)
    have t1 : (b.length : Int) < s := by omega
    have t2 : decide ((s : Int) ≤ b.length) = false := decide_eq_false (by omega)
    clear t
    by_cases n1 : 1 < b.length
    · have n1I : (1 : Int) < b.length := by omega
      have l2 : decide ((b.length : Int) < 2) = false := decide_eq_false (by omega)
      have D1 := Aside0.mk (show decide (1 < b.length) = true from decide_eq_true n1)
      obtain ⟨ad', e', hc1⟩ := HB1.out n1
      cases e'
      obtain ⟨b1, hbb1⟩ : ∃ b1, b1 = bya b 1 := ⟨_, rfl⟩
      have lb1 := HL1.out
      rw [← hbb1] at hc1 lb1 HV
      have lb1' : (b1 : Int) < 256 := by omega
      clear hbb1 n1 lb1
      by_cases n2 : 2 < b.length
      · have n2I : (2 : Int) < b.length := by omega
        have l3 : decide ((b.length : Int) < 3) = false := decide_eq_false (by omega)
        have D2 := Aside0.mk (show decide (2 < b.length) = true from decide_eq_true n2)
        obtain ⟨ad', e', hc2⟩ := HB2.out n2
        cases e'
        obtain ⟨b2, hbb2⟩ : ∃ b2, b2 = bya b 2 := ⟨_, rfl⟩
        have lb2 := HL2.out
        rw [← hbb2] at hc2 lb2 HV
        have lb2' : (b2 : Int) < 256 := by omega
        clear hbb2 n2 lb2
        by_cases c0 : lo ≤ b1
        case neg =>
          have q0 : decide ((lo : Int) ≤ b1) = false := decide_eq_false (by omega)
          have p0 : (b1 : Int) < lo := by omega
          have Q0 := Aside0.mk (show decide (b1 < lo) = true from decide_eq_true (by omega))
          clear c0
          go_wp2_with fail
          go_ret
          exact ⟨by rw [HV.out, T0.out, D1.out, D2.out, Q0.out]; first | rfl | simp, Below.refl _ _⟩
        have q0 : decide ((lo : Int) ≤ b1) = true := decide_eq_true (by omega)
        have p0 : (lo : Int) ≤ b1 := by omega
        have Q0 := Aside0.mk (show decide (b1 < lo) = false from decide_eq_false (by omega))
        by_cases c1 : b1 ≤ hi
        case neg =>
          have q1 : decide ((b1 : Int) ≤ hi) = false := decide_eq_false (by omega)
          have p1 : (hi : Int) < b1 := by omega
          have Q1 := Aside0.mk (show decide (hi < b1) = true from decide_eq_true (by omega))
          clear c0 c1
          go_wp2_with fail
          go_ret
          exact ⟨by rw [HV.out, T0.out, D1.out, D2.out, Q0.out, Q1.out]; first | rfl | simp, Below.refl _ _⟩
        have q1 : decide ((b1 : Int) ≤ hi) = true := decide_eq_true (by omega)
        have p1 : (b1 : Int) ≤ hi := by omega
        have Q1 := Aside0.mk (show decide (hi < b1) = false from decide_eq_false (by omega))
        by_cases c2 : 128 ≤ b2
        case neg =>
          have q2 : decide ((128 : Int) ≤ b2) = false := decide_eq_false (by omega)
          have p2 : (b2 : Int) < 128 := by omega
          have Q2 := Aside0.mk (show decide (b2 < 128) = true from decide_eq_true (by omega))
          clear c0 c1 c2
          go_wp2_with fail
          go_ret
          exact ⟨by rw [HV.out, T0.out, D1.out, D2.out, Q0.out, Q1.out, Q2.out]; first | rfl | simp, Below.refl _ _⟩
        have q2 : decide ((128 : Int) ≤ b2) = true := decide_eq_true (by omega)
        have p2 : (128 : Int) ≤ b2 := by omega
        have Q2 := Aside0.mk (show decide (b2 < 128) = false from decide_eq_false (by omega))
        by_cases c3 : b2 ≤ 191
        case neg =>
          have q3 : decide ((b2 : Int) ≤ 191) = false := decide_eq_false (by omega)
          have p3 : (191 : Int) < b2 := by omega
          have Q3 := Aside0.mk (show decide (191 < b2) = true from decide_eq_true (by omega))
          clear c0 c1 c2 c3
          go_wp2_with fail
          go_ret
          exact ⟨by rw [HV.out, T0.out, D1.out, D2.out, Q0.out, Q1.out, Q2.out, Q3.out]; first | rfl | simp, Below.refl _ _⟩
        have q3 : decide ((b2 : Int) ≤ 191) = true := decide_eq_true (by omega)
        have p3 : (b2 : Int) ≤ 191 := by omega
        have Q3 := Aside0.mk (show decide (191 < b2) = false from decide_eq_false (by omega))
        clear c0 c1 c2 c3
        go_wp2_with fail
        go_ret
        exact ⟨by rw [HV.out, T0.out, D1.out, D2.out, Q0.out, Q1.out, Q2.out, Q3.out]; first | rfl | simp, Below.refl _ _⟩
      · have l3 : decide ((b.length : Int) < 3) = true := decide_eq_true (by omega)
        have D2 := Aside0.mk (show decide (2 < b.length) = false from decide_eq_false n2)
        clear n2
        by_cases c0 : lo ≤ b1
        case neg =>
          have q0 : decide ((lo : Int) ≤ b1) = false := decide_eq_false (by omega)
          have p0 : (b1 : Int) < lo := by omega
          have Q0 := Aside0.mk (show decide (b1 < lo) = true from decide_eq_true (by omega))
          clear c0
          go_wp2_with fail
          go_ret
          exact ⟨by rw [HV.out, T0.out, D1.out, D2.out, Q0.out]; first | rfl | simp, Below.refl _ _⟩
        have q0 : decide ((lo : Int) ≤ b1) = true := decide_eq_true (by omega)
        have p0 : (lo : Int) ≤ b1 := by omega
        have Q0 := Aside0.mk (show decide (b1 < lo) = false from decide_eq_false (by omega))
        by_cases c1 : b1 ≤ hi
        case neg =>
          have q1 : decide ((b1 : Int) ≤ hi) = false := decide_eq_false (by omega)
          have p1 : (hi : Int) < b1 := by omega
          have Q1 := Aside0.mk (show decide (hi < b1) = true from decide_eq_true (by omega))
          clear c0 c1
          go_wp2_with fail
          go_ret
          exact ⟨by rw [HV.out, T0.out, D1.out, D2.out, Q0.out, Q1.out]; first | rfl | simp, Below.refl _ _⟩
        have q1 : decide ((b1 : Int) ≤ hi) = true := decide_eq_true (by omega)
        have p1 : (b1 : Int) ≤ hi := by omega
        have Q1 := Aside0.mk (show decide (hi < b1) = false from decide_eq_false (by omega))
        clear c0 c1
        go_wp2_with fail
        go_ret
        exact ⟨by rw [HV.out, T0.out, D1.out, D2.out, Q0.out, Q1.out]; first | rfl | simp, Below.refl _ _⟩
    · have l2 : decide ((b.length : Int) < 2) = true := decide_eq_true (by omega)
      have l3 : decide ((b.length : Int) < 3) = true := decide_eq_true (by omega)
      have D1 := Aside0.mk (show decide (1 < b.length) = false from decide_eq_false n1)
      have D2 := Aside0.mk (show decide (2 < b.length) = false from decide_eq_false (by omega))
      clear n1
      go_wp2_with fail
      go_ret
      exact ⟨by rw [HV.out, T0.out, D1.out, D2.out]; rfl, Below.refl _ _⟩
end Go.Proofs.YtneioenhnioehaaDoor.UtfBegins
