/- The law CrcSums returns true: a walk through its text; no condition but that the slice can be read. -/
import Derived.Test.YtmomfoedbkapfaaCrcFit
namespace Go.Proofs.Ytmomfoedbkapfaa.SumsWalk
open Go.RowKit Go.Proofs.Ytmomfoedbkapfaa.Kit Go.Proofs.Ytmomfoedbkapfaa.Plain Go.Proofs.Ytmomfoedbkapfaa.Crc Go.Proofs.Ytmomfoedbkapfaa.CrcCode Go.Proofs.Ytmomfoedbkapfaa.CrcFit Go.Proofs.Ytmomfoedbkapfaa.Mine Go.Proofs.Ytmomfoedbkapfaa.Vary Go.Proofs.YtmomfoedbkapfaaW.PrintWords Go.Proofs.YtmomfoedbkapfaaW.PrintLast Go.Proofs.YtmomfoedbkapfaaW.PrintMore
set_option linter.unusedVariables false
set_option linter.unusedSimpArgs false

/-- One bit more: the state's, and the byte's, are told apart. -/
theorem T_bit (m q : Nat) : T (m ^^^ q) = ((m / 2) ^^^ (if (m % 2 + q % 2) % 2 = 1 then 3988292384 else 0)) ^^^ (q / 2) := by
  unfold T
  rw [xor_mod2, Nat.xor_div_two]
  rw [Nat.xor_assoc, Nat.xor_assoc]
  congr 1
  exact Nat.xor_comm _ _
theorem wrapU64 (n : Int) : IntKind.u64.wrap n = n % 18446744073709551616 := by simp [IntKind.wrap, IntKind.bits, IntKind.signed]
theorem xor64 (a b : Nat) (ha : a < 4294967296) (hb : b < 4294967296) : Go.bits .xor .u64 (a : Int) (b : Int) = ((a ^^^ b : Nat) : Int) := by
  unfold Go.bits
  show IntKind.u64.wrap (((BitVec.ofInt 64 a ^^^ BitVec.ofInt 64 b).toNat : Nat) : Int) = _
  rw [BitVec.ofInt_natCast, BitVec.ofInt_natCast, BitVec.toNat_xor, BitVec.toNat_ofNat, BitVec.toNat_ofNat, Nat.mod_eq_of_lt (by omega), Nat.mod_eq_of_lt (by omega), wrapU64]
  have : a ^^^ b < 2 ^ 32 := Nat.xor_lt_two_pow (by simpa using ha) (by simpa using hb)
  omega
theorem and1_64 (a : Nat) (ha : a < 4294967296) : Go.bits .and .u64 (a : Int) 1 = ((a % 2 : Nat) : Int) := by
  unfold Go.bits
  show IntKind.u64.wrap (((BitVec.ofInt 64 a &&& BitVec.ofInt 64 1).toNat : Nat) : Int) = _
  rw [BitVec.ofInt_natCast, BitVec.toNat_and, BitVec.toNat_ofNat, Nat.mod_eq_of_lt (by omega), show (BitVec.ofInt 64 1).toNat = 1 from rfl, Nat.and_one_is_mod, wrapU64]
  omega
theorem and1_8 (a : Nat) (ha : a < 256) : Go.bits .and .u8 (a : Int) 1 = ((a % 2 : Nat) : Int) := by
  unfold Go.bits
  show IntKind.u8.wrap (((BitVec.ofInt 8 a &&& BitVec.ofInt 8 1).toNat : Nat) : Int) = _
  rw [BitVec.ofInt_natCast, BitVec.toNat_and, BitVec.toNat_ofNat, Nat.mod_eq_of_lt (by omega), show (BitVec.ofInt 8 1).toNat = 1 from rfl, Nat.and_one_is_mod, IntKind.wrap_u8]
  omega
theorem bit_eq (m n j : Nat) (hm : m < 4294967296) (hn : n < 256) :
    Go.bits .xor .u64 (Go.bits .and .u64 (m : Int) 1) (IntKind.u64.wrap (Go.bits .and .u8 ((n : Int) / 2 ^ j) 1)) = (((m % 2 + n / 2 ^ j % 2) % 2 : Nat) : Int) := by
  have hd : n / 2 ^ j ≤ n := Nat.div_le_self _ _
  have e : (n : Int) / 2 ^ j = ((n / 2 ^ j : Nat) : Int) := by simp
  rw [e, and1_64 m hm, and1_8 _ (by omega), wrapU64, show (((n / 2 ^ j % 2 : Nat) : Int) % 18446744073709551616) = ((n / 2 ^ j % 2 : Nat) : Int) from by omega, xor64 _ _ (by omega) (by omega)]
  have h1 : m % 2 = 0 ∨ m % 2 = 1 := by omega
  have h2 : n / 2 ^ j % 2 = 0 ∨ n / 2 ^ j % 2 = 1 := by omega
  rcases h1 with h1 | h1 <;> rcases h2 with h2 | h2 <;> rw [h1, h2] <;> rfl
set_option maxHeartbeats 800000 in
set_option maxRecDepth 100000 in
theorem sums_walk (A : Option Addr) (c : Nat) (b : List Int) (w : World) (hr : Kd.C (Kd.int .u8) w A b.length b) (hc : b.length ≤ c) (hb : ∀ x ∈ b, 0 ≤ x ∧ x < 256) :
    Calls Try.prog 3 #[.slice A b.length c] w fun e w' => e = .returned (.bool true) ∧ Below w.heap.size w w' := by
  have HR := Aside0.mk hr
  have HBY := Aside0.mk hb
  clear hr hb
  by_cases h500 : 500 < b.length
  · have t1 : 500 < (b.length : Int) := by omega
    clear h500
    go_enter Try.func3, Try.ntmps3
    go_wp2_with (go_at_call 8; refine (fit_c _).mono ?_; rintro e w1 ⟨rfl, hb⟩; have HB := Aside0.mk hb; clear hb)
    go_ret
    exact ⟨rfl, HB.out⟩
  · have t1 : (b.length : Int) ≤ 500 := by omega
    go_enter Try.func3, Try.ntmps3
    go_wp2_with (go_at_call 8; refine (fit_c _).mono ?_; rintro e w1 ⟨rfl, hb⟩; have HB := Aside0.mk hb; clear hb)
    go_loopg [3, 15] (b.length) (fun g v3 v15 W => ∃ i s : Nat, v15 = .int .i64 (i : Int) ∧ v3 = .int .u64 (s : Int) ∧ Aside0 (g + i = b.length) ∧ Aside0 (s = st 4294967295 (b.take i)) ∧ Aside0 (Below w.heap.size w W))
    case atStart => exact ⟨0, 4294967295, rfl, rfl, ⟨by omega⟩, ⟨by simp [st]⟩, HB⟩
    case round =>
      clear HB
      obtain ⟨i, s, rfl, rfl, HG, HS, HB⟩ := hrel
      have hgi := HG.out
      have hs32 : s < 4294967296 := by rw [HS.out]; exact st_lt _ _ (by decide) (fun x hx => HBY.out x (List.mem_of_mem_take hx))
      by_cases hi : i < b.length
      · obtain ⟨g0, rfl⟩ : ∃ g0, gk = g0 + 1 := ⟨gk - 1, by omega⟩
        obtain ⟨ad, ead, hcell⟩ := Kd.at_int (Kd.C_below HR.out HB.out) (i : Int) (by omega) (by omega)
        rw [Int.toNat_natCast, rd_nth b i hi] at hcell
        have hcb := HBY.out b[i] (List.getElem_mem hi)
        obtain ⟨n, hn⟩ : ∃ n : Nat, b[i] = (n : Int) := ⟨b[i].toNat, by omega⟩
        rw [hn] at hcell hcb
        have hst : st 4294967295 (b.take (i + 1)) = Tn 8 (s ^^^ n) := by
          rw [List.take_succ_eq_append_getElem hi, st_app, ← HS.out, hn]
          rfl
        have HST := Aside0.mk hst
        have hil : (i : Int) < b.length := by omega
        subst ead
        clear hst hn hgi HS
        go_wp2
        go_loopg [3, 19] 8 (fun g v3 v19 W => ∃ j m : Nat, v19 = .int .i64 (j : Int) ∧ v3 = .int .u64 (m : Int) ∧ Aside0 (g + j = 8) ∧ Aside0 (m < 4294967296) ∧ Aside0 (Tn g (m ^^^ (n / 2 ^ j)) = Tn 8 (s ^^^ n)) ∧ Aside0 (Below w.heap.size w W))
        case atStart => exact ⟨0, s, rfl, rfl, ⟨by omega⟩, ⟨hs32⟩, ⟨by simp⟩, HB⟩
        case round =>
          clear HB hcell hs32
          obtain ⟨j, m, rfl, rfl, HJ, HM, HT, HB⟩ := hrel
          have hgj := HJ.out
          have hm := HM.out
          by_cases hj : j < 8
          · obtain ⟨g1, rfl⟩ : ∃ g1, gk = g1 + 1 := ⟨gk - 1, by omega⟩
            have hjl : (j : Int) < 8 := by omega
            have hbit := bit_eq m n j hm (by omega)
            have hstep : Tn g1 (((m / 2) ^^^ (if (m % 2 + n / 2 ^ j % 2) % 2 = 1 then 3988292384 else 0)) ^^^ (n / 2 ^ (j + 1))) = Tn 8 (s ^^^ n) := by
              rw [← HT.out, Tn, T_bit, Nat.pow_succ, Nat.div_div_eq_div_mul]
            have hx := xor64 (m / 2) 3988292384 (by omega) (by decide)
            rw [show (((m / 2 : Nat) : Int)) = (m : Int) / 2 from by omega, show (((3988292384 : Nat) : Int)) = 3988292384 from rfl] at hx
            have h2 : (m % 2 + n / 2 ^ j % 2) % 2 = 1 ∨ (m % 2 + n / 2 ^ j % 2) % 2 = 0 := by omega
            rcases h2 with h2 | h2
            · rw [h2] at hbit
              rw [if_pos h2] at hstep
              have hbit1 : Go.bits .xor .u64 (Go.bits .and .u64 (m : Int) 1) (IntKind.u64.wrap (Go.bits .and .u8 ((n : Int) / 2 ^ j) 1)) = 1 := hbit
              have hlt : m / 2 ^^^ 3988292384 < 4294967296 := Nat.xor_lt_two_pow (n := 32) (by omega) (by decide)
              obtain ⟨m', hm'⟩ : ∃ m', m' = m / 2 ^^^ 3988292384 := ⟨_, rfl⟩
              rw [← hm'] at hstep hx hlt
              have HSTEP := Aside0.mk hstep
              clear hstep hbit h2 hm'
              go_wp2
              go_roundg g1
              case measure => omega
              case rel => exact ⟨j + 1, m', by go_num, rfl, ⟨by omega⟩, ⟨hlt⟩, HSTEP, HB⟩
            · rw [h2] at hbit
              rw [if_neg (by omega), Nat.xor_zero] at hstep
              have hbit1 : Go.bits .xor .u64 (Go.bits .and .u64 (m : Int) 1) (IntKind.u64.wrap (Go.bits .and .u8 ((n : Int) / 2 ^ j) 1)) = 0 := hbit
              have HSTEP := Aside0.mk hstep
              clear hstep hbit h2 hx
              go_wp2
              go_roundg g1
              case measure => omega
              case rel => exact ⟨j + 1, m / 2, by go_num, by go_num, ⟨by omega⟩, ⟨by omega⟩, HSTEP, HB⟩
          · have hjl : (8 : Int) ≤ j := by omega
            have hg0 : gk = 0 := by omega
            have hj8 : j = 8 := by omega
            have hfin : m = Tn 8 (s ^^^ n) := by
              rw [← HT.out, hg0, hj8, Nat.div_eq_of_lt (by omega), Nat.xor_zero]
              rfl
            have HF := Aside0.mk hfin
            clear hfin hj8 hg0
            go_wp2
            go_roundg g0
            case measure => omega
            case rel => exact ⟨i + 1, m, by go_num, rfl, ⟨by have := HG.out; omega⟩, ⟨by rw [HST.out]; exact HF.out⟩, HB⟩
      · have hil : (b.length : Int) ≤ i := by omega
        rw [List.take_of_length_le (by omega)] at HS
        have hsum := fun W h => sum_c A c b W h hc HBY.out
        have HSM := Aside0.mk hsum
        clear hsum
        go_wp2_with (go_at_call 9; refine (HSM.out _ (Kd.C_below HR.out HB.out)).mono ?_; rintro e w2 ⟨rfl, hb⟩; have HB2 := Aside0.mk (below_kept HB.out hb); clear hb)
        have hx := xor64 s 4294967295 hs32 (by decide)
        have hfin : (Go.bits .xor .u64 (s : Int) 4294967295) % 4294967296 = (sum b : Int) := by
          rw [show ((4294967295 : Int)) = ((4294967295 : Nat) : Int) from rfl, hx]
          have hl := sum_lt b HBY.out
          have : s ^^^ 4294967295 = sum b := by rw [sum, HS.out]
          rw [this]
          omega
        go_ret
        exact ⟨by
          show Ending.returned (.bool ((sum b : Int) == (Go.bits .xor .u64 (s : Int) 4294967295) % 4294967296)) = _
          rw [hfin, beq_self_eq_true], HB2.out⟩
theorem wf_u8 {x : Int} (h : (Lit.int .u8 x).wf = true) : 0 ≤ x ∧ x < 256 := by
  have h2 : 0 ≤ x ∧ x ≤ 255 := by simpa [Lit.wf, IntKind.min, IntKind.max, IntKind.bits, IntKind.signed] using h
  omega
/-- As the row hands it over. -/
theorem sums_row {W : World} (a : Option Addr) (cap : Nat) (l : List Int) (hr : ReadsInt W .u8 a l.length l) (hc : l.length ≤ cap) (hw : ∀ x ∈ l, (Lit.int .u8 x).wf = true) (_ : l.length * 1 ≤ 140737488351232) :
    Calls Try.prog 3 #[.slice a l.length cap] W fun e w' => e = .returned (.bool true) ∧ Below W.heap.size W w' :=
  sums_walk a cap l W (Kd.C_of_reads (d := (0 : Int)) (h1 := fun _ => rfl) hr) hc (fun x hx => wf_u8 (hw x hx))
end Go.Proofs.Ytmomfoedbkapfaa.SumsWalk
