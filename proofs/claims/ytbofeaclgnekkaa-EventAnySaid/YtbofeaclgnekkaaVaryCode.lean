/- What Put and Take of package vary do, as contracts: Put writes the bytes of numbers ('encs') behind a row of one's own, Take tells what 'dec' reads; no condition but the sizes that each contract states. -/
import Derived.Test.YtbofeaclgnekkaaKit
import Derived.Test.YtbofeaclgnekkaaPlain
import Derived.Test.YtbofeaclgnekkaaMine
namespace Go.Proofs.Ytbofeaclgnekkaa.Vary
open Go.RowKit Go.Proofs.Ytbofeaclgnekkaa.Kit Go.Proofs.Ytbofeaclgnekkaa.Plain Go.Proofs.Ytbofeaclgnekkaa.Mine Go.Proofs.YtbofeaclgnekkaaW.PrintWords Go.Proofs.YtbofeaclgnekkaaW.PrintLast Go.Proofs.YtbofeaclgnekkaaW.PrintMore
set_option linter.unusedVariables false
set_option linter.unusedSimpArgs false

/-- What 'dec' tells, as whole numbers. -/
def decI (b : List Int) (i acc : Nat) : Int × Int := ((dec b i acc).1, (dec b i acc).2)
theorem decI_enc (n : Nat) (hn : n < 18446744073709551616) (r : List Int) : decI (enc n ++ r) 0 0 = ((n : Int), ((enc n).length : Int)) := by
  unfold decI
  rw [dec_enc n 0 0 r (by omega) (by simpa using hn) (.inr rfl)]
  simp

set_option maxHeartbeats 400000 in
set_option maxRecDepth 100000 in
theorem take_c (A : Option Addr) (c : Nat) (b : List Int) (w : World) (hr : Kd.C (Kd.int .u8) w A b.length b) (hc : b.length ≤ c) (hb : ∀ x ∈ b, 0 ≤ x ∧ x < 256) (hs : b.length < 1000000000000) :
    Calls Try.prog 29 #[.slice A b.length c] w fun e w' => e = .returned (.tuple #[.int .u64 (decI b 0 0).1, .int .i64 (decI b 0 0).2]) ∧ Below w.heap.size w w' := by
  have HR := Aside0.mk hr
  have HBY := Aside0.mk hb
  clear hr hb
  go_enter Try.func29, Try.ntmps29
  go_wp2
  go_loopg [4, 9] (b.length) (fun g v4 v9 W => ∃ i acc : Nat, v9 = .int .i64 (i : Int) ∧ v4 = .int .u64 (acc : Int) ∧ Aside0 (g + i = b.length) ∧ Aside0 (decI b 0 0 = decI (b.drop i) i acc) ∧ Aside0 (i ≤ 9 → acc < 2 ^ (7 * i)) ∧ Aside0 (Below w.heap.size w W))
  case atStart => exact ⟨0, 0, rfl, rfl, ⟨by omega⟩, ⟨rfl⟩, ⟨fun _ => by simp⟩, ⟨Below.refl _ _⟩⟩
  case round =>
    obtain ⟨i, acc, rfl, rfl, HG, HD, HA, HB⟩ := hrel
    have hgi := HG.out
    by_cases hi : i < b.length
    · obtain ⟨g0, rfl⟩ : ∃ g0, gk = g0 + 1 := ⟨gk - 1, by omega⟩
      obtain ⟨ad, ead, hcell⟩ := Kd.at_int (Kd.C_below HR.out HB.out) (i : Int) (by omega) (by omega)
      rw [Int.toNat_natCast, rd_nth b i hi] at hcell
      have hcb := HBY.out b[i] (List.getElem_mem hi)
      have hd2 : b.drop i = b[i] :: b.drop (i + 1) := List.drop_eq_getElem_cons hi
      have hdd := HD.out
      rw [hd2] at hdd
      obtain ⟨x, hx⟩ : ∃ x, x = b[i] := ⟨_, rfl⟩
      rw [← hx] at hcell hcb hdd
      have hdx : ∀ rest, decI (x :: rest) i acc = if (i = 9 ∧ 1 < x) ∨ 9 < i then (0, 0) else if x < 128 then (if x = 0 ∧ 0 < i then (0, 0) else (((acc + x.toNat * 2 ^ (7 * i) : Nat) : Int), ((i + 1 : Nat) : Int))) else decI rest (i + 1) (acc + (x.toNat - 128) * 2 ^ (7 * i)) := by
        intro rest
        unfold decI
        rw [dec]
        split
        · rfl
        · split
          · split <;> rfl
          · rfl
      rw [hdx] at hdd
      subst ead
      have hil : (i : Int) < b.length := by omega
      clear hx hd2 hdx HD
      by_cases h1 : (i = 9 ∧ 1 < x) ∨ 9 < i
      · rw [if_pos h1] at hdd
        have HDD := Aside0.mk hdd
        clear hdd
        rcases h1 with ⟨h9, h1⟩ | h1
        · have t1 : ((i : Int) == 9) = true := beq_iff_eq.mpr (by omega)
          have t2 : decide ((1 : Int) < x) = true := decide_eq_true h1
          clear h9 hgi
          go_wp2
          go_ret2
          exact ⟨by rw [HDD.out]; rfl, HB.out⟩
        · have t1 : ((i : Int) == 9) = false := beq_eq_false_iff_ne.mpr (by omega)
          go_wp2
          go_ret2
          exact ⟨by rw [HDD.out]; rfl, HB.out⟩
      · rw [if_neg h1] at hdd
        have hi9 : i ≤ 9 := by omega
        have hpw := pow7 i
        have hacc0 := HA.out hi9
        by_cases h2 : x < 128
        · rw [if_pos h2] at hdd
          have hmul : (x % 128).toNat * 2 ^ (7 * i) < 2 ^ 64 := by
            by_cases h9 : i = 9
            · have : (x % 128).toNat ≤ 1 := by omega
              rw [h9]
              exact Nat.lt_of_le_of_lt (Nat.mul_le_mul_right (2 ^ (7 * 9)) this) (by decide)
            · have : (x % 128).toNat ≤ 127 := by omega
              exact Nat.lt_of_le_of_lt (Nat.mul_le_mul this (Nat.pow_le_pow_right (n := 2) (by decide) (show 7 * i ≤ 56 by omega))) (by decide)
          have ho := or_sh2 i acc x hcb.1 hcb.2 hi9 hacc0 hmul
          rw [show (x % 128).toNat = x.toNat from by omega] at ho
          obtain ⟨acc', hacc'⟩ : ∃ acc', acc' = acc + x.toNat * 2 ^ (7 * i) := ⟨_, rfl⟩
          rw [← hacc'] at ho hdd
          have HDD := Aside0.mk hdd
          clear hpw hacc0 hacc' hmul hdd
          have h71 : (0 : Int) ≤ 7 * (i : Int) := by omega
          have h72 : 7 * (i : Int) ≤ 63 := by omega
          have t9 : ((i : Int) == 9) = false ∨ ((i : Int) == 9) = true ∧ decide ((1 : Int) < x) = false := by
            by_cases h9 : i = 9
            · exact .inr ⟨beq_iff_eq.mpr (by omega), decide_eq_false (by omega)⟩
            · exact .inl (beq_eq_false_iff_ne.mpr (by omega))
          have t0 : (x == 0) = false ∧ Aside0 (¬ (x = 0 ∧ 0 < i)) ∨ ((x == 0) = true ∧ decide (0 < (i : Int)) = true ∧ decide (0 < i) = true ∧ Aside0 (x = 0 ∧ 0 < i)) ∨ ((x == 0) = true ∧ decide (0 < (i : Int)) = false ∧ decide (0 < i) = false ∧ Aside0 (¬ (x = 0 ∧ 0 < i))) := by
            by_cases h0 : x = 0
            · by_cases h3 : 0 < i
              · exact .inr (.inl ⟨beq_iff_eq.mpr h0, decide_eq_true (by omega), decide_eq_true h3, ⟨h0, h3⟩⟩)
              · exact .inr (.inr ⟨beq_iff_eq.mpr h0, decide_eq_false (by omega), decide_eq_false h3, ⟨fun h => h3 h.2⟩⟩)
            · exact .inl ⟨beq_eq_false_iff_ne.mpr h0, ⟨fun h => h0 h.1⟩⟩
          have H1 := Aside0.mk h1
          have HGI := Aside0.mk hgi
          clear h1 hgi
          rcases t9 with t9 | ⟨t9, t91⟩ <;> rcases t0 with ⟨t0, T0⟩ | ⟨t0, t02, t03, T0⟩ | ⟨t0, t02, t03, T0⟩
          all_goals
            go_wp2
            go_ret2
            first
              | exact ⟨by rw [HDD.out, if_neg T0.out]; rfl, HB.out⟩
              | exact ⟨by rw [HDD.out, if_pos T0.out]; rfl, HB.out⟩
        · rw [if_neg h2] at hdd
          have hi8 : i ≤ 8 := by omega
          have h127 : (x % 128).toNat * 2 ^ (7 * i) ≤ 127 * 2 ^ (7 * i) := Nat.mul_le_mul_right _ (by omega)
          have hacc : acc + (x % 128).toNat * 2 ^ (7 * i) < 2 ^ (7 * (i + 1)) := by omega
          have h63 : 2 ^ (7 * (i + 1)) ≤ 2 ^ 63 := Nat.pow_le_pow_right (by decide) (by omega)
          have h64 : (2 : Nat) ^ 63 < 2 ^ 64 := by decide
          have ho := or_sh2 i acc x hcb.1 hcb.2 hi9 hacc0 (by omega)
          rw [show (x % 128).toNat = x.toNat - 128 from by omega] at ho hacc
          obtain ⟨acc', hacc'⟩ : ∃ acc', acc' = acc + (x.toNat - 128) * 2 ^ (7 * i) := ⟨_, rfl⟩
          rw [← hacc'] at ho hdd hacc
          have HDD := Aside0.mk hdd
          have HACC := Aside0.mk (fun _ : i + 1 ≤ 9 => hacc)
          have HGI := Aside0.mk hgi
          clear hpw hacc0 hacc' hdd h127 hacc h63 h64 h1 hgi hi9
          have h71 : (0 : Int) ≤ 7 * (i : Int) := by omega
          have h72 : 7 * (i : Int) ≤ 63 := by omega
          have t9 : ((i : Int) == 9) = false := beq_eq_false_iff_ne.mpr (by omega)
          have t128 : (128 : Int) ≤ x := by omega
          go_wp2
          go_roundg g0
          case measure => omega
          case rel => exact ⟨i + 1, acc', by go_num, rfl, ⟨by have := HGI.out; omega⟩, HDD, HACC, HB⟩
    · have hdd := HD.out
      rw [List.drop_eq_nil_of_le (by omega)] at hdd
      have HDD := Aside0.mk (show decI b 0 0 = (0, 0) from hdd)
      have hil : (b.length : Int) ≤ i := by omega
      clear hdd
      go_wp2
      go_ret2
      exact ⟨by rw [HDD.out]; rfl, HB.out⟩

set_option maxHeartbeats 400000 in
set_option maxRecDepth 100000 in
theorem put_c (P0 : Nat → Prop) (v : Value) (x0 : List Int) (A : Option Addr) (c : Nat) (l : List Int) (w0 w : World) (hB : Below w0.heap.size w0 w) (ho : Kd.R (Kd.int .u8) 5 w w0.heap.size P0 v x0)
    (hr : ∀ W, Kept w W P0 → Kd.C (Kd.int .u64) W A l.length l) (hc : l.length ≤ c) (hl : ∀ x ∈ l, 0 ≤ x ∧ x < 18446744073709551616) (hs : l.length < 1000000000000) (h0 : x0.length ≤ 1000000000000) :
    Calls Try.prog 25 #[v, .slice A l.length c] w fun e w' => ∃ v0 : Value, e = .returned v0 ∧ Kd.R (Kd.int .u8) 5 w' w0.heap.size (fun k => P0 k ∨ w.heap.size ≤ k) v0 (x0 ++ encs l) ∧ Below w0.heap.size w0 w' ∧ Kept w w' P0 := by
  have HO := Aside0.mk (Kd.R_mono ho (fun k hk => (.inl hk : P0 k ∨ w.heap.size ≤ k)))
  have HR := Aside0.mk hr
  have HL := Aside0.mk hl
  have HB := Aside0.mk hB
  have HK := Aside0.mk (Kept.refl w P0)
  have HX0 := Aside0.mk h0
  clear ho hr hl hB h0
  go_enter Try.func25, Try.ntmps25
  go_wp2
  go_loopg [0, 9] (l.length) (fun g v0 v9 W => ∃ i : Nat, v9 = .int .i64 (i : Int) ∧ Aside0 (g + i = l.length) ∧ Aside0 (Kd.R (Kd.int .u8) 5 W w0.heap.size (fun k => P0 k ∨ w.heap.size ≤ k) v0 (x0 ++ encs (l.take i))) ∧ Aside0 (Kept w W P0) ∧ Aside0 (Below w0.heap.size w0 W))
  case atStart => exact ⟨0, rfl, ⟨by omega⟩, ⟨by simpa [Plain.encs] using HO.out⟩, HK, HB⟩
  case round =>
    clear HO HB HK
    obtain ⟨i, rfl, HG, HO, HK, HB⟩ := hrel
    have hgi := HG.out
    by_cases hi : i < l.length
    · obtain ⟨g0, rfl⟩ : ∃ g0, gk = g0 + 1 := ⟨gk - 1, by omega⟩
      obtain ⟨ad, ead, hcell⟩ := Kd.at_int (HR.out _ HK.out) (i : Int) (by omega) (by omega)
      rw [Int.toNat_natCast, rd_nth l i hi] at hcell
      have hcb := HL.out l[i] (List.getElem_mem hi)
      obtain ⟨n, hn⟩ : ∃ n : Nat, l[i] = (n : Int) := ⟨l[i].toNat, by omega⟩
      have htk : encs (l.take (i + 1)) = encs (l.take i) ++ enc n := by
        rw [List.take_succ_eq_append_getElem hi]
        simp [Plain.encs, hn]
      have hle := encs_len (l.take i) (fun x hx => HL.out x (List.mem_of_mem_take hx))
      rw [List.length_take] at hle
      have hlen := enc_len10 n (by omega)
      rw [hn] at hcell hcb
      have HTK := Aside0.mk htk
      have hx0 := HX0.out
      have hlm : (x0 ++ encs (l.take i)).length ≤ 100000000000000 := by rw [List.length_append]; omega
      obtain ⟨xs0, hxs0⟩ : ∃ xs0, xs0 = x0 ++ encs (l.take i) := ⟨_, rfl⟩
      rw [← hxs0] at hlm
      have HO' := HO.out
      rw [← hxs0] at HO'
      have HXS0 := Aside0.mk hxs0
      have HO2 := Aside0.mk HO'
      have HI := Aside0.mk hi
      have hil : (i : Int) < l.length := by omega
      have hl12 : l.length < 1000000000000 := hs
      subst ead
      clear htk hle hn hxs0 HO' hgi HO hx0 hi
      go_wp2
      go_loopg [0, 6] (n + 1) (fun g v0 v6 W => ∃ (m : Nat) (xs : List Int), v6 = .int .u64 (m : Int) ∧ Aside0 (m < g) ∧ Aside0 (xs ++ enc m = xs0 ++ enc n) ∧ Aside0 (Kd.R (Kd.int .u8) 5 W w0.heap.size (fun k => P0 k ∨ w.heap.size ≤ k) v0 xs) ∧ Aside0 (Kept w W P0) ∧ Aside0 (Below w0.heap.size w0 W))
      case atStart => exact ⟨n, xs0, rfl, ⟨by omega⟩, ⟨rfl⟩, HO2, HK, HB⟩
      case round =>
        clear HO2 HK HB hcell
        obtain ⟨m, xs, rfl, HM, HX, HO, HK, HB⟩ := hrel
        have hxl : xs.length + (enc m).length = xs0.length + (enc n).length := by rw [← List.length_append, ← List.length_append, HX.out]
        have hpm := enc_pos m
        have hxs : xs.length ≤ 100000000001000 := by omega
        have HXL := Aside0.mk hxs
        clear hxl hpm hxs
        by_cases hm : m < 128
        · have hmi : (m : Int) < 128 := by omega
          have he : xs ++ [(m : Int)] = x0 ++ encs (l.take (i + 1)) := by
            rw [HTK.out, ← List.append_assoc, ← HXS0.out, ← HX.out, enc_small hm]
          have HE := Aside0.mk he
          clear he
          go_wp2_with (first
            | ((with_reducible refine gate_builtin (b := .append) (xs := #[.tmp 23, .tmp 26]) rfl ?_); at_builtin; refine Kd.R_append (Kd.int .u8) (w0 := w0) w0.heap.size rfl (.tmp 23) (.tmp 26) 34 5 (.int .u8 0) 1 rfl Try.underlying34 info_u8 rfl (by decide) (by omega) u0 xs (m : Int) [.int .u8 (m : Int)] (fun k => P0 k ∨ w.heap.size ≤ k) (fun _ => False) rfl rfl ?aP (fun _ hk => hk.elim) ?aF HO.out HB.out HB.out.size ?aL ?_; (case aP => rfl); (case aF => exact fun k hk => .inr (Nat.le_trans HK.out.1 hk)); (case aL => have := HXL.out; omega); intro v1 w8 ho hb hg hat; rw [HE.out] at ho; have HO8 := Aside0.mk ho; have HB8 := Aside0.mk hb; have HK8 := Aside0.mk (Kept.of_grown hg HK.out (fun k e_ => HO.out.1 k e_)); clear ho hb hg hat)
            | fail)
          go_roundg g0
          case measure => omega
          case rel => exact ⟨i + 1, by go_num, ⟨by have := HG.out; omega⟩, HO8, HK8, HB8⟩
        · have hmi : (128 : Int) ≤ m := by omega
          have he : (xs ++ [Go.bits .or .u8 ((m : Int) % 256) 128]) ++ enc (m / 128) = xs0 ++ enc n := by
            rw [← HX.out, enc_big hm, hi7]
            simp
          have HE := Aside0.mk he
          clear he
          go_wp2_with (first
            | ((with_reducible refine gate_builtin (b := .append) (xs := #[.tmp 17, .tmp 21]) rfl ?_); at_builtin; refine Kd.R_append (Kd.int .u8) (w0 := w0) w0.heap.size rfl (.tmp 17) (.tmp 21) 34 5 (.int .u8 0) 1 rfl Try.underlying34 info_u8 rfl (by decide) (by omega) u0 xs (Go.bits .or .u8 ((m : Int) % 256) 128) [.int .u8 (Go.bits .or .u8 ((m : Int) % 256) 128)] (fun k => P0 k ∨ w.heap.size ≤ k) (fun _ => False) rfl rfl ?aP (fun _ hk => hk.elim) ?aF HO.out HB.out HB.out.size ?aL ?_; (case aP => rfl); (case aF => exact fun k hk => .inr (Nat.le_trans HK.out.1 hk)); (case aL => have := HXL.out; omega); intro v1 w8 ho hb hg hat; have HO8 := Aside0.mk ho; have HB8 := Aside0.mk hb; have HK8 := Aside0.mk (Kept.of_grown hg HK.out (fun k e_ => HO.out.1 k e_)); clear ho hb hg hat)
            | fail)
          go_roundg m
          case measure => exact HM.out
          case rel => exact ⟨m / 128, _, by go_num, ⟨by omega⟩, HE, HO8, HK8, HB8⟩
    · have hil : (l.length : Int) ≤ i := by omega
      have hfin := HO.out
      rw [List.take_of_length_le (by omega)] at hfin
      have HF := Aside0.mk hfin
      clear hfin hgi
      go_wp2
      go_ret
      exact ⟨_, rfl, HF.out, HB.out, HK.out⟩
/-- Put on nil: a new row. -/
theorem put_nil_c (A : Option Addr) (c : Nat) (l : List Int) (w : World) (hr : Kd.C (Kd.int .u64) w A l.length l) (hc : l.length ≤ c) (hl : ∀ x ∈ l, 0 ≤ x ∧ x < 18446744073709551616) (hs : l.length < 1000000000000) :
    Calls Try.prog 25 #[.slice none 0 0, .slice A l.length c] w fun e w' => ∃ (A' : Option Addr) (c' : Nat), e = .returned (.slice A' (encs l).length c') ∧ (encs l).length ≤ c' ∧ Kd.C (Kd.int .u8) w' A' (encs l).length (encs l) ∧ Kd.R (Kd.int .u8) 5 w' w.heap.size (fun k => w.heap.size ≤ k) (.slice A' (encs l).length c') (encs l) ∧ Below w.heap.size w w' := by
  refine (put_c (fun _ => False) (.slice none 0 0) [] A c l w w (Below.refl _ _) (Kd.R_nil _ _ _ _ _) (fun W hW => Kd.C_kept_came (Kd.heap_int _) hr (Below.refl _ _) (fun _ h => h.elim) W hW) hc hl hs (by simp)).mono ?_
  rintro e w' ⟨v0, rfl, ho, hb, _⟩
  rw [List.nil_append] at ho
  obtain ⟨A', c', rfl⟩ := Kd.R_slice ho
  obtain ⟨_, h1, h2⟩ := Kd.R_reads' ho
  exact ⟨A', c', rfl, h1, h2, Kd.R_mono ho (fun k hk => hk.elim (fun h => h.elim) id), hb⟩
theorem encs_one (n : Nat) : encs [(n : Int)] = enc n := by simp [Plain.encs]
end Go.Proofs.Ytbofeaclgnekkaa.Vary
