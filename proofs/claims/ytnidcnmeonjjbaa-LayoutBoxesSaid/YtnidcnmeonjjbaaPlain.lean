import Derived.Laws.BitsLemmas
import Derived.RowKit
import Derived.Lib.Bytes
import Derived.Test.YtnidcnmeonjjbaaWWords
import Derived.Test.YtnidcnmeonjjbaaWMore
/- Plain facts on the bytes of numbers: 'enc' lists a number's bytes, 'dec' reads them back. -/
namespace Go.Proofs.Ytnidcnmeonjjbaa.Plain
open Go.RowKit Go.Proofs.YtnidcnmeonjjbaaW.PrintWords Go.Proofs.YtnidcnmeonjjbaaW.PrintLast Go.Proofs.YtnidcnmeonjjbaaW.PrintMore

def enc (n : Nat) : List Int := if n < 128 then [(n : Int)] else ((n % 128 + 128 : Nat) : Int) :: enc (n / 128)
termination_by n
decreasing_by omega

def dec : List Int → Nat → Nat → Nat × Nat
  | [], _, _ => (0, 0)
  | c :: cs, i, acc =>
    if (i = 9 ∧ 1 < c) ∨ 9 < i then (0, 0)
    else if c < 128 then (if c = 0 ∧ 0 < i then (0, 0) else (acc + c.toNat * 2 ^ (7 * i), i + 1))
    else dec cs (i + 1) (acc + (c.toNat - 128) * 2 ^ (7 * i))

theorem enc_small {n : Nat} (h : n < 128) : enc n = [(n : Int)] := by rw [enc, if_pos h]
theorem enc_big {n : Nat} (h : ¬ n < 128) : enc n = ((n % 128 + 128 : Nat) : Int) :: enc (n / 128) := by rw [enc, if_neg h]
theorem enc_pos (n : Nat) : 0 < (enc n).length := by
  by_cases h : n < 128
  · rw [enc_small h]; simp
  · rw [enc_big h]; simp
theorem enc_bytes (n : Nat) : ∀ c ∈ enc n, 0 ≤ c ∧ c < 256 := by
  induction n using Nat.strongRecOn with
  | _ n ih =>
    by_cases h : n < 128
    · rw [enc_small h]; simp; omega
    · rw [enc_big h]
      intro c hc
      rcases List.mem_cons.1 hc with rfl | hc
      · omega
      · exact ih _ (by omega) c hc

theorem pow7 (i : Nat) : 2 ^ (7 * (i + 1)) = 128 * 2 ^ (7 * i) := by
  rw [show 7 * (i + 1) = 7 * i + 7 from by omega, Nat.pow_add]; omega

theorem dec_enc (n : Nat) : ∀ (i acc : Nat) (r : List Int), i ≤ 9 → n * 2 ^ (7 * i) < 2 ^ 64 → (0 < n ∨ i = 0) → dec (enc n ++ r) i acc = (acc + n * 2 ^ (7 * i), i + (enc n).length) := by
  induction n using Nat.strongRecOn with
  | _ n ih =>
    intro i acc r hi hn h0
    by_cases h : n < 128
    · rw [enc_small h]
      simp only [List.cons_append, List.nil_append, dec, List.length_singleton]
      rw [if_neg, if_pos (by omega), if_neg (by omega)]
      · simp
      · intro hc
        have : i = 9 := by omega
        subst this
        have e63 : (2 : Nat) ^ (7 * 9) = 9223372036854775808 := by decide
        have e64 : (2 : Nat) ^ 64 = 18446744073709551616 := by decide
        rw [e63, e64] at hn
        omega
    · rw [enc_big h]
      have hp := pow7 i
      have hq : n / 128 * 2 ^ (7 * (i + 1)) ≤ n * 2 ^ (7 * i) := by
        rw [hp, ← Nat.mul_assoc]; exact Nat.mul_le_mul_right _ (by omega)
      have hi9 : i ≤ 8 := by
        apply Nat.le_of_not_lt; intro hc
        have : i = 9 := by omega
        subst this
        have e63 : (2 : Nat) ^ (7 * 9) = 9223372036854775808 := by decide
        have e64 : (2 : Nat) ^ 64 = 18446744073709551616 := by decide
        rw [e63, e64] at hn
        omega
      simp only [List.cons_append, dec, List.length_cons]
      rw [if_neg (by omega), if_neg (by omega), ih (n / 128) (by omega) (i + 1) _ r (by omega) (by omega) (by omega), hp]
      have hd : n = n / 128 * 128 + n % 128 := by omega
      have e : n * 2 ^ (7 * i) = n / 128 * (128 * 2 ^ (7 * i)) + n % 128 * 2 ^ (7 * i) := by
        rw [← Nat.mul_assoc, ← Nat.add_mul, ← hd]
      refine Prod.ext ?_ ?_
      · show acc + _ + _ = _
        rw [e]
        have : ((n % 128 + 128 : Nat) : Int).toNat - 128 = n % 128 := by omega
        rw [this]; omega
      · show i + 1 + _ = _
        omega

theorem dec_some : ∀ (b : List Int) (i acc v k : Nat), (∀ c ∈ b, 0 ≤ c ∧ c < 256) → dec b i acc = (v, k) → (v = 0 ∧ k = 0) ∨ ∃ n, ∃ r, b = enc n ++ r ∧ k = i + (enc n).length ∧ v = acc + n * 2 ^ (7 * i) ∧ i ≤ 9 ∧ n * 2 ^ (7 * i) < 2 ^ 64 ∧ (0 < n ∨ i = 0) := by
  intro b
  induction b with
  | nil => intro i acc v k _ h; simp [dec] at h; exact .inl ⟨h.1.symm, h.2.symm⟩
  | cons c cs ih =>
    intro i acc v k hb h
    have hc := hb c (by simp)
    rw [dec] at h
    by_cases h1 : (i = 9 ∧ 1 < c) ∨ 9 < i
    · rw [if_pos h1] at h; simp at h; exact .inl ⟨h.1.symm, h.2.symm⟩
    · rw [if_neg h1] at h
      by_cases h2 : c < 128
      · rw [if_pos h2] at h
        by_cases h3 : c = 0 ∧ 0 < i
        · rw [if_pos h3] at h; simp at h; exact .inl ⟨h.1.symm, h.2.symm⟩
        · rw [if_neg h3] at h
          simp at h
          refine .inr ⟨c.toNat, cs, ?_, ?_, ?_, by omega, ?_, by omega⟩
          · rw [enc_small (by omega), Int.toNat_of_nonneg hc.1]; rfl
          · rw [enc_small (by omega)]; simp; omega
          · omega
          · have hm : c.toNat ≤ if i = 9 then 1 else 127 := by split <;> omega
            by_cases h9 : i = 9
            · subst h9; rw [if_pos rfl] at hm
              exact Nat.lt_of_le_of_lt (Nat.mul_le_mul_right _ hm) (by decide)
            · rw [if_neg h9] at hm
              refine Nat.lt_of_le_of_lt (Nat.mul_le_mul hm (Nat.pow_le_pow_right (by decide) (show 7 * i ≤ 56 by omega))) (by decide)
      · rw [if_neg h2] at h
        rcases ih (i + 1) _ v k (fun c hc => hb c (by simp [hc])) h with hz | ⟨n, r, e1, e2, e3, e4, e5, e6⟩
        · exact .inl hz
        · have hp := pow7 i
          refine .inr ⟨n * 128 + (c.toNat - 128), r, ?_, ?_, ?_, by omega, ?_, by omega⟩
          · rw [enc_big (by omega), show (n * 128 + (c.toNat - 128)) / 128 = n from by omega, e1, show ((n * 128 + (c.toNat - 128)) % 128 + 128 : Nat) = c.toNat from by omega, Int.toNat_of_nonneg hc.1]
            rfl
          · rw [enc_big (by omega), show (n * 128 + (c.toNat - 128)) / 128 = n from by omega, List.length_cons]; omega
          · rw [e3, hp, Nat.add_mul, ← Nat.mul_assoc]; omega
          · rw [Nat.add_mul, Nat.mul_assoc, ← hp]
            have h128 : c.toNat - 128 < 128 := by omega
            have hlt : (c.toNat - 128) * 2 ^ (7 * i) < 2 ^ (7 * (i + 1)) := by rw [hp]; exact Nat.mul_lt_mul_of_pos_right h128 (Nat.pow_pos (by decide))
            -- n * 2^(7(i+1)) is a multiple of 2^(7(i+1)) below 2^64
            have hpw : 2 ^ 64 = 2 ^ (64 - 7 * (i + 1)) * 2 ^ (7 * (i + 1)) := by rw [← Nat.pow_add]; congr 1; omega
            rw [hpw] at e5 ⊢
            have hlt2 : n < 2 ^ (64 - 7 * (i + 1)) := Nat.lt_of_mul_lt_mul_right e5
            have hle := Nat.mul_le_mul_right (2 ^ (7 * (i + 1))) hlt2
            rw [Nat.succ_mul] at hle
            omega

theorem enc_len (n : Nat) : ∀ j, n < 2 ^ (7 * (j + 1)) → (enc n).length ≤ j + 1 := by
  induction n using Nat.strongRecOn with
  | _ n ih =>
    intro j hn
    by_cases h : n < 128
    · rw [enc_small h]; simp
    · rw [enc_big h, List.length_cons]
      cases j with
      | zero => simp at hn; omega
      | succ j =>
        have hp := pow7 (j + 1)
        have := ih (n / 128) (by omega) j (by omega)
        omega
theorem enc_len10 (n : Nat) (h : n < 2 ^ 64) : (enc n).length ≤ 10 := enc_len n 9 (Nat.lt_trans h (by decide))

theorem bits_or_comm (k : IntKind) (x y : Int) : Go.bits .or k x y = Go.bits .or k y x := by
  simp only [Go.bits, BitVec.or_comm]
theorem wraps_u64 (n : Int) (h0 : 0 ≤ n) (h1 : n < 2 ^ 64) : IntKind.u64.wrap n = n := by
  have : IntKind.u64.wrap n = n % 18446744073709551616 := by simp [IntKind.wrap, IntKind.bits, IntKind.signed]
  rw [this]; omega
theorem wrap_u64 (n : Int) : IntKind.u64.wrap n = n % 18446744073709551616 := by simp [IntKind.wrap, IntKind.bits, IntKind.signed]
theorem low7 (c : Int) (h0 : 0 ≤ c) (h1 : c < 256) : Go.bits .and .u8 c 127 = c % 128 := bits_mask .u8 8 (by decide) wraps_u8 7 (by decide) c h0 h1
theorem hi7 (n : Nat) : Go.bits .or .u8 ((n : Int) % 256) 128 = ((n % 128 + 128 : Nat) : Int) := by
  have key : ∀ a : Nat, a < 256 → Go.bits .or .u8 (a : Int) 128 = ((a % 128 + 128 : Nat) : Int) := by decide +kernel
  have := key (n % 256) (by omega)
  rw [show ((n : Int) % 256) = ((n % 256 : Nat) : Int) from by omega, this]
  omega
theorem or_shl (i acc : Nat) (c : Int) (h0 : 0 ≤ c) (h1 : c < 256) (hi : i ≤ 9) (ha : acc < 2 ^ (7 * i)) (hc : (c % 128).toNat * 2 ^ (7 * i) < 2 ^ 64) :
    Go.bits .or .u64 (acc : Int) (shl .u64 (IntKind.u64.wrap (Go.bits .and .u8 c 127)) (wrap64 (7 * (i : Int)))) = ((acc + (c % 128).toNat * 2 ^ (7 * i) : Nat) : Int) := by
  have hw : wrap64 (7 * (i : Int)) = ((7 * i : Nat) : Int) := by unfold wrap64; omega
  rw [low7 c h0 h1, hw, wraps_u64 _ (by omega) (by omega)]
  unfold shl
  have hb : IntKind.u64.bits = 64 := rfl
  rw [hb, Int.toNat_natCast, Nat.min_eq_left (by omega)]
  obtain ⟨d, hd⟩ : ∃ d : Nat, c % 128 = (d : Int) := ⟨(c % 128).toNat, by omega⟩
  rw [hd] at hc ⊢
  rw [Int.toNat_natCast] at hc ⊢
  have e : ((d : Int) * 2 ^ (7 * i)) = ((d * 2 ^ (7 * i) : Nat) : Int) := by simp
  rw [e, wraps_u64 _ (by omega) (by exact_mod_cast hc), bits_or_comm]
  have hpos : 0 < 2 ^ (7 * i) := Nat.pow_pos (by decide)
  have hp63 : 2 ^ (7 * i) ≤ 2 ^ 63 := Nat.pow_le_pow_right (by decide) (by omega)
  rw [bits_join .u64 64 (by decide) wraps_u64 (7 * i) _ _ (by omega) (by exact_mod_cast Nat.mul_mod_left d (2 ^ (7 * i))) (by exact_mod_cast hc) (by omega) (by exact_mod_cast ha) (by
    have : acc < 2 ^ 64 := Nat.lt_trans ha (Nat.lt_of_le_of_lt hp63 (by decide))
    exact_mod_cast this)]
  omega
/-- The same as the walk spells it. -/
theorem or_sh2 (i acc : Nat) (c : Int) (h0 : 0 ≤ c) (h1 : c < 256) (hi : i ≤ 9) (ha : acc < 2 ^ (7 * i)) (hc : (c % 128).toNat * 2 ^ (7 * i) < 2 ^ 64) :
    Go.bits .or .u64 (acc : Int) (IntKind.u64.wrap (IntKind.u64.wrap (Go.bits .and .u8 c 127) * 2 ^ (7 * i))) = ((acc + (c % 128).toNat * 2 ^ (7 * i) : Nat) : Int) := by
  have h := or_shl i acc c h0 h1 hi ha hc
  have hw : wrap64 (7 * (i : Int)) = ((7 * i : Nat) : Int) := by unfold wrap64; omega
  have hb : IntKind.u64.bits = 64 := rfl
  unfold shl at h
  rw [hw, hb, Int.toNat_natCast, Nat.min_eq_left (by omega)] at h
  exact h
theorem rd_nth (xs : List Int) (i : Nat) (h : i < xs.length) : rd xs (i : Int) = xs[i] := by
  unfold rd; rw [Int.toNat_natCast, List.getD_eq_getElem?_getD, List.getElem?_eq_getElem h]; rfl
theorem step64 {i : Nat} (h : i < 9223372036854775807) : wrap64 ((i : Int) + 1) = ((i + 1 : Nat) : Int) := by unfold wrap64; omega
/-- All bytes of a list of numbers. -/
def encs (l : List Int) : List Int := l.flatMap fun x => enc x.toNat
theorem encs_cons (x : Int) (l : List Int) : encs (x :: l) = enc x.toNat ++ encs l := by simp [encs]
theorem encs_len (l : List Int) (h : ∀ x ∈ l, 0 ≤ x ∧ x < 18446744073709551616) : (encs l).length ≤ 10 * l.length := by
  induction l with
  | nil => simp [encs]
  | cons x l ih =>
    rw [encs_cons, List.length_append, List.length_cons]
    have h1 := enc_len10 x.toNat (by have := h x (by simp); omega)
    have h2 := ih (fun y hy => h y (by simp [hy]))
    omega
theorem encs_bytes (l : List Int) : ∀ c ∈ encs l, 0 ≤ c ∧ c < 256 := by
  intro c hc
  simp only [encs, List.mem_flatMap] at hc
  obtain ⟨x, _, hx⟩ := hc
  exact enc_bytes _ c hx

theorem bytes_inj (xs ys : List Int) (hx : ∀ c ∈ xs, 0 ≤ c ∧ c < 256) (hy : ∀ c ∈ ys, 0 ≤ c ∧ c < 256) (h : xs.map (fun n => UInt8.ofNat n.toNat) = ys.map (fun n => UInt8.ofNat n.toNat)) : xs = ys := by
  induction xs generalizing ys with
  | nil =>
    cases ys with
    | nil => rfl
    | cons y ys => simp at h
  | cons x xs ih =>
    cases ys with
    | nil => simp at h
    | cons y ys =>
      rw [List.map_cons, List.map_cons, List.cons.injEq] at h
      have h1 := congrArg UInt8.toNat h.1
      have hx0 := hx x (by simp)
      have hy0 := hy y (by simp)
      rw [UInt8.toNat_ofNat', UInt8.toNat_ofNat'] at h1
      rw [ih ys (fun c hc => hx c (by simp [hc])) (fun c hc => hy c (by simp [hc])) h.2, show x = y by omega]
/-- Two strings of bytes are the same just where the bytes are. -/
theorem str_eq (xs ys : List Int) (hx : ∀ c ∈ xs, 0 ≤ c ∧ c < 256) (hy : ∀ c ∈ ys, 0 ≤ c ∧ c < 256) : (strOfNums xs).toList = (strOfNums ys).toList ↔ xs = ys := by
  rw [Lib.strOfNums_toList, Lib.strOfNums_toList]
  constructor
  · intro h
    exact bytes_inj xs ys hx hy h
  · intro h
    rw [h]

end Go.Proofs.Ytnidcnmeonjjbaa.Plain
