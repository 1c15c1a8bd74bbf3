/- What the functions of package vary do, as contracts: Put writes the bytes of numbers ('encs') behind a row of one's own, Take tells what 'dec' reads; no condition but the sizes that each contract states. -/
import Derived.Test.YtmkcblcgjjjkiaaPVaryNumsx1
import Derived.Test.YtmkcblcgjjjkiaaPlain
namespace Go.Proofs.Ytmkcblcgjjjkiaa.Base
open Go.RowKit Go.Proofs.Ytmkcblcgjjjkiaa.PVaryNums Go.Proofs.Ytmkcblcgjjjkiaa.Plain Go.Proofs.YtmkcblcgjjjkiaaW.PrintWords Go.Proofs.YtmkcblcgjjjkiaaW.PrintLast Go.Proofs.YtmkcblcgjjjkiaaW.PrintMore

theorem wf_u64 {x : Int} (h : (Lit.int .u64 x).wf = true) : 0 ≤ x ∧ x < 18446744073709551616 := by
  have h2 : 0 ≤ x ∧ x ≤ 18446744073709551615 := by simpa [Lit.wf, IntKind.min, IntKind.max, IntKind.bits, IntKind.signed] using h
  omega
theorem put1 (n : Nat) : ∀ (x0 x7 : List Int) (x8 x9 : Int) (r : List Int), x0.length + (enc n).length ≤ 140737488355328 →
    Ev (fun k => vary_Put.l0 k (x0 ++ enc n) x7 x8 (wrap64 (x9 + 1))) r → Ev (fun k => vary_Put.l1 k x0 (n : Int) x7 x8 x9) r := by
  induction n using Nat.strongRecOn with
  | _ n ih =>
    intro x0 x7 x8 x9 r hl h
    by_cases hn : n < 128
    · rw [enc_small hn] at h hl
      refine Ev.step (fun k => ?_) h
      simp only [List.length_singleton] at hl
      simp only [vary_Put.l1]
      rw [if_neg (by omega), if_pos (by omega), show ((n : Int) % 256) = (n : Int) from by omega]
    · rw [enc_big hn] at h hl
      have h2 := ih (n / 128) (by omega) (x0 ++ [((n % 128 + 128 : Nat) : Int)]) x7 x8 x9 r (by simp at hl ⊢; omega) (by simpa using h)
      refine Ev.step (fun k => ?_) h2
      simp only [List.length_cons] at hl
      simp only [vary_Put.l1]
      rw [if_pos (by omega), if_pos (by omega), hi7, show ((n : Int) / 128) = ((n / 128 : Nat) : Int) from by omega]
theorem put0 (l : List Int) (hl : ∀ x ∈ l, 0 ≤ x ∧ x < 18446744073709551616) (hs : l.length < 1000000000000) : ∀ (d i : Nat) (x0 : List Int), l.length - i = d → i ≤ l.length → x0.length + 10 * d ≤ 100000000000000 →
    Ev (fun k => vary_Put.l0 k x0 l (l.length : Int) (i : Int)) (x0 ++ encs (l.drop i)) := by
  intro d
  induction d with
  | zero =>
    intro i x0 hd hi hb
    have : i = l.length := by omega
    subst this
    refine Ev.step (f := fun _ => some _) (fun k => ?_) (Ev.now _)
    simp only [vary_Put.l0]
    rw [if_neg (by omega), List.drop_length]
    simp [Plain.encs]
  | succ d ih =>
    intro i x0 hd hi hb
    have hlt : i < l.length := by omega
    have hx := hl l[i] (List.getElem_mem hlt)
    obtain ⟨n, hn⟩ : ∃ n : Nat, l[i] = (n : Int) := ⟨l[i].toNat, by omega⟩
    have hlen := enc_len10 n (by omega)
    have h2 := ih (i + 1) (x0 ++ enc n) (by omega) (by omega) (by simp; omega)
    have hd2 : l.drop i = l[i] :: l.drop (i + 1) := List.drop_eq_getElem_cons hlt
    rw [hd2, encs_cons, hn, Int.toNat_natCast, ← List.append_assoc]
    rw [← step64 (by omega)] at h2
    have h3 := put1 n x0 l (l.length : Int) (i : Int) _ (by omega) h2
    refine Ev.step (fun k => ?_) h3
    simp only [vary_Put.l0]
    rw [if_pos (by omega), if_pos (by omega), if_pos (by omega), rd_nth l i hlt, hn]
theorem put_ev (x0 l : List Int) (hl : ∀ x ∈ l, 0 ≤ x ∧ x < 18446744073709551616) (hs : l.length < 1000000000000) (h0 : x0.length ≤ 1000000000000) :
    Ev (fun k => vary_Put.f k x0 l) (x0 ++ encs l) := by
  unfold vary_Put.f
  have h := put0 l hl hs l.length 0 x0 (by omega) (by omega) (by omega)
  rw [List.drop_zero] at h
  exact h
/-- What 'dec' tells, as whole numbers. -/
def decI (b : List Int) (i acc : Nat) : Int × Int := ((dec b i acc).1, (dec b i acc).2)
theorem take_j (c : Int) (rest b : List Int) (L : Int) (i acc : Nat) (x23 : Bool) (hc : 0 ≤ c ∧ c < 256) (hL : i < 1000000000000) (ha : i ≤ 9 → acc < 2 ^ (7 * i)) (hx : x23 = true ↔ (i = 9 ∧ 1 < c) ∨ 9 < i)
    (hrec : i ≤ 8 → ∀ acc' : Nat, acc' < 2 ^ (7 * (i + 1)) → Ev (fun k => vary_Take.l0 k (acc' : Int) b L (wrap64 ((i : Int) + 1))) (decI rest (i + 1) acc')) :
    Ev (fun k => vary_Take.j1 k (acc : Int) (i : Int) c b L (i : Int) x23) (decI (c :: rest) i acc) := by
  by_cases h1 : (i = 9 ∧ 1 < c) ∨ 9 < i
  · refine Ev.step (f := fun _ => some _) (fun k => ?_) (Ev.now _)
    simp only [vary_Take.j1]
    rw [if_pos (hx.2 h1)]
    simp only [decI, dec]
    rw [if_pos h1]
    rfl
  · have hi9 : i ≤ 9 := by omega
    have h70 : wrap64 (7 * (i : Int)) = ((7 * i : Nat) : Int) := by unfold wrap64; omega
    have h7 : 0 ≤ wrap64 (7 * (i : Int)) := by rw [h70]; exact Int.natCast_nonneg _
    have hpw := pow7 i
    have hacc0 := ha hi9
    by_cases h2 : c < 128
    · have hmul : (c % 128).toNat * 2 ^ (7 * i) < 2 ^ 64 := by
        by_cases h9 : i = 9
        · have : (c % 128).toNat ≤ 1 := by omega
          rw [h9]
          exact Nat.lt_of_le_of_lt (Nat.mul_le_mul_right (2 ^ (7 * 9)) this) (by decide)
        · have : (c % 128).toNat ≤ 127 := by omega
          exact Nat.lt_of_le_of_lt (Nat.mul_le_mul this (Nat.pow_le_pow_right (n := 2) (by decide) (show 7 * i ≤ 56 by omega))) (by decide)
      have ho := or_shl i acc c hc.1 hc.2 hi9 hacc0 hmul
      refine Ev.step (f := fun _ => some _) (fun k => ?_) (Ev.now _)
      simp only [vary_Take.j1]
      rw [if_neg (fun h => h1 (hx.1 h)), if_pos h7, if_pos h2, ho]
      simp only [decI, dec]
      rw [if_neg h1, if_pos h2]
      have hs64 : wrap64 ((i : Int) + 1) = (i : Int) + 1 := by unfold wrap64; omega
      have hm : c % 128 = c := by omega
      by_cases h3 : c = 0
      · rw [if_pos h3]
        by_cases h4 : 0 < i
        · rw [if_pos (by omega), if_pos ⟨h3, h4⟩]; rfl
        · rw [if_neg (by omega), if_neg (fun h => h4 h.2), hs64, hm]; rfl
      · rw [if_neg h3, if_neg (fun h => h3 h.1), hs64, hm]; rfl
    · have hi8 : i ≤ 8 := by omega
      have h127 : (c % 128).toNat * 2 ^ (7 * i) ≤ 127 * 2 ^ (7 * i) := Nat.mul_le_mul_right _ (by omega)
      have hacc : acc + (c % 128).toNat * 2 ^ (7 * i) < 2 ^ (7 * (i + 1)) := by omega
      have h63 : 2 ^ (7 * (i + 1)) ≤ 2 ^ 63 := Nat.pow_le_pow_right (by decide) (by omega)
      have h64 : (2 : Nat) ^ 63 < 2 ^ 64 := by decide
      have ho := or_shl i acc c hc.1 hc.2 hi9 hacc0 (by omega)
      have hm : (c % 128).toNat = c.toNat - 128 := by omega
      have h5 := hrec hi8 _ hacc
      have e : decI (c :: rest) i acc = decI rest (i + 1) (acc + (c % 128).toNat * 2 ^ (7 * i)) := by
        simp only [decI, dec]
        rw [if_neg h1, if_neg h2, hm]
      rw [e]
      refine Ev.step (fun k => ?_) h5
      simp only [vary_Take.j1]
      rw [if_neg (fun h => h1 (hx.1 h)), if_pos h7, if_neg h2, ho]
theorem take0 (b : List Int) (hb : ∀ c ∈ b, 0 ≤ c ∧ c < 256) (hs : b.length < 1000000000000) : ∀ (d i acc : Nat), b.length - i = d → i ≤ b.length → (i ≤ 9 → acc < 2 ^ (7 * i)) →
    Ev (fun k => vary_Take.l0 k (acc : Int) b (b.length : Int) (i : Int)) (decI (b.drop i) i acc) := by
  intro d
  induction d with
  | zero =>
    intro i acc hd hi ha
    have : i = b.length := by omega
    subst this
    refine Ev.step (f := fun _ => some _) (fun k => ?_) (Ev.now _)
    simp only [vary_Take.l0]
    rw [if_neg (by omega), List.drop_length]
    rfl
  | succ d ih =>
    intro i acc hd hi ha
    have hlt : i < b.length := by omega
    have hc := hb b[i] (List.getElem_mem hlt)
    have hd2 : b.drop i = b[i] :: b.drop (i + 1) := List.drop_eq_getElem_cons hlt
    rw [hd2]
    have hr := rd_nth b i hlt
    generalize b[i] = c at hc hr ⊢
    have hj := fun x23 hx => take_j c (b.drop (i + 1)) b (b.length : Int) i acc x23 hc (by omega) ha hx (fun h8 acc' ha' => by
      rw [step64 (by omega)]
      exact ih (i + 1) acc' (by omega) (by omega) (fun _ => ha'))
    by_cases h9 : i = 9
    · by_cases h1 : 1 < c
      · refine Ev.step (fun k => ?_) (hj true (by simp [h9, h1]))
        simp only [vary_Take.l0]
        rw [if_pos (by omega), if_pos (by omega), if_pos (by omega), if_pos (by omega), hr, if_pos h1]
      · refine Ev.step (fun k => ?_) (hj (decide ((i : Int) > 9)) (by simp; omega))
        simp only [vary_Take.l0]
        rw [if_pos (by omega), if_pos (by omega), if_pos (by omega), if_pos (by omega), hr, if_neg h1]
    · refine Ev.step (fun k => ?_) (hj (decide ((i : Int) > 9)) (by simp; omega))
      simp only [vary_Take.l0]
      rw [if_pos (by omega), if_pos (by omega), if_pos (by omega), if_neg (by omega), hr]
theorem take_ev (b : List Int) (hb : ∀ c ∈ b, 0 ≤ c ∧ c < 256) (hs : b.length < 1000000000000) : Ev (fun k => vary_Take.f k b) (decI b 0 0) := by
  unfold vary_Take.f
  have h := take0 b hb hs b.length 0 0 (by omega) (by omega) (fun _ => by simp)
  rw [List.drop_zero] at h
  exact h
theorem decI_enc (n : Nat) (hn : n < 18446744073709551616) (r : List Int) : decI (enc n ++ r) 0 0 = ((n : Int), ((enc n).length : Int)) := by
  unfold decI
  rw [dec_enc n 0 0 r (by omega) (by simpa using hn) (.inr rfl)]
  simp
theorem decI_nil : decI [] 0 0 = (0, 0) := rfl
theorem fit_ev : Ev (fun k => flipbooklaw01_fit.f k) true := by
  refine Ev.of (fun k => flipbooklaw01_fit.mono k) (k := 20) ?_
  decide +kernel

theorem put_c (P0 : Nat → Prop) (v : Value) (x0 : List Int) (A : Option Addr) (c : Nat) (l : List Int) (w0 w : World) (hB : Below w0.heap.size w0 w) (ho : Kd.R (Kd.int .u8) 5 w w0.heap.size P0 v x0)
    (hr : ∀ W, Kept w W P0 → Kd.C (Kd.int .u64) W A l.length l) (hc : l.length ≤ c) (hl : ∀ x ∈ l, 0 ≤ x ∧ x < 18446744073709551616) (hs : l.length < 1000000000000) (h0 : x0.length ≤ 1000000000000) :
    Calls Try.prog 10 #[v, .slice A l.length c] w fun e w' => ∃ v0 : Value, e = .returned v0 ∧ Kd.R (Kd.int .u8) 5 w' w0.heap.size (fun k => P0 k ∨ w.heap.size ≤ k) v0 (x0 ++ encs l) ∧ Below w0.heap.size w0 w' ∧ Kept w w' P0 := by
  obtain ⟨k, hk⟩ := (put_ev x0 l hl hs h0).rounds
  exact vary_Put.calls k P0 v x0 A c l _ w0 w hB ho hr hc hk
/-- Put on nil: a new row. -/
theorem put_nil_c (A : Option Addr) (c : Nat) (l : List Int) (w : World) (hr : Kd.C (Kd.int .u64) w A l.length l) (hc : l.length ≤ c) (hl : ∀ x ∈ l, 0 ≤ x ∧ x < 18446744073709551616) (hs : l.length < 1000000000000) :
    Calls Try.prog 10 #[.slice none 0 0, .slice A l.length c] w fun e w' => ∃ (A' : Option Addr) (c' : Nat), e = .returned (.slice A' (encs l).length c') ∧ (encs l).length ≤ c' ∧ Kd.C (Kd.int .u8) w' A' (encs l).length (encs l) ∧ Kd.R (Kd.int .u8) 5 w' w.heap.size (fun k => w.heap.size ≤ k) (.slice A' (encs l).length c') (encs l) ∧ Below w.heap.size w w' := by
  refine (put_c (fun _ => False) (.slice none 0 0) [] A c l w w (Below.refl _ _) (Kd.R_nil _ _ _ _ _) (fun W hW => Kd.C_kept_came (Kd.heap_int _) hr (Below.refl _ _) (fun _ h => h.elim) W hW) hc hl hs (by simp)).mono ?_
  rintro e w' ⟨v0, rfl, ho, hb, _⟩
  rw [List.nil_append] at ho
  obtain ⟨A', c', rfl⟩ := Kd.R_slice ho
  obtain ⟨_, h1, h2⟩ := Kd.R_reads' ho
  exact ⟨A', c', rfl, h1, h2, Kd.R_mono ho (fun k hk => hk.elim (fun h => h.elim) id), hb⟩
theorem encs_one (n : Nat) : encs [(n : Int)] = enc n := by simp [Plain.encs]
theorem take_c (A : Option Addr) (c : Nat) (b : List Int) (w : World) (hr : Kd.C (Kd.int .u8) w A b.length b) (hc : b.length ≤ c) (hb : ∀ x ∈ b, 0 ≤ x ∧ x < 256) (hs : b.length < 1000000000000) :
    Calls Try.prog 11 #[.slice A b.length c] w fun e w' => e = .returned (.tuple #[.int .u64 (decI b 0 0).1, .int .i64 (decI b 0 0).2]) ∧ Drawn0 w w' := by
  obtain ⟨k, hk⟩ := (take_ev b hb hs).rounds
  exact vary_Take.calls k A c b _ _ w hr hc hk
theorem fit_c (w : World) : Calls Try.prog 9 #[] w fun e w' => e = .returned (.bool true) ∧ Below w.heap.size w w' := by
  obtain ⟨k, hk⟩ := fit_ev.rounds
  exact flipbooklaw01_fit.calls k true w hk

end Go.Proofs.Ytmkcblcgjjjkiaa.Base
