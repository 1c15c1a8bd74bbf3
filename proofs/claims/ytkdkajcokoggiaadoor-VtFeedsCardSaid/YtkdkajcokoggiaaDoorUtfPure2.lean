/- Plain facts on UTF-8, on: a part of a rune flushed; a byte below 128 behind one. No program's text. -/
import Derived.Test.YtkdkajcokoggiaaDoorUtfPure
namespace Go.Proofs.YtkdkajcokoggiaaDoor.UtfPure
open Go.Lib
/-- Bytes that go on. -/
def Cont (l : List Int) : Prop := ∀ x ∈ l, 128 ≤ x ∧ x ≤ 191
theorem Cont.bytes {l : List Int} (h : Cont l) : Bytes l := fun x hx => by have := h x hx; omega
theorem bya_cons (x : Int) (l : List Int) : bya (x :: l) 0 = x.toNat := rfl
theorem bya_succ (x : Int) (l : List Int) (i : Nat) : bya (x :: l) (i + 1) = bya l i := rfl
theorem bya_mem {l : List Int} (i : Nat) (h : i < l.length) : bya l i = (l[i]).toNat := by
  unfold bya
  rw [List.getD_eq_getElem?_getD, List.getElem?_eq_getElem h]
  rfl
theorem cont_dec (x : Int) (l : List Int) (hx : 128 ≤ x ∧ x ≤ 191) : dec1 (x :: l) = (65533, 1) ∧ full (x :: l) = true := by
  have h := on_is_bad (x :: l).length x.toNat (bya (x :: l) 1) (bya (x :: l) 2) (bya (x :: l) 3) (by omega)
  refine ⟨h.1, ?_⟩
  unfold full fullN
  rw [bya_cons, h.2]
  simp
theorem cont_runes (l : List Int) (h : Cont l) : runes l = List.replicate l.length 65533 := by
  induction l with
  | nil => rfl
  | cons x l ih =>
    have hd := (cont_dec x l (h x (by simp))).1
    rw [runes_step h.bytes (by simp), hd]
    show (65533 : Int) :: runes l = _
    rw [ih (fun y hy => h y (by simp [hy]))]
    rfl
/-- A part of a rune: its first byte, and at most two that go on. -/
theorem part_cons {p : List Int} (hb : Bytes p) (hn : p ≠ []) (hf : full p = false) : ∃ x l, p = x :: l ∧ Cont l ∧ l.length ≤ 2 ∧ 194 ≤ x ∧ dec1 p = (65533, 1) := by
  have hp := List.length_pos_iff.2 hn
  obtain ⟨h1, h2, h3, h4, h5⟩ := part_is p.length (bya p 0) (bya p 1) (bya p 2) (bya p 3) hp (bya_lt hb 0) (bya_lt hb 1) (bya_lt hb 2) (bya_lt hb 3) hf
  cases p with
  | nil => exact absurd rfl hn
  | cons x l =>
    refine ⟨x, l, rfl, ?_, by simp only [List.length_cons] at h1; omega, by rw [bya_cons] at h2; omega, h5⟩
    intro y hy
    obtain ⟨i, hi, rfl⟩ := List.mem_iff_getElem.1 hy
    simp only [List.length_cons] at h1 h3 h4
    have hby := hb l[i] (by simp)
    match i, hi with
    | 0, hi => have := h3 (by omega); rw [bya_succ, bya_mem 0 hi] at this; omega
    | 1, hi => have := h4 (by omega); rw [bya_succ, bya_mem 1 hi] at this; omega
    | i + 2, hi => omega
theorem part_runes {p : List Int} (hb : Bytes p) (hf : p = [] ∨ full p = false) : p.length ≤ 3 ∧ runes p = List.replicate p.length 65533 := by
  by_cases hn : p = []
  · subst hn; exact ⟨by simp, rfl⟩
  · obtain ⟨x, l, rfl, hc, hl, _, hd⟩ := part_cons hb hn (hf.resolve_left hn)
    refine ⟨by simp; omega, ?_⟩
    rw [runes_step hb hn, hd]
    show (65533 : Int) :: runes l = _
    rw [cont_runes l hc]
    rfl
theorem ascii_dec (c : Int) (l : List Int) (hc : 0 ≤ c ∧ c < 128) : dec1 (c :: l) = (c.toNat, 1) ∧ full (c :: l) = true := by
  have h240 : firstT c.toNat = 240 := by unfold firstT; rw [if_pos (by omega)]
  refine ⟨?_, ?_⟩
  · unfold dec1; rw [bya_cons]; exact ascii_eq _ _ _ _ _ h240
  · unfold full fullN; rw [bya_cons, h240]; simp
theorem cont_ascii (l : List Int) (h : Cont l) (c : Int) (hc : 0 ≤ c ∧ c < 128) : drain (l ++ [c]) = (List.replicate l.length 65533 ++ [c], []) := by
  have hcb : Bytes [c] := fun x hx => by simp at hx; omega
  induction l with
  | nil =>
    have hd := ascii_dec c [] hc
    rw [List.nil_append, drain_on hcb (by simp) hd.2, hd.1]
    show ([((c.toNat : Nat) : Int)], ([] : List Int)) = _
    rw [Int.toNat_of_nonneg hc.1]
    rfl
  | cons x l ih =>
    have hd := cont_dec x (l ++ [c]) (h x (by simp))
    have hb : Bytes (x :: (l ++ [c])) := (h.bytes).append hcb
    rw [List.cons_append, drain_on hb (by simp) hd.2, hd.1]
    show ((65533 : Int) :: (drain (l ++ [c])).1, (drain (l ++ [c])).2) = _
    rw [ih (fun y hy => h y (by simp [hy]))]
    rfl
/-- A byte below 128 ends what was under way. -/
theorem drain_ascii {p : List Int} (hb : Bytes p) (hf : p = [] ∨ full p = false) (c : Int) (hc : 0 ≤ c ∧ c < 128) : drain (p ++ [c]) = (List.replicate p.length 65533 ++ [c], []) := by
  have hcb : Bytes [c] := fun x hx => by simp at hx; omega
  by_cases hn : p = []
  · subst hn; exact cont_ascii [] (fun x hx => by simp at hx) c hc
  · have hpf := hf.resolve_left hn
    have hlen : 1 ≤ p.length := List.length_pos_iff.2 hn
    obtain ⟨x, l, hpx, hcl, hl, hx, _⟩ := part_cons hb hn hpf
    have hbc := hb.append hcb
    have hz : bya (p ++ [c]) 0 = bya p 0 := bya_append p [c] 0 hlen
    have h0 := bya_lt hb 0
    have hlast : bya (p ++ [c]) p.length = c.toNat := by
      rw [bya_mem p.length (by simp)]
      simp
    have key : full (p ++ [c]) = true ∧ dec1 (p ++ [c]) = (65533, 1) := by
      have hpn : p.length ≤ 3 := by rw [hpx]; simp; omega
      unfold full fullN at hpf
      simp only [Bool.or_eq_false_iff, Bool.and_eq_false_iff, decide_eq_false_iff_not] at hpf
      obtain ⟨⟨hf1, hf2⟩, hf3⟩ := hpf
      unfold full fullN dec1
      rw [hz, List.length_append, List.length_singleton]
      rcases dec_cases (p.length + 1) (bya p 0) (bya (p ++ [c]) 1) (bya (p ++ [c]) 2) (bya (p ++ [c]) 3) (by omega) h0 (bya_lt hbc 1) (bya_lt hbc 2) (bya_lt hbc 3) with ⟨hx, _, e⟩ | ⟨hx, _, e⟩ | ⟨_, _, hs2, hs4, hlo, hhi, e⟩
      · rw [hx] at hf1; omega
      · rw [hx] at hf1; omega
      · rw [e]
        generalize firstT (bya p 0) % 8 = sz at *
        generalize accLo (firstT (bya p 0) / 16) = lo at *
        generalize accHi (firstT (bya p 0) / 16) = hi at *
        have hcase : p.length = 1 ∨ p.length = 2 ∨ p.length = 3 := by omega
        unfold slowN
        rcases hcase with h | h | h
        · rw [h] at hlast ⊢
          rw [hlast]
          refine ⟨?_, ?_⟩
          · simp only [Bool.or_eq_true, Bool.and_eq_true, decide_eq_true_eq]
            exact .inl (.inr ⟨by omega, .inl (by omega)⟩)
          · by_cases h9 : 1 + 1 < sz
            · rw [if_pos h9]
            · rw [if_neg h9, if_pos (.inl (by omega))]
        · rw [h] at hlast ⊢ hf1
          rw [hlast]
          refine ⟨?_, ?_⟩
          · simp only [Bool.or_eq_true, Bool.and_eq_true, decide_eq_true_eq]
            exact .inr ⟨by omega, .inl (by omega)⟩
          · by_cases h9 : 2 + 1 < sz
            · rw [if_pos h9]
            · rw [if_neg h9]
              by_cases h8 : bya (p ++ [c]) 1 < lo ∨ hi < bya (p ++ [c]) 1
              · rw [if_pos h8]
              · rw [if_neg h8, if_neg (show ¬ sz ≤ 2 by omega), if_pos (.inl (by omega))]
        · rw [h] at hlast ⊢ hf1
          rw [hlast]
          refine ⟨?_, ?_⟩
          · simp only [Bool.or_eq_true, decide_eq_true_eq]
            exact .inl (.inl (by omega))
          · rw [if_neg (show ¬ 3 + 1 < sz by omega)]
            by_cases h8 : bya (p ++ [c]) 1 < lo ∨ hi < bya (p ++ [c]) 1
            · rw [if_pos h8]
            · rw [if_neg h8, if_neg (show ¬ sz ≤ 2 by omega)]
              by_cases h7 : bya (p ++ [c]) 2 < 128 ∨ 191 < bya (p ++ [c]) 2
              · rw [if_pos h7]
              · rw [if_neg h7, if_neg (show ¬ sz ≤ 3 by omega), if_pos (.inl (by omega))]
    rw [drain_on hbc (by simp) key.1, key.2, hpx]
    show ((65533 : Int) :: (drain (l ++ [c])).1, (drain (l ++ [c])).2) = _
    rw [cont_ascii l hcl c hc]
    rfl
/-- All that is told stays short. -/
theorem drainF_len : ∀ (k : Nat) (b : List Int), (drainF k b).1.length ≤ k := by
  intro k
  induction k with
  | zero => intro b; simp [drainF]
  | succ k ih =>
    intro b
    simp only [drainF]
    split
    · simp
    · simp only [List.length_cons]; have := ih (b.drop (dec1 b).2); omega
theorem drain_len (b : List Int) : (drain b).1.length ≤ b.length := drainF_len _ _
end Go.Proofs.YtkdkajcokoggiaaDoor.UtfPure
