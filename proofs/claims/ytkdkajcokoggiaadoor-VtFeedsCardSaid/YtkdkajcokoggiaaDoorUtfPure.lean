/- Plain facts on UTF-8: when bytes hold a whole rune, what they decode to, and what is left, byte by byte. No program's text. -/
import Derived.Lib.DecodeN
import Derived.Lib.DecodeNEq
namespace Go.Proofs.YtkdkajcokoggiaaDoor.UtfPure
open Go.Lib
/-- The byte at a place; 0 where there is none. -/
def bya (b : List Int) (i : Nat) : Nat := (b.getD i 0).toNat
def Bytes (b : List Int) : Prop := ∀ x ∈ b, 0 ≤ x ∧ x < 256
theorem bya_lt {b : List Int} (h : Bytes b) (i : Nat) : bya b i < 256 := by
  unfold bya
  by_cases hi : i < b.length
  · have := h b[i] (List.getElem_mem hi)
    rw [List.getD_eq_getElem?_getD, List.getElem?_eq_getElem hi]
    simp only [Option.getD_some]
    omega
  · rw [List.getD_eq_getElem?_getD, List.getElem?_eq_none (by omega)]
    simp
/-- What bytes begin with: a rune, and how many bytes it has. -/
def dec1 (b : List Int) : Nat × Nat := decodeN b.length (bya b 0) (bya b 1) (bya b 2) (bya b 3)
/-- Do bytes begin with a whole rune, or with none? -/
def fullN (n b0 b1 b2 : Nat) : Bool :=
  decide (firstT b0 % 8 ≤ n) || (decide (1 < n) && (decide (b1 < accLo (firstT b0 / 16)) || decide (accHi (firstT b0 / 16) < b1))) || (decide (2 < n) && (decide (b2 < 128) || decide (191 < b2)))
def full (b : List Int) : Bool := fullN b.length (bya b 0) (bya b 1) (bya b 2)
theorem dec_cases (n b0 b1 b2 b3 : Nat) (hn : 1 ≤ n) (h0 : b0 < 256) (h1 : b1 < 256) (h2 : b2 < 256) (h3 : b3 < 256) :
    (firstT b0 = 240 ∧ b0 < 128 ∧ decodeN n b0 b1 b2 b3 = (b0, 1)) ∨ (firstT b0 = 241 ∧ 128 ≤ b0 ∧ decodeN n b0 b1 b2 b3 = (65533, 1)) ∨
    (firstT b0 < 240 ∧ 194 ≤ b0 ∧ 2 ≤ firstT b0 % 8 ∧ firstT b0 % 8 ≤ 4 ∧ 128 ≤ accLo (firstT b0 / 16) ∧ accHi (firstT b0 / 16) ≤ 191 ∧ decodeN n b0 b1 b2 b3 = slowN n b0 b1 b2 b3 (firstT b0 % 8) (accLo (firstT b0 / 16)) (accHi (firstT b0 / 16))) := by
  by_cases hx : firstT b0 < 240
  · have e := slow_eq n b0 b1 b2 b3 hn h1 h2 h3 hx
    have hl := firstT_low hx
    refine .inr (.inr ⟨hx, by omega, ?_⟩)
    rcases hl with h | h | h | h | h | h | h
    · rw [firstT_C2 h] at e ⊢; exact ⟨by decide, by decide, by decide, by decide, e.symm⟩
    · rw [firstT_E0 h] at e ⊢; exact ⟨by decide, by decide, by decide, by decide, e.symm⟩
    · rw [firstT_E1 h] at e ⊢; exact ⟨by decide, by decide, by decide, by decide, e.symm⟩
    · rw [firstT_ED h] at e ⊢; exact ⟨by decide, by decide, by decide, by decide, e.symm⟩
    · rw [firstT_F0 h] at e ⊢; exact ⟨by decide, by decide, by decide, by decide, e.symm⟩
    · rw [firstT_F1 h] at e ⊢; exact ⟨by decide, by decide, by decide, by decide, e.symm⟩
    · rw [firstT_F4 h] at e ⊢; exact ⟨by decide, by decide, by decide, by decide, e.symm⟩
  · by_cases ha : b0 < 128
    · have h240 : firstT b0 = 240 := by unfold firstT; rw [if_pos ha]
      exact .inl ⟨h240, ha, ascii_eq n b0 b1 b2 b3 h240⟩
    · have h241 : firstT b0 = 241 := by
        unfold firstT at hx ⊢
        rw [if_neg ha] at hx ⊢
        repeat' split
        all_goals first | rfl | (exfalso; simp_all; done) | (exfalso; omega)
      exact .inr (.inl ⟨h241, by omega, bad_eq n b0 b1 b2 b3 h0 h241⟩)
theorem dec_width (n b0 b1 b2 b3 : Nat) (hn : 1 ≤ n) (h0 : b0 < 256) (h1 : b1 < 256) (h2 : b2 < 256) (h3 : b3 < 256) : 1 ≤ (decodeN n b0 b1 b2 b3).2 ∧ (decodeN n b0 b1 b2 b3).2 ≤ n := by
  rcases dec_cases n b0 b1 b2 b3 hn h0 h1 h2 h3 with ⟨_, _, e⟩ | ⟨_, _, e⟩ | ⟨_, _, hs2, hs4, _, _, e⟩
  · rw [e]; exact ⟨Nat.le_refl _, hn⟩
  · rw [e]; exact ⟨Nat.le_refl _, hn⟩
  · rw [e]
    unfold slowN
    repeat' split
    all_goals first | exact ⟨Nat.le_refl _, hn⟩ | (simp only; omega)
/-- What is whole stays what it is, whatever comes behind. -/
theorem full_stays (n m b0 b1 b2 b3 c1 c2 c3 : Nat) (hn : 1 ≤ n) (hm : n ≤ m) (h0 : b0 < 256) (h1 : b1 < 256) (h2 : b2 < 256) (h3 : b3 < 256) (g1 : c1 < 256) (g2 : c2 < 256) (g3 : c3 < 256)
    (e1 : 1 < n → c1 = b1) (e2 : 2 < n → c2 = b2) (e3 : 3 < n → c3 = b3) (hf : fullN n b0 b1 b2 = true) : decodeN m b0 c1 c2 c3 = decodeN n b0 b1 b2 b3 := by
  rcases dec_cases n b0 b1 b2 b3 hn h0 h1 h2 h3 with ⟨hx, _, e⟩ | ⟨hx, _, e⟩ | ⟨hx, hb0, hs2, hs4, hlo, hhi, e⟩
  · rw [e]; exact ascii_eq m b0 c1 c2 c3 hx
  · rw [e]; exact bad_eq m b0 c1 c2 c3 h0 hx
  · rw [e, ← slow_eq m b0 c1 c2 c3 (by omega) g1 g2 g3 hx]
    unfold fullN at hf
    simp only [Bool.or_eq_true, Bool.and_eq_true, decide_eq_true_eq] at hf
    generalize firstT b0 % 8 = sz at *
    generalize accLo (firstT b0 / 16) = lo at *
    generalize accHi (firstT b0 / 16) = hi at *
    unfold slowN
    by_cases hns : sz ≤ n
    · rw [if_neg (show ¬ m < sz by omega), if_neg (show ¬ n < sz by omega)]
      rw [e1 (by omega)]
      by_cases hc1 : b1 < lo ∨ hi < b1
      · rw [if_pos hc1, if_pos hc1]
      · rw [if_neg hc1, if_neg hc1]
        by_cases hs : sz ≤ 2
        · rw [if_pos hs, if_pos hs]
        · rw [if_neg hs, if_neg hs, e2 (by omega)]
          by_cases hc2 : b2 < 128 ∨ 191 < b2
          · rw [if_pos hc2, if_pos hc2]
          · rw [if_neg hc2, if_neg hc2]
            by_cases hs3 : sz ≤ 3
            · rw [if_pos hs3, if_pos hs3]
            · rw [if_neg hs3, if_neg hs3, e3 (by omega)]
    · rw [if_pos (show n < sz by omega)]
      rcases hf with (hf | ⟨hn1, hf⟩) | ⟨hn2, hf⟩
      · omega
      · rw [e1 hn1]
        by_cases hms : m < sz
        · rw [if_pos hms]
        · rw [if_neg hms, if_pos hf]
      · rw [e1 (by omega), e2 hn2]
        by_cases hms : m < sz
        · rw [if_pos hms]
        · rw [if_neg hms]
          by_cases hc1 : b1 < lo ∨ hi < b1
          · rw [if_pos hc1]
          · rw [if_neg hc1, if_neg (show ¬ sz ≤ 2 by omega), if_pos hf]
/-- What is not whole: at most three bytes, and all behind the first are of those that go on. -/
theorem part_is (n b0 b1 b2 b3 : Nat) (hn : 1 ≤ n) (h0 : b0 < 256) (h1 : b1 < 256) (h2 : b2 < 256) (h3 : b3 < 256) (hf : fullN n b0 b1 b2 = false) :
    n ≤ 3 ∧ 194 ≤ b0 ∧ (1 < n → 128 ≤ b1 ∧ b1 ≤ 191) ∧ (2 < n → 128 ≤ b2 ∧ b2 ≤ 191) ∧ decodeN n b0 b1 b2 b3 = (65533, 1) := by
  unfold fullN at hf
  simp only [Bool.or_eq_false_iff, Bool.and_eq_false_iff, decide_eq_false_iff_not] at hf
  obtain ⟨⟨hf1, hf2⟩, hf3⟩ := hf
  rcases dec_cases n b0 b1 b2 b3 hn h0 h1 h2 h3 with ⟨hx, _, e⟩ | ⟨hx, _, e⟩ | ⟨hx, hb0, hs2, hs4, hlo, hhi, e⟩
  · rw [hx] at hf1; omega
  · rw [hx] at hf1; omega
  · refine ⟨by omega, hb0, fun h => by omega, fun h => by omega, ?_⟩
    rw [e]
    unfold slowN
    rw [if_pos (by omega)]
theorem on_is_bad (n b0 b1 b2 b3 : Nat) (h : 128 ≤ b0 ∧ b0 ≤ 193) : decodeN n b0 b1 b2 b3 = (65533, 1) ∧ firstT b0 = 241 := by
  have hx : firstT b0 = 241 := by
    unfold firstT
    rw [if_neg (by omega), if_pos (by omega)]
  exact ⟨bad_eq n b0 b1 b2 b3 (by omega) hx, hx⟩
theorem dec1_width {b : List Int} (hb : Bytes b) (hn : b ≠ []) : 1 ≤ (dec1 b).2 ∧ (dec1 b).2 ≤ b.length :=
  dec_width _ _ _ _ _ (List.length_pos_iff.2 hn) (bya_lt hb 0) (bya_lt hb 1) (bya_lt hb 2) (bya_lt hb 3)
theorem bya_append (b r : List Int) (i : Nat) (h : i < b.length) : bya (b ++ r) i = bya b i := by
  unfold bya
  rw [List.getD_eq_getElem?_getD, List.getD_eq_getElem?_getD, List.getElem?_append_left h]
theorem Bytes.append {b r : List Int} (hb : Bytes b) (hr : Bytes r) : Bytes (b ++ r) := fun x hx => (List.mem_append.1 hx).elim (hb x) (hr x)
theorem Bytes.left {b r : List Int} (h : Bytes (b ++ r)) : Bytes b := fun x hx => h x (by simp [hx])
theorem Bytes.right {b r : List Int} (h : Bytes (b ++ r)) : Bytes r := fun x hx => h x (by simp [hx])
theorem Bytes.drop {b : List Int} (h : Bytes b) (n : Nat) : Bytes (b.drop n) := fun x hx => h x (List.mem_of_mem_drop hx)
theorem dec1_append {b r : List Int} (hb : Bytes b) (hr : Bytes r) (hn : b ≠ []) (hf : full b = true) : dec1 (b ++ r) = dec1 b := by
  have hp := List.length_pos_iff.2 hn
  have hbr := hb.append hr
  unfold dec1
  rw [bya_append b r 0 hp]
  exact full_stays _ _ _ _ _ _ _ _ _ hp (by rw [List.length_append]; omega) (bya_lt hb 0) (bya_lt hb 1) (bya_lt hb 2) (bya_lt hb 3) (bya_lt hbr 1) (bya_lt hbr 2) (bya_lt hbr 3) (fun h => bya_append b r 1 h) (fun h => bya_append b r 2 h) (fun h => bya_append b r 3 h) hf
/-- All runes of bytes. -/
def runesF : Nat → List Int → List Int
  | 0, _ => []
  | _ + 1, [] => []
  | k + 1, x :: l => ((dec1 (x :: l)).1 : Int) :: runesF k ((x :: l).drop (dec1 (x :: l)).2)
def runes (b : List Int) : List Int := runesF b.length b
theorem runesF_step (k : Nat) (b : List Int) (h : b ≠ []) : runesF (k + 1) b = ((dec1 b).1 : Int) :: runesF k (b.drop (dec1 b).2) := by
  cases b with
  | nil => exact absurd rfl h
  | cons x l => rfl
theorem runesF_enough : ∀ (k : Nat) (b : List Int), Bytes b → b.length ≤ k → runesF k b = runes b := by
  have key : ∀ (n k j : Nat) (b : List Int), b.length ≤ n → Bytes b → b.length ≤ k → b.length ≤ j → runesF k b = runesF j b := by
    intro n
    induction n with
    | zero =>
      intro k j b h _ _ _
      have hbn := List.eq_nil_of_length_eq_zero (show b.length = 0 by omega)
      subst hbn
      cases k <;> cases j <;> rfl
    | succ n ih =>
      intro k j b h hb hk hj
      by_cases hn : b = []
      · subst hn; cases k <;> cases j <;> rfl
      · have hp := List.length_pos_iff.2 hn
        obtain ⟨k, rfl⟩ : ∃ m, k = m + 1 := ⟨k - 1, by omega⟩
        obtain ⟨j, rfl⟩ : ∃ m, j = m + 1 := ⟨j - 1, by omega⟩
        have hw := dec1_width hb hn
        rw [runesF_step k b hn, runesF_step j b hn, ih k j (b.drop (dec1 b).2) (by rw [List.length_drop]; omega) (hb.drop _) (by rw [List.length_drop]; omega) (by rw [List.length_drop]; omega)]
  intro k b hb hk
  exact key b.length k b.length b (Nat.le_refl _) hb hk (Nat.le_refl _)
theorem runes_nil : runes [] = [] := rfl
theorem runes_step {b : List Int} (hb : Bytes b) (hn : b ≠ []) : runes b = ((dec1 b).1 : Int) :: runes (b.drop (dec1 b).2) := by
  have hp := List.length_pos_iff.2 hn
  have hw := dec1_width hb hn
  rw [← runesF_enough (b.length - 1 + 1) b hb (by omega), runesF_step _ b hn, runesF_enough (b.length - 1) _ (hb.drop _) (by rw [List.length_drop]; omega)]
/-- Runes that are whole are told; what is left is a part of one. -/
def drainF : Nat → List Int → List Int × List Int
  | 0, b => ([], b)
  | k + 1, b => if b = [] ∨ full b = false then ([], b) else (((dec1 b).1 : Int) :: (drainF k (b.drop (dec1 b).2)).1, (drainF k (b.drop (dec1 b).2)).2)
def drain (b : List Int) : List Int × List Int := drainF b.length b
theorem drainF_is : ∀ (k : Nat) (b : List Int), Bytes b → b.length ≤ k → ((drainF k b).2 = [] ∨ full (drainF k b).2 = false) ∧ (∃ j, (drainF k b).2 = b.drop j ∧ j ≤ b.length) ∧ ∀ r, Bytes r → runes (b ++ r) = (drainF k b).1 ++ runes ((drainF k b).2 ++ r) := by
  intro k
  induction k with
  | zero =>
    intro b hb h
    have hbn := List.eq_nil_of_length_eq_zero (show b.length = 0 by omega)
    subst hbn
    exact ⟨.inl rfl, ⟨0, rfl, Nat.le_refl _⟩, fun r _ => rfl⟩
  | succ k ih =>
    intro b hb h
    by_cases hc : b = [] ∨ full b = false
    · have e : drainF (k + 1) b = ([], b) := by simp only [drainF]; rw [if_pos hc]
      rw [e]
      exact ⟨hc, ⟨0, rfl, Nat.zero_le _⟩, fun r _ => rfl⟩
    · have e : drainF (k + 1) b = (((dec1 b).1 : Int) :: (drainF k (b.drop (dec1 b).2)).1, (drainF k (b.drop (dec1 b).2)).2) := by simp only [drainF]; rw [if_neg hc]
      have hn : b ≠ [] := fun h => hc (.inl h)
      have hf : full b = true := by
        cases h : full b with
        | true => rfl
        | false => exact absurd (.inr h) hc
      have hw := dec1_width hb hn
      obtain ⟨h1, ⟨j, h2, h3⟩, h4⟩ := ih (b.drop (dec1 b).2) (hb.drop _) (by rw [List.length_drop]; omega)
      rw [e]
      refine ⟨h1, ⟨(dec1 b).2 + j, by rw [h2, List.drop_drop], by rw [List.length_drop] at h3; omega⟩, fun r hr => ?_⟩
      have hd := dec1_append hb hr hn hf
      rw [runes_step (hb.append hr) (by simp [hn]), hd, List.drop_append_of_le_length hw.2, h4 r hr]
      rfl
theorem drain_is {b : List Int} (hb : Bytes b) : ((drain b).2 = [] ∨ full (drain b).2 = false) ∧ (∃ j, (drain b).2 = b.drop j ∧ j ≤ b.length) ∧ ∀ r, Bytes r → runes (b ++ r) = (drain b).1 ++ runes ((drain b).2 ++ r) :=
  drainF_is b.length b hb (Nat.le_refl _)
/-- One turn of the loop that tells what is whole. -/
theorem drainF_enough : ∀ (n k j : Nat) (b : List Int), b.length ≤ n → Bytes b → b.length ≤ k → b.length ≤ j → drainF k b = drainF j b := by
  intro n
  induction n with
  | zero =>
    intro k j b h hb _ _
    have hbn := List.eq_nil_of_length_eq_zero (show b.length = 0 by omega)
    subst hbn
    cases k <;> cases j <;> simp [drainF]
  | succ n ih =>
    intro k j b h hb hk hj
    by_cases hn : b = []
    · subst hn; cases k <;> cases j <;> simp [drainF]
    · have hp := List.length_pos_iff.2 hn
      obtain ⟨k, rfl⟩ : ∃ m, k = m + 1 := ⟨k - 1, by omega⟩
      obtain ⟨j, rfl⟩ : ∃ m, j = m + 1 := ⟨j - 1, by omega⟩
      have hw := dec1_width hb hn
      simp only [drainF]
      rw [ih k j (b.drop (dec1 b).2) (by rw [List.length_drop]; omega) (hb.drop _) (by rw [List.length_drop]; omega) (by rw [List.length_drop]; omega)]
theorem drain_stop {b : List Int} (h : b = [] ∨ full b = false) : drain b = ([], b) := by
  unfold drain
  cases hb : b.length with
  | zero => rw [List.eq_nil_of_length_eq_zero hb]; rfl
  | succ k => simp only [drainF]; rw [if_pos h]
theorem drain_on {b : List Int} (hb : Bytes b) (hn : b ≠ []) (hf : full b = true) : drain b = (((dec1 b).1 : Int) :: (drain (b.drop (dec1 b).2)).1, (drain (b.drop (dec1 b).2)).2) := by
  have hp := List.length_pos_iff.2 hn
  have hw := dec1_width hb hn
  unfold drain
  obtain ⟨k, hk⟩ : ∃ m, b.length = m + 1 := ⟨b.length - 1, by omega⟩
  rw [hk]
  simp only [drainF]
  rw [if_neg (by simp [hn, hf]), drainF_enough k k _ (b.drop (dec1 b).2) (by rw [List.length_drop]; omega) (hb.drop _) (by rw [List.length_drop]; omega) (Nat.le_refl _)]
end Go.Proofs.YtkdkajcokoggiaaDoor.UtfPure
