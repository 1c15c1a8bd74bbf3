/- What events' bytes tell, read back: plain laws of Put's bytes and of what Take reads. -/
import Derived.Test.YtbofeaclgnekkaaEvTake
import Derived.Test.YtbofeaclgnekkaaEvPut
import Derived.Shelf.Spec.RuneCount
namespace Go.Proofs.Ytbofeaclgnekkaa.EvPure
open Go.Proofs.Ytbofeaclgnekkaa.Reader (numR lim1 textR numR_pos numR_bad)
open Go.RowKit Go.Proofs.Ytbofeaclgnekkaa.Kit Go.Proofs.Ytbofeaclgnekkaa.Plain Go.Proofs.Ytbofeaclgnekkaa.Mine Go.Proofs.Ytbofeaclgnekkaa.Vary Go.Proofs.Ytbofeaclgnekkaa.Reader3 Go.Proofs.Ytbofeaclgnekkaa.Event Go.Proofs.Ytbofeaclgnekkaa.EvPut Go.Proofs.Ytbofeaclgnekkaa.EvTake Go.Proofs.YtbofeaclgnekkaaW.PrintWords Go.Proofs.YtbofeaclgnekkaaW.PrintLast Go.Proofs.YtbofeaclgnekkaaW.PrintMore
open Go.Proofs.Ytbofeaclgnekkaa.PEventRights (S25 z25 k25)
set_option linter.unusedVariables false
set_option linter.unusedSimpArgs false
theorem str_bytes (s : ByteArray) : strOfNums (bytesOf s) = s := strOfNums_bytes s
theorem dec_enc0 (n : Nat) (hn : n < 18446744073709551616) (r : List Int) : dec (enc n ++ r) 0 0 = (n, (enc n).length) := by
  rw [dec_enc n 0 0 r (by omega) (by simpa using hn) (.inr rfl)]
  simp
theorem numR_good (n : Nat) (hn : n ≤ 9223372036854775807) (r : List Int) (limit : Int) (hl : ¬ (0 < limit ∧ limit ≤ (n : Int))) : numR (enc n ++ r) false limit = ((n : Int), r, false) := by
  have h1 := dec_enc0 n (by omega) r
  have h2 := enc_pos n
  unfold numR
  rw [h1, if_neg (by simp only [Bool.false_eq_true, false_or]; omega)]
  simp
theorem numR_over (n : Nat) (hn : n < 18446744073709551616) (r : List Int) (limit : Int) (h : 9223372036854775807 < n ∨ (0 < limit ∧ limit ≤ (n : Int))) : numR (enc n ++ r) false limit = (0, enc n ++ r, true) := by
  have h1 := dec_enc0 n (by omega) r
  unfold numR
  rw [h1, if_pos (by simp only [Bool.false_eq_true, false_or]; omega)]
theorem textR_good (bs r : List Int) (hb : bs.length ≤ 1000000) (limit : Int) (hf : (bs.length : Int) ≤ max limit 0) : textR (enc bs.length ++ (bs ++ r)) false limit = (bs, r, false) := by
  have h1 := numR_good bs.length (by omega) (bs ++ r) (lim1 limit) (by unfold lim1; split <;> (try split) <;> omega)
  unfold textR
  rw [h1, if_neg (by simp; omega)]
  simp
theorem textR_over (bs r : List Int) (hb : bs.length ≤ 1000000) (limit : Int) (h1 : limit ≤ 9223372036854775807) (hf : max limit 0 < (bs.length : Int)) : textR (enc bs.length ++ (bs ++ r)) false limit = ([], enc bs.length ++ (bs ++ r), true) := by
  have h1 := numR_over bs.length (by omega) (bs ++ r) (lim1 limit) (.inr (by unfold lim1; split <;> (try split) <;> omega))
  unfold textR
  rw [h1, if_pos (by simp)]
theorem bytesOf_byte (s : ByteArray) : ∀ x ∈ bytesOf s, 0 ≤ x ∧ x < 256 := by
  intro x hx
  simp only [bytesOf, List.mem_map] at hx
  obtain ⟨b, _, rfl⟩ := hx
  have := b.toNat_lt
  omega
theorem bytes_str (t : List Int) (h : ∀ x ∈ t, 0 ≤ x ∧ x < 256) : bytesOf (strOfNums t) = t := by
  refine bytes_inj _ _ (bytesOf_byte _) h ?_
  have h1 := congrArg ByteArray.toList (str_bytes (strOfNums t))
  rw [Lib.strOfNums_toList, Lib.strOfNums_toList] at h1
  exact h1
theorem str_size (t : List Int) (h : ∀ x ∈ t, 0 ≤ x ∧ x < 256) : (strOfNums t).size = t.length := by
  rw [← bytesOf_length, bytes_str t h]
theorem right_parts {x : S25} (h : right x = true) : 0 ≤ x.f0 ∧ x.f0 < 4611686018427387904 ∧ x.f2.size ≤ 400 ∧ ((x.f1 = 2 ∧ x.f2.size = 0 ∧ 1 ≤ x.f3 ∧ x.f3 ≤ 1000 ∧ 1 ≤ x.f4 ∧ x.f4 ≤ 1000) ∨ ((x.f1 = 0 ∨ x.f1 = 1 ∨ x.f1 = 3) ∧ x.f3 = 0 ∧ x.f4 = 0)) := by
  unfold right rightB at h
  exact of_decide_eq_true h
theorem nat_of {i : Int} (h : 0 ≤ i) : ∃ n : Nat, i = (n : Int) := ⟨i.toNat, by omega⟩
theorem encs2 (a b : Nat) : encs [(a : Int), (b : Int)] = enc a ++ enc b := by simp [Plain.encs]
/-- What was put is read back. -/
theorem take_evb (fr : Int) (x : S25) (r : List Int) (hx : right x = true) (h0 : 0 ≤ fr) (h1 : fr ≤ x.f0) : takeX fr (evb fr x ++ r) = (x, r, false) := by
  obtain ⟨t, k, d, a, b⟩ := x
  obtain ⟨p0, p1, p2, p3⟩ := right_parts hx
  dsimp only at p0 p1 p2 p3 h1
  obtain ⟨nk, rfl⟩ := nat_of (show 0 ≤ k by omega)
  obtain ⟨nt, ht⟩ := nat_of (show 0 ≤ t - fr by omega)
  have hnt : nt < 4611686018427387904 := by omega
  have hsum : fr + (nt : Int) = t := by omega
  unfold takeX evb
  dsimp only
  rw [ht, encs2, List.append_assoc, List.append_assoc]
  rw [numR_good nk (by omega) _ 4 (by omega)]
  dsimp only
  rw [numR_good nt (by omega) _ 4611686018427387904 (by omega)]
  dsimp only
  rcases p3 with ⟨hk, hd, ha1, ha2, hb1, hb2⟩ | ⟨hk, ha, hb⟩
  · obtain ⟨na, rfl⟩ := nat_of (show 0 ≤ a by omega)
    obtain ⟨nb, rfl⟩ := nat_of (show 0 ≤ b by omega)
    rw [if_pos hk, if_pos hk, encs2, List.append_assoc]
    rw [numR_good na (by omega) _ 1001 (by omega)]
    dsimp only
    rw [numR_good nb (by omega) _ 1001 (by omega)]
    dsimp only
    rw [hsum, ← hk, (empty_iff d).1 hd]
    rfl
  · have hk2 : ¬ ((nk : Int) = 2) := by omega
    rw [if_neg hk2, if_neg hk2]
    have h4 := textR_good (bytesOf d) r (by rw [bytesOf_length]; omega) 400 (by rw [bytesOf_length]; omega)
    rw [bytesOf_length] at h4
    rw [List.append_assoc, h4]
    dsimp only
    rw [hsum, str_bytes, ha, hb]
theorem numR_some {b : List Int} {bad : Bool} {L : Int} (hb : ∀ x ∈ b, 0 ≤ x ∧ x < 256) (h : (numR b bad L).2.2 = false) : bad = false ∧ ∃ (n : Nat) (r : List Int), b = enc n ++ r ∧ n ≤ 9223372036854775807 ∧ numR b bad L = ((n : Int), r, false) := by
  by_cases h2 : bad = true ∨ (dec b 0 0).2 = 0 ∨ 9223372036854775807 < (dec b 0 0).1 ∨ (0 < L ∧ L ≤ ((dec b 0 0).1 : Int))
  · rw [numR_bad h2] at h
    exact absurd h (by simp)
  · have e : numR b bad L = (((dec b 0 0).1 : Int), b.drop (dec b 0 0).2, false) := by unfold numR; rw [if_neg h2]
    have hbad : bad = false := by
      cases bad with
      | true => exact absurd (.inl rfl) h2
      | false => rfl
    refine ⟨hbad, ?_⟩
    rcases dec_some b 0 0 _ _ hb (rfl : dec b 0 0 = ((dec b 0 0).1, (dec b 0 0).2)) with h3 | ⟨n, r, h3, h4, h5, _, h6, _⟩
    · exact absurd (.inr (.inl h3.2)) h2
    · have h7 : (dec b 0 0).1 = n := by rw [h5]; simp
      have h8 : (dec b 0 0).2 = (enc n).length := by rw [h4]; simp
      have h9 : n ≤ 9223372036854775807 := by
        refine Nat.le_of_not_lt (fun h => h2 (.inr (.inr (.inl ?_))))
        rw [h7]; exact h
      refine ⟨n, r, h3, h9, ?_⟩
      rw [e, h7, h8]
      congr 2
      rw [h3]
      simp
theorem textR_some {b : List Int} {bad : Bool} {L : Int} (hb : ∀ x ∈ b, 0 ≤ x ∧ x < 256) (h : (textR b bad L).2.2 = false) : bad = false ∧ ∃ (t r : List Int), b = enc t.length ++ (t ++ r) ∧ textR b bad L = (t, r, false) := by
  unfold textR at h
  by_cases h2 : (numR b bad (lim1 L)).2.2 = true ∨ ((numR b bad (lim1 L)).2.1.length : Int) < (numR b bad (lim1 L)).1
  · rw [if_pos h2] at h
    exact absurd h (by simp)
  · have h3 : (numR b bad (lim1 L)).2.2 = false := by
      cases h4 : (numR b bad (lim1 L)).2.2 with
      | true => exact absurd (.inl h4) h2
      | false => rfl
    obtain ⟨hbad, n, r, e1, e2, e3⟩ := numR_some hb h3
    have h5 : n ≤ r.length := by
      have h6 : ¬ (((numR b bad (lim1 L)).2.1.length : Int) < (numR b bad (lim1 L)).1) := fun h => h2 (.inr h)
      rw [e3] at h6
      simp only at h6
      omega
    have hl : (r.take n).length = n := by rw [List.length_take]; omega
    refine ⟨hbad, r.take n, r.drop n, ?_, ?_⟩
    · rw [hl, List.take_append_drop]; exact e1
    · unfold textR
      rw [if_neg h2, e3]
      simp
/-- What was read was there. -/
theorem take_back (fr : Int) (b : List Int) (hb : ∀ x ∈ b, 0 ≤ x ∧ x < 256) (h : takeOk fr b = true) : (takeX fr b).2.2 = false ∧ right (takeX fr b).1 = true ∧ fr ≤ (takeX fr b).1.f0 ∧ b = evb fr (takeX fr b).1 ++ (takeX fr b).2.1 := by
  unfold takeOk at h
  rw [Bool.and_eq_true] at h
  obtain ⟨hd, hr⟩ := h
  have hd2 : (takeX fr b).2.2 = false := by simpa using hd
  refine ⟨hd2, hr, ?_⟩
  clear hd
  have key : ∀ (nt nk : Nat) (r : List Int), (∀ x ∈ r, 0 ≤ x ∧ x < 256) → True := fun _ _ _ _ => trivial
  clear key
  unfold takeX at hd2 hr ⊢
  by_cases hk : (numR b false 4).1 = 2
  · rw [if_pos hk] at hd2 hr ⊢
    dsimp only at hd2 hr ⊢
    -- the four numbers, from the last to the first
    have l1 := numR_left b false 4
    have hb1 : ∀ x ∈ (numR b false 4).2.1, 0 ≤ x ∧ x < 256 := fun x hx => hb x (l1.1 x hx)
    have l2 := numR_left (numR b false 4).2.1 (numR b false 4).2.2 4611686018427387904
    have hb2 := fun x hx => hb1 x (l2.1 x hx)
    have l3 := numR_left (numR (numR b false 4).2.1 (numR b false 4).2.2 4611686018427387904).2.1 (numR (numR b false 4).2.1 (numR b false 4).2.2 4611686018427387904).2.2 1001
    have hb3 := fun x hx => hb2 x (l3.1 x hx)
    obtain ⟨g3, n4, r4, e4, _, q4⟩ := numR_some hb3 hd2
    obtain ⟨g2, n3, r3, e3, _, q3⟩ := numR_some hb2 g3
    obtain ⟨g1, n2, r2, e2, _, q2⟩ := numR_some hb1 g2
    obtain ⟨_, n1, r1, e1, _, q1⟩ := numR_some hb g1
    rw [q1] at hk e2 q2
    dsimp only at hk e2 q2
    rw [q1] at e3 q3 e4 q4 ⊢
    dsimp only at e3 q3 e4 q4 ⊢
    rw [q2] at e3 q3 e4 q4 ⊢
    dsimp only at e3 q3 e4 q4 ⊢
    rw [q3] at e4 q4 ⊢
    dsimp only at e4 q4 ⊢
    rw [q4]
    dsimp only
    refine ⟨by omega, ?_⟩
    unfold evb
    dsimp only
    rw [if_pos rfl, show fr + (n2 : Int) - fr = (n2 : Int) from by omega, ← hk, encs2, encs2, e1, e2, e3, e4]
    simp only [List.append_assoc]
  · rw [if_neg hk] at hd2 hr ⊢
    dsimp only at hd2 hr ⊢
    have l1 := numR_left b false 4
    have hb1 : ∀ x ∈ (numR b false 4).2.1, 0 ≤ x ∧ x < 256 := fun x hx => hb x (l1.1 x hx)
    have l2 := numR_left (numR b false 4).2.1 (numR b false 4).2.2 4611686018427387904
    have hb2 := fun x hx => hb1 x (l2.1 x hx)
    obtain ⟨g2, t3, r3, e3, q3⟩ := textR_some hb2 hd2
    obtain ⟨g1, n2, r2, e2, _, q2⟩ := numR_some hb1 g2
    obtain ⟨_, n1, r1, e1, _, q1⟩ := numR_some hb g1
    rw [e3] at hb2
    have ht3 : ∀ x ∈ t3, 0 ≤ x ∧ x < 256 := fun x hx => hb2 x (by simp [hx])
    rw [q1] at hk e2 q2
    dsimp only at hk e2 q2
    rw [q1] at e3 q3 ⊢
    dsimp only at e3 q3 ⊢
    rw [q2] at e3 q3 ⊢
    dsimp only at e3 q3 ⊢
    rw [q3]
    dsimp only
    refine ⟨by omega, ?_⟩
    unfold evb
    dsimp only
    rw [if_neg hk, show fr + (n2 : Int) - fr = (n2 : Int) from by omega, encs2, str_size t3 ht3, bytes_str t3 ht3, e1, e2, e3]
    simp only [List.append_assoc]
end Go.Proofs.Ytbofeaclgnekkaa.EvPure
