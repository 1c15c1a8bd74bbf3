/- Plain text, and strings between their beginning and their end: what the parser tells, as plain lists. -/
import Derived.Test.YtkdkajcokoggiaaDoorVtInv
namespace Go.Proofs.YtkdkajcokoggiaaDoor.VtTexts
open Go.Proofs.YtkdkajcokoggiaaDoor.Mine Go.Proofs.YtkdkajcokoggiaaDoor.Plain Go.Proofs.YtkdkajcokoggiaaDoor.UtfPure Go.Proofs.YtkdkajcokoggiaaDoor.UtfRunes Go.Proofs.YtkdkajcokoggiaaDoor.UtfPart Go.Proofs.YtkdkajcokoggiaaDoor.VtPure Go.Proofs.YtkdkajcokoggiaaDoor.VtInv Go.Proofs.YtkdkajcokoggiaaDoorW.PrintWords
open Go.Proofs.YtkdkajcokoggiaaDoor.PVtParts (S37)
set_option linter.unusedVariables false
set_option linter.unusedSimpArgs false
theorem ground_plain {v : PR} (h : Part v.u) (h0 : v.st = 0) {c : Int} (hc : 32 ≤ c ∧ c < 256) (h7 : c ≠ 127) : feedP v c = ({ v with u := (UtfPure.drain (v.u ++ [c])).2 }, printedP (UtfPure.drain (v.u ++ [c])).1) := by
  unfold feedP
  rw [if_pos h0]
  unfold groundP
  dsimp only
  rw [if_neg (show ¬ c = 27 by omega), if_neg (show ¬ (c < 32 ∨ c = 127) by omega)]
  by_cases h1 : c < 128
  · simp only [if_pos h1, List.nil_append]
    have e1 := drain_ascii (p := []) (fun x hx => by cases hx) (.inl rfl) c (by omega)
    have e2 := drain_ascii h.1 h.2.1 c (by omega)
    rw [List.nil_append] at e1
    rw [e1, e2]
    simp [printedP]
  · simp only [if_neg h1, List.nil_append]
theorem plain_all (s : List Int) (hs : ∀ b ∈ s, 32 ≤ b ∧ b < 256 ∧ b ≠ 127) : ∀ u, Part u → allP { atP 0 with u := u } s = ({ atP 0 with u := (feedAll u s).2 }, printedP (feedAll u s).1) := by
  induction s with
  | nil => intro u _; rfl
  | cons c s ih =>
    intro u hu
    have hc := hs c (by simp)
    have h1 := ground_plain (v := { atP 0 with u := u }) hu rfl (c := c) ⟨hc.1, hc.2.1⟩ hc.2.2
    have h2 := ih (fun b hb => hs b (by simp [hb])) _ (part_step hu (c := c) (by omega))
    simp only [allP, h1]
    dsimp only at h2 ⊢
    rw [h2, feedAll_cons]
    simp [printedP]
theorem str_feed {k : Int} (hk : k = 5 ∨ k = 6) (t : ByteArray) (c : Int) (hc : 32 ≤ c) : feedP { atP k with tx := t } c = ({ atP k with tx := if t.size < 40 then t ++ b1 c else t }, []) := by
  have e : ({ atP k with tx := t } : PR).st = k := rfl
  unfold feedP stringP
  rw [if_neg (by rw [e]; omega), if_neg (by rw [e]; omega), if_pos (by rw [e]; omega), if_neg (by omega), if_neg (by omega), if_neg (by omega)]
  by_cases h : t.size < 40
  · rw [if_pos ⟨hc, h⟩, if_pos h]
  · rw [if_neg (fun x => h x.2), if_neg h]
theorem str_all {k : Int} (hk : k = 5 ∨ k = 6) (bs : List Int) (hb : ∀ b ∈ bs, 32 ≤ b ∧ b < 256) : ∀ t : ByteArray, t.size ≤ 40 → ∃ t' : ByteArray, allP { atP k with tx := t } bs = ({ atP k with tx := t' }, []) ∧ bytesOf t' = (bytesOf t ++ bs).take 40 := by
  induction bs with
  | nil => intro t ht; exact ⟨t, rfl, by rw [List.append_nil, List.take_of_length_le (by rw [bytesOf_length]; exact ht)]⟩
  | cons c bs ih =>
    intro t ht
    have hc := hb c (by simp)
    have h1 := str_feed hk t c hc.1
    have hz : (if t.size < 40 then t ++ b1 c else t).size ≤ 40 := by
      split
      · rw [size_b1]; omega
      · exact ht
    obtain ⟨t', h2, h3⟩ := ih (fun b h => hb b (by simp [h])) _ hz
    refine ⟨t', by simp only [allP, h1]; rw [h2]; rfl, ?_⟩
    rw [h3]
    split
    · rw [bytes_app, bytes_b1 c (by omega), List.append_assoc]; rfl
    next h4 =>
      have hl : (bytesOf t).length = 40 := by rw [bytesOf_length]; omega
      rw [List.take_append_of_le_length (by omega), List.take_append_of_le_length (by omega)]
theorem fold_bytes : ∀ (l : List Int) (r : ByteArray), l.foldl (fun r n => r.push (UInt8.ofNat n.toNat)) r = ⟨r.data ++ (l.map fun n => UInt8.ofNat n.toNat).toArray⟩ := by
  intro l
  induction l with
  | nil => intro r; simp
  | cons x l ih => intro r; rw [List.foldl_cons, ih]; simp [ByteArray.push]
theorem fold_bytesOf (s : ByteArray) : (bytesOf s).foldl (fun r n => r.push (UInt8.ofNat n.toNat)) ByteArray.empty = s := by
  rw [fold_bytes]
  unfold bytesOf
  rw [List.map_map]
  have e : (fun n : Int => UInt8.ofNat n.toNat) ∘ (fun b : UInt8 => ((b.toNat : Nat) : Int)) = id := by funext b; simp
  rw [e]
  simp
theorem bytesOf_inj {s t : ByteArray} (h : bytesOf s = bytesOf t) : s = t := by rw [← fold_bytesOf s, h, fold_bytesOf]
theorem bytes_cut (s : ByteArray) (b : Nat) : bytesOf (s.extract 0 b) = (bytesOf s).take b := by
  unfold bytesOf
  rw [ByteArray.data_extract, Array.toList_extract, List.map_take]
  simp
theorem take_min (l : List Int) (n : Nat) : l.take (min l.length n) = l.take n := by
  rcases Nat.le_total l.length n with h | h
  · rw [Nat.min_eq_left h, List.take_of_length_le (Nat.le_refl _), List.take_of_length_le h]
  · rw [Nat.min_eq_right h]
/-- A string, from its beginning to its end, is told once. -/
theorem closes (k b2 : Int) (hb2 : (k = 5 ∧ b2 = 93) ∨ (k = 6 ∧ b2 = 80)) (s : ByteArray) (hs : ∀ b ∈ bytesOf s, 32 ≤ b) (e : List Int) (he : e = [27, 92] ∨ (k = 5 ∧ e = [7])) :
    allP (atP 0) (27 :: b2 :: (bytesOf s ++ e)) = (atP 0, [strA (if k = 6 then 5 else 4) (s.extract 0 (min s.size 40))]) := by
  have hk : k = 5 ∨ k = 6 := by omega
  have h1 : feedP (atP 0) 27 = (atP 1, []) := by simp [feedP, groundP, atP, printedP]
  have h2 : feedP (atP 1) b2 = (atP k, []) := by
    rcases hb2 with ⟨rfl, rfl⟩ | ⟨rfl, rfl⟩ <;> simp [feedP, feed2P, escapeP, atP]
  obtain ⟨t', h3, h4⟩ := str_all hk (bytesOf s) (fun b hb => ⟨hs b hb, (bytesOf_bytes s b hb).2⟩) nob (Nat.zero_le _)
  have h5 : t' = s.extract 0 (min s.size 40) := by
    apply bytesOf_inj
    rw [h4, bytes_nob, List.nil_append, bytes_cut]
    have h := take_min (bytesOf s) 40
    rw [bytesOf_length] at h
    exact h.symm
  rw [show ({ atP k with tx := nob } : PR) = atP k from rfl] at h3
  have h6 : allP { atP k with tx := t' } e = (atP 0, [strA (if k = 6 then 5 else 4) t']) := by
    rcases he with rfl | ⟨rfl, rfl⟩
    · rcases hk with rfl | rfl <;> simp [allP, feedP, stringP, finishP, atP]
    · simp [allP, feedP, stringP, finishP, atP]
  simp only [allP, h1, h2, allP_append, h3, h6, List.nil_append]
  rw [h5]
end Go.Proofs.YtkdkajcokoggiaaDoor.VtTexts
