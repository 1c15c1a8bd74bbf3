/- What a parser keeps, byte by byte: the form that its state has. -/
import Derived.Test.YtkdkajcokoggiaaDoorVtPure
import Derived.Test.YtkdkajcokoggiaaDoorUtfPart
namespace Go.Proofs.YtkdkajcokoggiaaDoor.VtInv
open Go.Proofs.YtkdkajcokoggiaaDoor.Mine Go.Proofs.YtkdkajcokoggiaaDoor.Plain Go.Proofs.YtkdkajcokoggiaaDoor.UtfPure Go.Proofs.YtkdkajcokoggiaaDoor.UtfPart Go.Proofs.YtkdkajcokoggiaaDoor.VtPure Go.Proofs.YtkdkajcokoggiaaDoorW.PrintWords
open Go.Proofs.YtkdkajcokoggiaaDoor.PVtParts (S37)
set_option linter.unusedVariables false
set_option linter.unusedSimpArgs false
structure PForm (v : PR) : Prop where
  st0 : 0 ≤ v.st
  st7 : v.st ≤ 7
  u : Part v.u
  u0 : v.st ≠ 0 → v.u = []
  wi7 : v.st = 7 → v.wi = 5 ∨ v.wi = 6
  wi0 : v.st ≠ 7 → v.wi = 0
  ps0 : v.st ≠ 3 → v.st ≠ 4 → v.ps = []
  ps8 : v.ps.length ≤ 8
  psb : ∀ x ∈ v.ps, 0 ≤ x ∧ x ≤ 9999
  tx0 : v.st < 5 → v.tx = nob
  tx40 : v.tx.size ≤ 40
  txb : ∀ b ∈ bytesOf v.tx, 32 ≤ b
  mr0 : v.st ≠ 2 → v.st ≠ 3 → v.st ≠ 4 → v.mr = nob
  mr1 : v.st = 2 → 1 ≤ v.mr.size
  mr2 : v.mr.size ≤ 2
  mrb : ∀ b ∈ bytesOf v.mr, 32 ≤ b ∧ (b ≤ 47 ∨ ((v.st = 3 ∨ v.st = 4) ∧ 60 ≤ b ∧ b ≤ 63))
theorem bytes_nob : bytesOf nob = [] := rfl
theorem size_nob : nob.size = 0 := rfl
theorem bytes_b1 (c : Int) (hc : 0 ≤ c ∧ c < 256) : bytesOf (b1 c) = [c] := by
  have h : (UInt8.ofNat c.toNat).toNat = c.toNat := by
    rw [UInt8.toNat_ofNat']; exact Nat.mod_eq_of_lt (by omega)
  show [((UInt8.ofNat c.toNat).toNat : Int)] = [c]
  rw [h]
  congr 1
  omega
theorem bytes_app (a b : ByteArray) : bytesOf (a ++ b) = bytesOf a ++ bytesOf b := by
  unfold bytesOf
  simp
theorem size_b1 (a : ByteArray) (c : Int) : (a ++ b1 c).size = a.size + 1 := by
  rw [ByteArray.size_append]; rfl
theorem good_at {s : Int} (h : s = 0 ∨ s = 1 ∨ s = 3 ∨ s = 5 ∨ s = 6) : PForm (atP s) where
  st0 := by show 0 ≤ s; omega
  st7 := by show s ≤ 7; omega
  u := part_nil
  u0 := fun _ => rfl
  wi7 := fun h2 => by have : s = 7 := h2; omega
  wi0 := fun _ => rfl
  ps0 := fun _ _ => rfl
  ps8 := Nat.zero_le _
  psb := fun x hx => by cases hx
  tx0 := fun _ => rfl
  tx40 := Nat.zero_le _
  txb := fun x hx => by rw [show (atP s).tx = nob from rfl, bytes_nob] at hx; cases hx
  mr0 := fun _ _ _ => rfl
  mr1 := fun h2 => by have : s = 2 := h2; omega
  mr2 := Nat.zero_le _
  mrb := fun x hx => by rw [show (atP s).mr = nob from rfl, bytes_nob] at hx; cases hx
theorem good_zero : PForm (atP 0) := good_at (.inl rfl)
theorem some_ps {l : List Int} (h8 : l.length ≤ 8) (hb : ∀ x ∈ l, 0 ≤ x ∧ x ≤ 9999) : (someP l).length ≤ 8 ∧ ∀ x ∈ someP l, 0 ≤ x ∧ x ≤ 9999 := by
  unfold someP
  split
  · exact ⟨by decide, fun x hx => by simp at hx; omega⟩
  · exact ⟨h8, hb⟩
theorem last_ps {l : List Int} {c : Int} (hc : 48 ≤ c ∧ c ≤ 57) (h8 : l.length ≤ 8) (hb : ∀ x ∈ l, 0 ≤ x ∧ x ≤ 9999) : (lastP l c).length ≤ 8 ∧ ∀ x ∈ lastP l c, 0 ≤ x ∧ x ≤ 9999 := by
  unfold lastP
  refine ⟨by rw [List.length_set]; exact h8, fun x hx => ?_⟩
  rcases List.mem_or_eq_of_mem_set hx with h | h
  · exact hb x h
  · have h0 : 0 ≤ l.getD (l.length - 1) 0 := by
      rw [List.getD_eq_getElem?_getD]
      cases h1 : l[l.length - 1]? with
      | none => exact Int.le_refl _
      | some y => exact (hb y (List.mem_of_getElem? h1)).1
    omega
theorem good_ground {v : PR} (h : PForm v) (h0 : v.st = 0) {c : Int} (hc : 0 ≤ c ∧ c < 256) : PForm (groundP v c).1 := by
  unfold groundP
  dsimp only
  have key : ∀ u, Part u → PForm { v with u := u } := fun u hu =>
    { st0 := h.st0, st7 := h.st7, u := hu, u0 := fun h1 => absurd h0 h1, wi7 := h.wi7, wi0 := h.wi0, ps0 := h.ps0, ps8 := h.ps8, psb := h.psb, tx0 := h.tx0, tx40 := h.tx40, txb := h.txb, mr0 := h.mr0, mr1 := h.mr1, mr2 := h.mr2, mrb := h.mrb }
  have hu1 : Part (if c < 128 then [] else v.u) := by
    split
    · exact part_nil
    · exact h.u
  split
  · exact good_at (.inr (.inl rfl))
  · split
    · exact key _ hu1
    · exact key _ (part_step hu1 hc)
theorem good_escape {v : PR} (h : PForm v) (h12 : v.st = 1 ∨ v.st = 2) {c : Int} (hc : 32 ≤ c ∧ c < 127) : PForm (escapeP v c).1 := by
  unfold escapeP
  split
  next h48 =>
    have hmr : (if v.mr.size < 2 then v.mr ++ b1 c else v.mr).size ≤ 2 := by
      split
      · rw [size_b1]; omega
      · exact h.mr2
    have hmr1 : 1 ≤ (if v.mr.size < 2 then v.mr ++ b1 c else v.mr).size := by
      split
      · rw [size_b1]; omega
      · omega
    have hmb : ∀ b ∈ bytesOf (if v.mr.size < 2 then v.mr ++ b1 c else v.mr), 32 ≤ b ∧ b ≤ 47 := by
      have hv : ∀ b ∈ bytesOf v.mr, 32 ≤ b ∧ b ≤ 47 := fun b hb => by
        have := h.mrb b hb
        omega
      split
      · rw [bytes_app, bytes_b1 c (by omega)]
        intro b hb
        rcases List.mem_append.1 hb with h1 | h1
        · exact hv b h1
        · simp at h1; omega
      · exact hv
    exact { st0 := by show (0 : Int) ≤ 2; decide, st7 := by show (2 : Int) ≤ 7; decide, u := h.u, u0 := fun _ => h.u0 (by omega), wi7 := fun h2 => absurd (show (2 : Int) = 7 from h2) (by decide), wi0 := fun _ => h.wi0 (by omega), ps0 := fun _ _ => h.ps0 (by omega) (by omega), ps8 := h.ps8, psb := h.psb, tx0 := fun _ => h.tx0 (by omega), tx40 := h.tx40, txb := h.txb, mr0 := fun h2 => absurd rfl h2, mr1 := fun _ => hmr1, mr2 := hmr, mrb := fun b hb => by have := hmb b hb; exact ⟨this.1, .inl this.2⟩ }
  next h48 =>
    repeat' split
    · exact good_at (by omega)
    · exact good_at (by omega)
    · exact good_at (by omega)
    · exact good_at (by omega)
theorem good_csi {v : PR} (h : PForm v) (h34 : v.st = 3 ∨ v.st = 4) {c : Int} (hc : 32 ≤ c ∧ c < 127) : PForm (csiP v c).1 := by
  have key : ∀ ps, ps.length ≤ 8 → (∀ x ∈ ps, 0 ≤ x ∧ x ≤ 9999) → PForm { v with ps := ps } := fun ps hp1 hp2 =>
    { st0 := h.st0, st7 := h.st7, u := h.u, u0 := h.u0, wi7 := h.wi7, wi0 := h.wi0, ps0 := fun h3 h4 => (h34.elim h3 h4).elim, ps8 := hp1, psb := hp2, tx0 := h.tx0, tx40 := h.tx40, txb := h.txb, mr0 := h.mr0, mr1 := h.mr1, mr2 := h.mr2, mrb := h.mrb }
  have hs := some_ps h.ps8 h.psb
  unfold csiP
  split
  next h1 => exact key _ (last_ps h1 hs.1 hs.2).1 (last_ps h1 hs.1 hs.2).2
  next h1 =>
  split
  next h2 =>
    refine key _ ?_ ?_
    · split
      · rw [List.length_append, List.length_singleton]; omega
      · exact hs.1
    · split
      · intro x hx
        rcases List.mem_append.1 hx with h3 | h3
        · exact hs.2 x h3
        · simp at h3; omega
      · exact hs.2
  next h2 =>
  split
  next h3 => split <;> exact good_zero
  next h3 =>
  split
  next h4 =>
    exact { st0 := by show (0 : Int) ≤ 4; decide, st7 := by show (4 : Int) ≤ 7; decide, u := h.u, u0 := fun _ => h.u0 (by omega), wi7 := fun h2 => absurd (show (4 : Int) = 7 from h2) (by decide), wi0 := fun _ => h.wi0 (by omega), ps0 := fun _ h2 => absurd rfl h2, ps8 := h.ps8, psb := h.psb, tx0 := fun _ => h.tx0 (by omega), tx40 := h.tx40, txb := h.txb, mr0 := fun _ _ h2 => absurd rfl h2, mr1 := fun h2 => absurd (show (4 : Int) = 2 from h2) (by decide), mr2 := h.mr2, mrb := fun b hb => ⟨(h.mrb b hb).1, (h.mrb b hb).2.elim .inl (fun h5 => .inr ⟨.inr rfl, h5.2⟩)⟩ }
  next h4 =>
    have hz : (v.mr ++ b1 c).size ≤ 2 := by
      have := h.mr2
      rw [size_b1]; omega
    have hmb : ∀ b ∈ bytesOf (v.mr ++ b1 c), 32 ≤ b ∧ (b ≤ 47 ∨ ((v.st = 3 ∨ v.st = 4) ∧ 60 ≤ b ∧ b ≤ 63)) := by
      intro b hb
      rw [bytes_app, bytes_b1 c (by omega)] at hb
      rcases List.mem_append.1 hb with h5 | h5
      · exact h.mrb b h5
      · simp at h5
        subst h5
        exact ⟨hc.1, by omega⟩
    exact { st0 := h.st0, st7 := h.st7, u := h.u, u0 := h.u0, wi7 := h.wi7, wi0 := h.wi0, ps0 := h.ps0, ps8 := h.ps8, psb := h.psb, tx0 := h.tx0, tx40 := h.tx40, txb := h.txb, mr0 := fun h1 h2 h3 => (h34.elim h2 h3).elim, mr1 := fun h2 => by have h2 : v.st = 2 := h2; omega, mr2 := hz, mrb := hmb }
theorem good_string {v : PR} (h : PForm v) (h56 : v.st = 5 ∨ v.st = 6) {c : Int} (hc : 0 ≤ c ∧ c < 256) : PForm (stringP v c).1 := by
  unfold stringP
  split
  · exact { st0 := by show (0 : Int) ≤ 7; decide, st7 := by show (7 : Int) ≤ 7; decide, u := h.u, u0 := fun _ => h.u0 (by omega), wi7 := fun _ => h56, wi0 := fun h2 => absurd rfl h2, ps0 := fun _ _ => h.ps0 (by omega) (by omega), ps8 := h.ps8, psb := h.psb, tx0 := fun h2 => absurd (show (7 : Int) < 5 from h2) (by decide), tx40 := h.tx40, txb := h.txb, mr0 := fun _ _ _ => h.mr0 (by omega) (by omega) (by omega), mr1 := fun h2 => absurd (show (7 : Int) = 2 from h2) (by decide), mr2 := h.mr2, mrb := fun b hb => absurd (show b ∈ bytesOf nob from h.mr0 (by omega) (by omega) (by omega) ▸ hb) (by simp [bytes_nob]) }
  split
  · exact good_zero
  split
  · exact good_zero
  split
  next h3 =>
    have hz : (v.tx ++ b1 c).size ≤ 40 := by rw [size_b1]; omega
    have hb2 : ∀ b ∈ bytesOf (v.tx ++ b1 c), 32 ≤ b := by
      intro b hb
      rw [bytes_app, bytes_b1 c hc] at hb
      rcases List.mem_append.1 hb with h5 | h5
      · exact h.txb b h5
      · simp at h5; omega
    exact { st0 := h.st0, st7 := h.st7, u := h.u, u0 := h.u0, wi7 := h.wi7, wi0 := h.wi0, ps0 := h.ps0, ps8 := h.ps8, psb := h.psb, tx0 := fun h2 => by have h2 : v.st < 5 := h2; omega, tx40 := hz, txb := hb2, mr0 := h.mr0, mr1 := h.mr1, mr2 := h.mr2, mrb := h.mrb }
  · exact h
theorem good_feed2 {v : PR} (h : PForm v) (h14 : 1 ≤ v.st ∧ v.st ≤ 4) {c : Int} (hc : 0 ≤ c ∧ c < 256) : PForm (feed2P v c).1 := by
  unfold feed2P
  split
  · exact good_zero
  split
  · exact good_at (.inr (.inl rfl))
  split
  · exact h
  split
  · exact h
  split
  next h5 => exact good_csi h h5 (by omega)
  next h5 => exact good_escape h (by omega) (by omega)
theorem good_feed {v : PR} (h : PForm v) {c : Int} (hc : 0 ≤ c ∧ c < 256) : PForm (feedP v c).1 := by
  have h0 := h.st0
  have h7 := h.st7
  unfold feedP
  split
  next h1 => exact good_ground h h1 hc
  next h1 =>
  split
  next h2 =>
    split
    · exact good_zero
    · exact good_feed2 (good_at (.inr (.inl rfl))) (show (1 : Int) ≤ 1 ∧ (1 : Int) ≤ 4 from by decide) hc
  next h2 =>
  split
  next h3 => exact good_string h (by omega) hc
  next h3 => exact good_feed2 h (by omega) hc
theorem good_all (l : List Int) (hl : Bytes l) : ∀ v, PForm v → PForm (allP v l).1 := by
  induction l with
  | nil => intro v h; exact h
  | cons c l ih => intro v h; exact ih (fun x hx => hl x (by simp [hx])) _ (good_feed h (hl c (by simp)))
/-- An act holds no more than may be. -/
def Cap (a : S37) : Prop := a.f3.size ≤ 2 ∧ a.f4.length ≤ 8 ∧ (∀ x ∈ a.f4, 0 ≤ x ∧ x ≤ 9999) ∧ a.f5.size ≤ 40
theorem cap_bare (k r l : Int) : Cap ⟨k, r, l, nob, [], nob⟩ := ⟨Nat.zero_le _, Nat.zero_le _, (fun x hx => nomatch hx), Nat.zero_le _⟩
theorem cap_printed (l : List Int) : ∀ a ∈ printedP l, Cap a := by
  intro a ha
  obtain ⟨r, _, rfl⟩ := List.mem_map.1 ha
  exact cap_bare _ _ _
theorem cap_one {x : S37} (h : Cap x) : ∀ a ∈ [x], Cap a := fun a ha => by rw [List.mem_singleton] at ha; rw [ha]; exact h
theorem cap_app {l m : List S37} (h1 : ∀ a ∈ l, Cap a) (h2 : ∀ a ∈ m, Cap a) : ∀ a ∈ l ++ m, Cap a := fun a ha => (List.mem_append.1 ha).elim (h1 a) (h2 a)
theorem cap_nil : ∀ a ∈ ([] : List S37), Cap a := fun a ha => by cases ha
theorem cap_finish {v : PR} (h : PForm v) (s : Int) : ∀ a ∈ (finishP v s).2, Cap a := cap_one ⟨Nat.zero_le _, Nat.zero_le _, (fun x hx => nomatch hx), h.tx40⟩
theorem cap_feed2 {v : PR} (h : PForm v) (c : Int) : ∀ a ∈ (feed2P v c).2, Cap a := by
  unfold feed2P
  split
  · exact cap_nil
  split
  · exact cap_nil
  split
  · exact cap_one (cap_bare _ _ _)
  split
  · exact cap_nil
  split
  · unfold csiP
    repeat' split
    all_goals first | exact cap_nil | exact cap_one ⟨h.mr2, h.ps8, h.psb, Nat.zero_le _⟩
  · unfold escapeP
    repeat' split
    all_goals first | exact cap_nil | exact cap_one ⟨h.mr2, Nat.zero_le _, (fun x hx => nomatch hx), Nat.zero_le _⟩
theorem cap_feed {v : PR} (h : PForm v) (c : Int) : ∀ a ∈ (feedP v c).2, Cap a := by
  unfold feedP
  split
  · unfold groundP
    dsimp only
    have h1 : ∀ a ∈ (if c < 128 then printedP (List.replicate v.u.length 65533) else []), Cap a := by
      split
      · exact cap_printed _
      · exact cap_nil
    split
    · exact h1
    split
    · exact cap_app h1 (cap_one (cap_bare _ _ _))
    · exact cap_app h1 (cap_printed _)
  split
  · split
    · exact cap_finish h _
    · exact cap_feed2 (good_at (.inr (.inl rfl))) c
  split
  · unfold stringP
    repeat' split
    all_goals first | exact cap_nil | exact cap_finish h _
  · exact cap_feed2 h c
/-- Of a byte at most seven acts come. -/
theorem feed_len {v : PR} (h : PForm v) (c : Int) : (feedP v c).2.length ≤ 7 := by
  have h2 : ∀ v : PR, (feed2P v c).2.length ≤ 7 := by
    intro v
    unfold feed2P csiP escapeP
    repeat' split
    all_goals simp
  unfold feedP
  split
  · unfold groundP
    dsimp only
    have hl := h.u.2.2
    have h1 : (if c < 128 then printedP (List.replicate v.u.length 65533) else []).length ≤ 3 := by
      split
      · unfold printedP; rw [List.length_map, List.length_replicate]; exact hl
      · simp
    split
    · dsimp only; omega
    split
    · dsimp only; rw [List.length_append, List.length_singleton]; omega
    · dsimp only
      unfold printedP at h1 ⊢
      rw [List.length_append, List.length_map]
      have := drain_len ((if c < 128 then [] else v.u) ++ [c])
      have h3 : ((if c < 128 then [] else v.u) ++ [c]).length ≤ 4 := by
        rw [List.length_append, List.length_singleton]
        split
        · simp
        · omega
      omega
  split
  · split
    · simp [finishP]
    · exact h2 _
  split
  · unfold stringP
    repeat' split
    all_goals simp [finishP]
  · exact h2 _
theorem all_len (l : List Int) (hl : Bytes l) : ∀ v, PForm v → (allP v l).2.length ≤ 7 * l.length := by
  induction l with
  | nil => intro v _; exact Nat.le_refl _
  | cons c l ih =>
    intro v h
    have h1 := ih (fun x hx => hl x (by simp [hx])) _ (good_feed h (hl c (by simp)))
    have h2 := feed_len h c
    simp only [allP, List.length_append, List.length_cons]
    omega
/-- Behind a byte 24 the parser is the zero one. -/
theorem good_24 {v : PR} (h : PForm v) : (feedP v 24).1 = atP 0 := by
  have h0 := h.st0
  have h7 := h.st7
  unfold feedP
  split
  next h1 =>
    have e1 := h.wi0 (by omega)
    have e2 := h.ps0 (by omega) (by omega)
    have e3 := h.tx0 (by omega)
    have e4 := h.mr0 (by omega) (by omega) (by omega)
    obtain ⟨st, u, mr, ps, tx, wi⟩ := v
    simp only at h1 e1 e2 e3 e4
    subst h1 e1 e2 e3 e4
    rfl
  split
  · rfl
  split
  · unfold stringP
    rw [if_neg (by decide), if_neg (by omega), if_pos (by decide)]
  · rfl
end Go.Proofs.YtkdkajcokoggiaaDoor.VtInv
