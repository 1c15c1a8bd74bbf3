/- What a Reader of package vary does, as contracts: a number, a text, whether all was there; no condition but the sizes that each contract states. -/
import Derived.Test.YtbofeaclgnekkaaVaryCode
namespace Go.Proofs.Ytbofeaclgnekkaa.Reader
open Go.RowKit Go.Proofs.Ytbofeaclgnekkaa.Kit Go.Proofs.Ytbofeaclgnekkaa.Plain Go.Proofs.Ytbofeaclgnekkaa.Mine Go.Proofs.Ytbofeaclgnekkaa.Vary Go.Proofs.YtbofeaclgnekkaaW.PrintWords Go.Proofs.YtbofeaclgnekkaaW.PrintLast Go.Proofs.YtbofeaclgnekkaaW.PrintMore
set_option linter.unusedVariables false
set_option linter.unusedSimpArgs false

/-- A Reader at block g, made behind w0: bytes that are left, and whether it is bad. -/
def RS (w0 w : World) (g : Nat) (b : List Int) (bad : Bool) : Prop :=
  w0.heap.size ≤ g ∧ Below w0.heap.size w0 w ∧ ∃ (A : Option Addr) (c : Nat), w.heap[g]? = some (.cells #[.slice A b.length c, .bool bad] 48 (0, 0)) ∧ b.length ≤ c ∧ ∀ W, KeepBut w W g none → Kd.C (Kd.int .u8) W A b.length b
/-- What Num tells, and leaves. -/
def numR (b : List Int) (bad : Bool) (limit : Int) : Int × List Int × Bool :=
  if bad = true ∨ (dec b 0 0).2 = 0 ∨ 9223372036854775807 < (dec b 0 0).1 ∨ (0 < limit ∧ limit ≤ ((dec b 0 0).1 : Int)) then (0, b, true) else ((dec b 0 0).1, b.drop (dec b 0 0).2, false)
def NumPost (w0 w : World) (g : Nat) (b : List Int) (bad : Bool) (limit : Int) (e : Ending) (w' : World) : Prop :=
  e = .returned (.int .i64 (numR b bad limit).1) ∧ RS w0 w' g (numR b bad limit).2.1 (numR b bad limit).2.2 ∧ KeepBut w w' g none
theorem rs_below {w0 w w1 : World} {g : Nat} {b : List Int} {bad : Bool} (h : RS w0 w g b bad) (hb : Below w.heap.size w w1) : RS w0 w1 g b bad := by
  obtain ⟨h1, h2, A, c, h3, h4, h5⟩ := h
  exact ⟨h1, below_then h2 h2.size hb, A, c, (hb.block g (blk_lt h3)).trans h3, h4, fun W hW => h5 W ((KeepBut.of_below hb g none).trans hW (.inl rfl))⟩
theorem rs_keep {w0 w w1 : World} {g g2 : Nat} {b : List Int} {bad : Bool} (h : RS w0 w g b bad) (hb : Below w0.heap.size w0 w1) (hk : KeepBut w w1 g none) (hh : w1.heap[g]? = w.heap[g]?) : RS w0 w1 g b bad := by
  obtain ⟨h1, h2, A, c, h3, h4, h5⟩ := h
  exact ⟨h1, hb, A, c, hh.trans h3, h4, fun W hW => h5 W (hk.trans hW (.inl rfl))⟩
/-- A Reader that another part of a walk may not reach: its block as it was set. -/
theorem rs_bad {w0 w w1 : World} {g c : Nat} {A : Option Addr} {b : List Int} {bad : Bool} (hg : w0.heap.size ≤ g) (hB : Below w0.heap.size w0 w1) (hk : KeepBut w w1 g none) (hh : w1.heap[g]? = some (.cells #[.slice A b.length c, .bool bad] 48 (0, 0))) (hc : b.length ≤ c)
    (hC : ∀ W, KeepBut w W g none → Kd.C (Kd.int .u8) W A b.length b) (x : Bool) : RS w0 (w1.setCell ⟨g, 1, none⟩ (.bool x)) g b x ∧ KeepBut w (w1.setCell ⟨g, 1, none⟩ (.bool x)) g none := by
  have h1 := hk.set_ 1 (.bool x)
  exact ⟨⟨hg, below_set hB hg, A, c, (blk_put hh 1 (.bool x) rfl), hc, fun W hW => hC W (h1.trans hW (.inl rfl))⟩, h1⟩
set_option maxHeartbeats 800000 in
set_option maxRecDepth 100000 in
theorem num_bad (w0 w : World) (g : Nat) (b : List Int) (bad : Bool) (limit : Int) (h : RS w0 w g b bad) (hb : ∀ x ∈ b, 0 ≤ x ∧ x < 256) (hs : b.length < 1000000000000) (hl : -9223372036854775808 ≤ limit ∧ limit ≤ 9223372036854775807)
    (hbad : bad = true ∨ (dec b 0 0).2 = 0 ∨ 9223372036854775807 < (dec b 0 0).1 ∨ (0 < limit ∧ limit ≤ ((dec b 0 0).1 : Int))) :
    Calls Try.prog 27 #[.pointer (some ⟨g, 0, none⟩), .int .i64 limit] w (NumPost w0 w g b bad limit) := by
  have hn : numR b bad limit = (0, b, true) := by unfold numR; rw [if_pos hbad]
  obtain ⟨hg, hB, A, c, hh, hc, hC⟩ := h
  have ht := take_c A c b w (hC w (KeepBut.refl _ _ _)) hc hb hs
  have hk : (dec b 0 0).2 ≤ 10 ∧ (dec b 0 0).1 < 18446744073709551616 := by
    rcases dec_some b 0 0 _ _ hb (rfl : dec b 0 0 = ((dec b 0 0).1, (dec b 0 0).2)) with h | ⟨n, r, _, h2, h3, _, h5, _⟩
    · omega
    · have h6 := enc_len10 n (by simpa using h5)
      have h7 : n < 18446744073709551616 := by simpa using h5
      simp at h3
      omega
  unfold decI at ht
  obtain ⟨n, hne⟩ : ∃ n, n = (dec b 0 0).1 := ⟨_, rfl⟩
  obtain ⟨k, hke⟩ : ∃ k, k = (dec b 0 0).2 := ⟨_, rfl⟩
  rw [← hne, ← hke] at ht hbad hk
  have h2 : bad = true ∨ (bad = false ∧ k = 0) ∨ (bad = false ∧ 0 < k ∧ 9223372036854775807 < n) ∨ (bad = false ∧ 0 < k ∧ n ≤ 9223372036854775807 ∧ 0 < limit ∧ limit ≤ (n : Int)) := by
    cases bad with
    | true => exact .inl rfl
    | false => simp only [Bool.false_eq_true, false_or, true_and] at hbad ⊢; omega
  clear hbad
  have hl1 := hl.1
  have hl2 := hl.2
  have hc0 : w.cell? ⟨g, 0, none⟩ = some (.slice A b.length c) := by rw [blk_cell hh]; rfl
  have HT := Aside0.mk ht
  have HN := Aside0.mk hn
  have HH := Aside0.mk hh
  have HC := Aside0.mk hC
  have HB := Aside0.mk hB
  have HG := Aside0.mk hg
  have HCC := Aside0.mk hc
  clear ht hn hh hC hB hg hc hne hke hb hk hl hs
  go_enter Try.func27, Try.ntmps27
  go_wp2_with fail
  refine HT.out.mono ?_
  rintro e w1 ⟨rfl, hb1⟩
  clear hc0
  have HH1 := Aside0.mk (blk_below HH.out hb1)
  have HB1 := Aside0.mk (below_then HB.out HB.out.size hb1)
  have HK1 := Aside0.mk (KeepBut.of_below hb1 g none)
  have hc1 : w1.cell? ⟨g, 1, none⟩ = some (.bool bad) := by rw [blk_cell HH1.out]; rfl
  have hf1 := blk_frozen HH1.out 1
  clear hb1
  have fin : ∀ v : Value, v = .int .i64 0 → NumPost w0 w g b bad limit (.returned v) (w1.setCell ⟨g, 1, none⟩ (.bool true)) := by
    intro v hv
    have h1 := rs_bad HG.out HB1.out HK1.out HH1.out HCC.out HC.out true
    refine ⟨by rw [hv, HN.out], ?_, h1.2⟩
    rw [HN.out]
    exact h1.1
  have FIN := Aside0.mk fin
  clear fin
  rcases h2 with rfl | ⟨rfl, rfl⟩ | ⟨rfl, hk, h1⟩ | ⟨rfl, hk, h1, h3, h4⟩
  · go_wp2
    go_ret
    exact FIN.out _ rfl
  · go_wp2
    go_ret
    exact FIN.out _ rfl
  · have hk0 : ((k : Int) == 0) = false := beq_eq_false_iff_ne.mpr (by omega)
    have h1 : (9223372036854775807 : Int) < n := by omega
    clear hk
    go_wp2
    go_ret
    exact FIN.out _ rfl
  · have hk0 : ((k : Int) == 0) = false := beq_eq_false_iff_ne.mpr (by omega)
    have h1 : (n : Int) ≤ 9223372036854775807 := by omega
    have h0 : 0 ≤ limit := by omega
    clear hk
    go_wp2
    go_ret
    exact FIN.out _ rfl

set_option maxHeartbeats 800000 in
set_option maxRecDepth 100000 in
theorem num_good (w0 w : World) (g : Nat) (b : List Int) (limit : Int) (h : RS w0 w g b false) (hb : ∀ x ∈ b, 0 ≤ x ∧ x < 256) (hs : b.length < 1000000000000) (hl : -9223372036854775808 ≤ limit ∧ limit ≤ 9223372036854775807)
    (hk0 : (dec b 0 0).2 ≠ 0) (hn1 : (dec b 0 0).1 ≤ 9223372036854775807) (hlim : ¬ (0 < limit ∧ limit ≤ ((dec b 0 0).1 : Int))) :
    Calls Try.prog 27 #[.pointer (some ⟨g, 0, none⟩), .int .i64 limit] w (NumPost w0 w g b false limit) := by
  have hn : numR b false limit = (((dec b 0 0).1 : Int), b.drop (dec b 0 0).2, false) := by unfold numR; rw [if_neg]; simp only [Bool.false_eq_true, false_or]; omega
  obtain ⟨hg, hB, A, c, hh, hc, hC⟩ := h
  have ht := take_c A c b w (hC w (KeepBut.refl _ _ _)) hc hb hs
  have hk : (dec b 0 0).2 ≤ b.length := by
    rcases dec_some b 0 0 _ _ hb (rfl : dec b 0 0 = ((dec b 0 0).1, (dec b 0 0).2)) with h | ⟨n, r, h1, h2, h3, _, h5, _⟩
    · omega
    · have := congrArg List.length h1
      simp only [List.length_append] at this
      omega
  unfold decI at ht
  obtain ⟨n, hne⟩ : ∃ n, n = (dec b 0 0).1 := ⟨_, rfl⟩
  obtain ⟨k, hke⟩ : ∃ k, k = (dec b 0 0).2 := ⟨_, rfl⟩
  rw [← hne, ← hke] at ht hn
  rw [← hke] at hk hk0
  rw [← hne] at hn1 hlim
  have t0 : ((k : Int) == 0) = false := beq_eq_false_iff_ne.mpr (by omega)
  have t1 : (n : Int) ≤ 9223372036854775807 := by omega
  have t2 : (0 : Int) ≤ n := by omega
  have t3 : limit ≤ 0 ∨ (0 < limit ∧ (n : Int) < limit) := by omega
  have t4 : (k : Int) ≤ b.length := by omega
  have hl1 := hl.1
  have hl2 := hl.2
  have hc0 : w.cell? ⟨g, 0, none⟩ = some (.slice A b.length c) := by rw [blk_cell hh]; rfl
  have HT := Aside0.mk ht
  have HN := Aside0.mk hn
  have HH := Aside0.mk hh
  have HC := Aside0.mk hC
  have HB := Aside0.mk hB
  have HG := Aside0.mk hg
  have HCC := Aside0.mk hc
  have HKL := Aside0.mk hk
  clear ht hn hh hC hB hg hc hne hke hb hk hl hs hk0 hn1 hlim
  go_enter Try.func27, Try.ntmps27
  go_wp2_with fail
  refine HT.out.mono ?_
  rintro e w1 ⟨rfl, hb1⟩
  clear hc0
  have HH1 := Aside0.mk (blk_below HH.out hb1)
  have HB1 := Aside0.mk (below_then HB.out HB.out.size hb1)
  have HK1 := Aside0.mk (KeepBut.of_below hb1 g none)
  have hc0 : w1.cell? ⟨g, 0, none⟩ = some (.slice A b.length c) := by rw [blk_cell HH1.out]; rfl
  have hc1 : w1.cell? ⟨g, 1, none⟩ = some (.bool false) := by rw [blk_cell HH1.out]; rfl
  have hf0 := blk_frozen HH1.out 0
  clear hb1
  obtain ⟨A', c', hcut, hcl, hA⟩ := cut_from_ex (Kd.int .u8) 34 5 (Value.int .u8 0) 1 Try.underlying34 (by kernel_rfl) A c b (k : Int) (by omega) t4 HCC.out
  rw [Int.toNat_natCast] at hcut hcl hA
  obtain ⟨d, hd⟩ : ∃ d, d = b.drop k := ⟨_, rfl⟩
  rw [← hd] at hcut hcl hA
  rw [← hd] at HN
  clear hd
  have HCL := Aside0.mk hcl
  have HA := Aside0.mk hA
  clear hcl hA
  have fin : ∀ v : Value, v = .int .i64 n → NumPost w0 w g b false limit (.returned v) (w1.setCell ⟨g, 0, none⟩ (.slice A' d.length c')) := by
    intro v hv
    have h1 := HK1.out.set_ 0 (.slice A' d.length c')
    refine ⟨by rw [hv, HN.out], ?_, h1⟩
    rw [HN.out]
    exact ⟨HG.out, below_set HB1.out HG.out, A', c', (blk_put HH1.out 0 _ rfl), HCL.out, fun W hW => HA.out W (HC.out W (h1.trans hW (.inl rfl)))⟩
  have FIN := Aside0.mk fin
  clear fin
  rcases t3 with t3 | ⟨t3, t5⟩
  · go_wp2
    go_ret
    exact FIN.out _ rfl
  · have h0 : 0 ≤ limit := by omega
    go_wp2
    go_ret
    exact FIN.out _ rfl
theorem numR_bad {b : List Int} {bad : Bool} {limit : Int} (h : bad = true ∨ (dec b 0 0).2 = 0 ∨ 9223372036854775807 < (dec b 0 0).1 ∨ (0 < limit ∧ limit ≤ ((dec b 0 0).1 : Int))) : numR b bad limit = (0, b, true) := by unfold numR; rw [if_pos h]
theorem num_c (w0 w : World) (g : Nat) (b : List Int) (bad : Bool) (limit : Int) (h : RS w0 w g b bad) (hb : ∀ x ∈ b, 0 ≤ x ∧ x < 256) (hs : b.length < 1000000000000) (hl : -9223372036854775808 ≤ limit ∧ limit ≤ 9223372036854775807) :
    Calls Try.prog 27 #[.pointer (some ⟨g, 0, none⟩), .int .i64 limit] w (NumPost w0 w g b bad limit) := by
  by_cases h2 : bad = true ∨ (dec b 0 0).2 = 0 ∨ 9223372036854775807 < (dec b 0 0).1 ∨ (0 < limit ∧ limit ≤ ((dec b 0 0).1 : Int))
  · exact num_bad w0 w g b bad limit h hb hs hl h2
  · have hbad : bad = false := by cases bad with
      | true => exact absurd (.inl rfl) h2
      | false => rfl
    subst hbad
    exact num_good w0 w g b limit h hb hs hl (fun h3 => h2 (.inr (.inl h3))) (Nat.le_of_not_lt fun h3 => h2 (.inr (.inr (.inl h3)))) (fun h3 => h2 (.inr (.inr (.inr h3))))

/-- The limit that Text hands on: the sum of the greatest number and 1 is the least one. -/
def lim1 (most : Int) : Int := if 0 < most then (if most = 9223372036854775807 then -9223372036854775808 else most + 1) else 1
/-- What Text tells, and leaves. -/
def textR (b : List Int) (bad : Bool) (most : Int) : List Int × List Int × Bool :=
  if (numR b bad (lim1 most)).2.2 = true ∨ ((numR b bad (lim1 most)).2.1.length : Int) < (numR b bad (lim1 most)).1 then ([], (numR b bad (lim1 most)).2.1, true)
  else ((numR b bad (lim1 most)).2.1.take (numR b bad (lim1 most)).1.toNat, (numR b bad (lim1 most)).2.1.drop (numR b bad (lim1 most)).1.toNat, false)
def TextPost (w0 w : World) (g : Nat) (b : List Int) (bad : Bool) (most : Int) (e : Ending) (w' : World) : Prop :=
  e = .returned (.string (strOfNums (textR b bad most).1)) ∧ RS w0 w' g (textR b bad most).2.1 (textR b bad most).2.2 ∧ KeepBut w w' g none
theorem numR_pos (b : List Int) (bad : Bool) (limit : Int) : 0 ≤ (numR b bad limit).1 := by unfold numR; split <;> simp
set_option maxHeartbeats 800000 in
set_option maxRecDepth 100000 in
theorem text_c (w0 w : World) (g : Nat) (b : List Int) (bad : Bool) (most : Int) (h : RS w0 w g b bad) (hb : ∀ x ∈ b, 0 ≤ x ∧ x < 256) (hs : b.length < 1000000000000) (hl : -9223372036854775808 ≤ most ∧ most ≤ 9223372036854775807) :
    Calls Try.prog 28 #[.pointer (some ⟨g, 0, none⟩), .int .i64 most] w (TextPost w0 w g b bad most) := by
  have hn0 := numR_pos b bad (lim1 most)
  have hL : -9223372036854775808 ≤ lim1 most ∧ lim1 most ≤ 9223372036854775807 := by unfold lim1; split <;> (try split) <;> omega
  have hnum : ∀ L, L = lim1 most → Calls Try.prog 27 #[.pointer (some ⟨g, 0, none⟩), .int .i64 L] w (NumPost w0 w g b bad (lim1 most)) := by
    rintro _ rfl
    exact num_c w0 w g b bad (lim1 most) h hb hs hL
  unfold NumPost at hnum
  have hT : textR b bad most = textR b bad most := rfl
  conv at hT => rhs; unfold textR
  obtain ⟨n, hn⟩ : ∃ n, n = (numR b bad (lim1 most)).1 := ⟨_, rfl⟩
  obtain ⟨b1, hb1⟩ : ∃ b1, b1 = (numR b bad (lim1 most)).2.1 := ⟨_, rfl⟩
  obtain ⟨bad1, hbad1⟩ : ∃ bad1, bad1 = (numR b bad (lim1 most)).2.2 := ⟨_, rfl⟩
  rw [← hn, ← hb1, ← hbad1] at hnum hT
  rw [← hn] at hn0
  have HT := Aside0.mk hnum
  have t1 : most ≤ 0 ∨ (0 < most ∧ most < 9223372036854775807) ∨ most = 9223372036854775807 := by omega
  have e1 : most ≤ 0 → 1 = lim1 most := fun h => by unfold lim1; rw [if_neg (by omega)]
  have e2 : 0 < most ∧ most < 9223372036854775807 → most + 1 = lim1 most := fun h => by unfold lim1; rw [if_pos h.1, if_neg (by omega)]
  have e3 : wrap64 9223372036854775808 = lim1 9223372036854775807 := by unfold lim1 wrap64; simp
  have E1 := Aside0.mk e1
  have E2 := Aside0.mk e2
  have E3 := Aside0.mk e3
  have HR := Aside0.mk hT
  have hl1 := hl.1
  have hl2 := hl.2
  clear hnum h hb hs hL hl hn hb1 hbad1 e1 e2 e3 hT
  go_enter Try.func28, Try.ntmps28
  rcases t1 with t1 | ⟨t1, t2⟩ | rfl
  · go_wp2_with fail
    refine (HT.out _ (E1.out t1)).mono ?_
    clear HT E1 E2 E3
    rintro e w1 ⟨rfl, ⟨hg, hB1, A, c, hh1, hc, hC⟩, hk⟩
    have HH1 := Aside0.mk hh1
    have HB1 := Aside0.mk hB1
    have HK1 := Aside0.mk hk
    have HG := Aside0.mk hg
    have HCC := Aside0.mk hc
    have HC := Aside0.mk hC
    have hc0 : w1.cell? ⟨g, 0, none⟩ = some (.slice A b1.length c) := by rw [blk_cell hh1]; rfl
    have hc1 : w1.cell? ⟨g, 1, none⟩ = some (.bool bad1) := by rw [blk_cell hh1]; rfl
    have hf0 := blk_frozen hh1 0
    have hf1 := blk_frozen hh1 1
    clear hg hB1 hh1 hc hC hk
    by_cases h2 : bad1 = true ∨ (b1.length : Int) < n
    · have fin : ∀ v : Value, v = .string "".toUTF8 → TextPost w0 w g b bad most (.returned v) (w1.setCell ⟨g, 1, none⟩ (.bool true)) := by
        intro v hv
        have h1 := rs_bad HG.out HB1.out (KeepBut.refl w1 g none) HH1.out HCC.out HC.out true
        have h3 := HR.out
        rw [if_pos h2] at h3
        refine ⟨by rw [hv, h3]; rfl, ?_, HK1.out.trans h1.2 (.inl rfl)⟩
        rw [h3]
        exact h1.1
      have FIN := Aside0.mk fin
      clear fin
      have h4 : bad1 = true ∨ (bad1 = false ∧ (b1.length : Int) < n) := by
        cases bad1 with
        | true => exact .inl rfl
        | false => exact .inr ⟨rfl, by simpa using h2⟩
      clear h2
      rcases h4 with rfl | ⟨rfl, h4⟩
      · go_wp2
        go_ret
        exact FIN.out _ rfl
      · go_wp2
        go_ret
        exact FIN.out _ rfl
    · have h3 := HR.out
      rw [if_neg h2] at h3
      have HR3 := Aside0.mk h3
      clear h3 HR
      have hbd : bad1 = false := by cases bad1 with
        | true => exact absurd (.inl rfl) h2
        | false => rfl
      subst hbd
      have h4 : n ≤ b1.length := Int.not_lt.1 (fun h => h2 (.inr h))
      clear h2
      obtain ⟨hcut1, hcl1, hA1⟩ := cut_to_ex (Kd.int .u8) 34 5 (Value.int .u8 0) 1 Try.underlying34 (by kernel_rfl) A c b1 n hn0 h4 HCC.out
      obtain ⟨A', c', hcut, hcl, hA⟩ := cut_from_ex (Kd.int .u8) 34 5 (Value.int .u8 0) 1 Try.underlying34 (by kernel_rfl) A c b1 n hn0 h4 HCC.out
      obtain ⟨d, hd⟩ : ∃ d, d = b1.drop n.toNat := ⟨_, rfl⟩
      obtain ⟨t, ht⟩ : ∃ t, t = b1.take n.toNat := ⟨_, rfl⟩
      rw [← hd] at hcut hcl hA HR3
      rw [← ht] at hcut1 hcl1 hA1 HR3
      clear hd ht
      have HCL := Aside0.mk hcl
      have HA := Aside0.mk hA
      have HA1 := Aside0.mk hA1
      clear hcl hA hA1
      have hcv : (convert 34 9 (.slice A t.length c)).run Try.prog w1 = .ok (.string (strOfNums t)) w1 := Kd.C_string (P := Try.prog) (src := 34) (dst := 9) (e := 5) (c := c) Try.underlying34 Try.underlying5 Try.underlying9 (HA1.out w1 (HC.out w1 (KeepBut.refl _ _ _)))
      go_wp2
      go_ret
      have h1 := (KeepBut.refl w1 g none).set_ 0 (.slice A' d.length c')
      refine ⟨by rw [HR3.out]; rfl, ?_, HK1.out.trans h1 (.inl rfl)⟩
      rw [HR3.out]
      exact ⟨HG.out, below_set HB1.out HG.out, A', c', (blk_put HH1.out 0 _ rfl), HCL.out, fun W hW => HA.out W (HC.out W (h1.trans hW (.inl rfl)))⟩
  · go_wp2_with fail
    refine (HT.out _ (E2.out ⟨t1, t2⟩)).mono ?_
    clear HT E1 E2 E3
    rintro e w1 ⟨rfl, ⟨hg, hB1, A, c, hh1, hc, hC⟩, hk⟩
    have HH1 := Aside0.mk hh1
    have HB1 := Aside0.mk hB1
    have HK1 := Aside0.mk hk
    have HG := Aside0.mk hg
    have HCC := Aside0.mk hc
    have HC := Aside0.mk hC
    have hc0 : w1.cell? ⟨g, 0, none⟩ = some (.slice A b1.length c) := by rw [blk_cell hh1]; rfl
    have hc1 : w1.cell? ⟨g, 1, none⟩ = some (.bool bad1) := by rw [blk_cell hh1]; rfl
    have hf0 := blk_frozen hh1 0
    have hf1 := blk_frozen hh1 1
    clear hg hB1 hh1 hc hC hk
    by_cases h2 : bad1 = true ∨ (b1.length : Int) < n
    · have fin : ∀ v : Value, v = .string "".toUTF8 → TextPost w0 w g b bad most (.returned v) (w1.setCell ⟨g, 1, none⟩ (.bool true)) := by
        intro v hv
        have h1 := rs_bad HG.out HB1.out (KeepBut.refl w1 g none) HH1.out HCC.out HC.out true
        have h3 := HR.out
        rw [if_pos h2] at h3
        refine ⟨by rw [hv, h3]; rfl, ?_, HK1.out.trans h1.2 (.inl rfl)⟩
        rw [h3]
        exact h1.1
      have FIN := Aside0.mk fin
      clear fin
      have h4 : bad1 = true ∨ (bad1 = false ∧ (b1.length : Int) < n) := by
        cases bad1 with
        | true => exact .inl rfl
        | false => exact .inr ⟨rfl, by simpa using h2⟩
      clear h2
      rcases h4 with rfl | ⟨rfl, h4⟩
      · go_wp2
        go_ret
        exact FIN.out _ rfl
      · go_wp2
        go_ret
        exact FIN.out _ rfl
    · have h3 := HR.out
      rw [if_neg h2] at h3
      have HR3 := Aside0.mk h3
      clear h3 HR
      have hbd : bad1 = false := by cases bad1 with
        | true => exact absurd (.inl rfl) h2
        | false => rfl
      subst hbd
      have h4 : n ≤ b1.length := Int.not_lt.1 (fun h => h2 (.inr h))
      clear h2
      obtain ⟨hcut1, hcl1, hA1⟩ := cut_to_ex (Kd.int .u8) 34 5 (Value.int .u8 0) 1 Try.underlying34 (by kernel_rfl) A c b1 n hn0 h4 HCC.out
      obtain ⟨A', c', hcut, hcl, hA⟩ := cut_from_ex (Kd.int .u8) 34 5 (Value.int .u8 0) 1 Try.underlying34 (by kernel_rfl) A c b1 n hn0 h4 HCC.out
      obtain ⟨d, hd⟩ : ∃ d, d = b1.drop n.toNat := ⟨_, rfl⟩
      obtain ⟨t, ht⟩ : ∃ t, t = b1.take n.toNat := ⟨_, rfl⟩
      rw [← hd] at hcut hcl hA HR3
      rw [← ht] at hcut1 hcl1 hA1 HR3
      clear hd ht
      have HCL := Aside0.mk hcl
      have HA := Aside0.mk hA
      have HA1 := Aside0.mk hA1
      clear hcl hA hA1
      have hcv : (convert 34 9 (.slice A t.length c)).run Try.prog w1 = .ok (.string (strOfNums t)) w1 := Kd.C_string (P := Try.prog) (src := 34) (dst := 9) (e := 5) (c := c) Try.underlying34 Try.underlying5 Try.underlying9 (HA1.out w1 (HC.out w1 (KeepBut.refl _ _ _)))
      go_wp2
      go_ret
      have h1 := (KeepBut.refl w1 g none).set_ 0 (.slice A' d.length c')
      refine ⟨by rw [HR3.out]; rfl, ?_, HK1.out.trans h1 (.inl rfl)⟩
      rw [HR3.out]
      exact ⟨HG.out, below_set HB1.out HG.out, A', c', (blk_put HH1.out 0 _ rfl), HCL.out, fun W hW => HA.out W (HC.out W (h1.trans hW (.inl rfl)))⟩
  · go_wp2_with fail
    refine (HT.out _ E3.out).mono ?_
    clear HT E1 E2 E3
    rintro e w1 ⟨rfl, ⟨hg, hB1, A, c, hh1, hc, hC⟩, hk⟩
    have HH1 := Aside0.mk hh1
    have HB1 := Aside0.mk hB1
    have HK1 := Aside0.mk hk
    have HG := Aside0.mk hg
    have HCC := Aside0.mk hc
    have HC := Aside0.mk hC
    have hc0 : w1.cell? ⟨g, 0, none⟩ = some (.slice A b1.length c) := by rw [blk_cell hh1]; rfl
    have hc1 : w1.cell? ⟨g, 1, none⟩ = some (.bool bad1) := by rw [blk_cell hh1]; rfl
    have hf0 := blk_frozen hh1 0
    have hf1 := blk_frozen hh1 1
    clear hg hB1 hh1 hc hC hk
    by_cases h2 : bad1 = true ∨ (b1.length : Int) < n
    · have fin : ∀ v : Value, v = .string "".toUTF8 → TextPost w0 w g b bad 9223372036854775807 (.returned v) (w1.setCell ⟨g, 1, none⟩ (.bool true)) := by
        intro v hv
        have h1 := rs_bad HG.out HB1.out (KeepBut.refl w1 g none) HH1.out HCC.out HC.out true
        have h3 := HR.out
        rw [if_pos h2] at h3
        refine ⟨by rw [hv, h3]; rfl, ?_, HK1.out.trans h1.2 (.inl rfl)⟩
        rw [h3]
        exact h1.1
      have FIN := Aside0.mk fin
      clear fin
      have h4 : bad1 = true ∨ (bad1 = false ∧ (b1.length : Int) < n) := by
        cases bad1 with
        | true => exact .inl rfl
        | false => exact .inr ⟨rfl, by simpa using h2⟩
      clear h2
      rcases h4 with rfl | ⟨rfl, h4⟩
      · go_wp2
        go_ret
        exact FIN.out _ rfl
      · go_wp2
        go_ret
        exact FIN.out _ rfl
    · have h3 := HR.out
      rw [if_neg h2] at h3
      have HR3 := Aside0.mk h3
      clear h3 HR
      have hbd : bad1 = false := by cases bad1 with
        | true => exact absurd (.inl rfl) h2
        | false => rfl
      subst hbd
      have h4 : n ≤ b1.length := Int.not_lt.1 (fun h => h2 (.inr h))
      clear h2
      obtain ⟨hcut1, hcl1, hA1⟩ := cut_to_ex (Kd.int .u8) 34 5 (Value.int .u8 0) 1 Try.underlying34 (by kernel_rfl) A c b1 n hn0 h4 HCC.out
      obtain ⟨A', c', hcut, hcl, hA⟩ := cut_from_ex (Kd.int .u8) 34 5 (Value.int .u8 0) 1 Try.underlying34 (by kernel_rfl) A c b1 n hn0 h4 HCC.out
      obtain ⟨d, hd⟩ : ∃ d, d = b1.drop n.toNat := ⟨_, rfl⟩
      obtain ⟨t, ht⟩ : ∃ t, t = b1.take n.toNat := ⟨_, rfl⟩
      rw [← hd] at hcut hcl hA HR3
      rw [← ht] at hcut1 hcl1 hA1 HR3
      clear hd ht
      have HCL := Aside0.mk hcl
      have HA := Aside0.mk hA
      have HA1 := Aside0.mk hA1
      clear hcl hA hA1
      have hcv : (convert 34 9 (.slice A t.length c)).run Try.prog w1 = .ok (.string (strOfNums t)) w1 := Kd.C_string (P := Try.prog) (src := 34) (dst := 9) (e := 5) (c := c) Try.underlying34 Try.underlying5 Try.underlying9 (HA1.out w1 (HC.out w1 (KeepBut.refl _ _ _)))
      go_wp2
      go_ret
      have h1 := (KeepBut.refl w1 g none).set_ 0 (.slice A' d.length c')
      refine ⟨by rw [HR3.out]; rfl, ?_, HK1.out.trans h1 (.inl rfl)⟩
      rw [HR3.out]
      exact ⟨HG.out, below_set HB1.out HG.out, A', c', (blk_put HH1.out 0 _ rfl), HCL.out, fun W hW => HA.out W (HC.out W (h1.trans hW (.inl rfl)))⟩

set_option maxHeartbeats 400000 in
theorem good_c (w0 w : World) (g : Nat) (b : List Int) (bad : Bool) (h : RS w0 w g b bad) :
    Calls Try.prog 21 #[.pointer (some ⟨g, 0, none⟩)] w fun e w' => e = .returned (.bool (!bad)) ∧ Below w.heap.size w w' := by
  obtain ⟨hg, hB, A, c, hh, hc, hC⟩ := h
  have hc1 : w.cell? ⟨g, 1, none⟩ = some (.bool bad) := by rw [blk_cell hh]; rfl
  clear hg hB hh hc hC
  go_enter Try.func21, Try.ntmps21
  go_wp2
  go_ret
  exact ⟨rfl, Below.refl _ _⟩
set_option maxHeartbeats 400000 in
theorem done_c (w0 w : World) (g : Nat) (b : List Int) (bad : Bool) (h : RS w0 w g b bad) :
    Calls Try.prog 22 #[.pointer (some ⟨g, 0, none⟩)] w fun e w' => e = .returned (.bool (!bad && decide (b.length = 0))) ∧ Below w.heap.size w w' := by
  obtain ⟨hg, hB, A, c, hh, hc, hC⟩ := h
  have hc1 : w.cell? ⟨g, 1, none⟩ = some (.bool bad) := by rw [blk_cell hh]; rfl
  have hc0 : w.cell? ⟨g, 0, none⟩ = some (.slice A b.length c) := by rw [blk_cell hh]; rfl
  clear hg hB hh hc hC
  go_enter Try.func22, Try.ntmps22
  cases bad with
  | true =>
    go_wp2
    go_ret
    exact ⟨rfl, Below.refl _ _⟩
  | false =>
    have h1 : ((b.length : Int) == 0) = decide (b.length = 0) := by
      by_cases h : b.length = 0
      · rw [h]; rfl
      · rw [decide_eq_false h]; exact beq_eq_false_iff_ne.mpr (by omega)
    have H1 := Aside0.mk h1
    clear h1
    go_wp2
    go_ret
    exact ⟨congrArg (fun x => Ending.returned (.bool x)) (H1.out.trans (Bool.true_and _).symm), Below.refl _ _⟩
set_option maxHeartbeats 400000 in
theorem of_c (A : Option Addr) (c : Nat) (b : List Int) (w : World) (hC : Kd.C (Kd.int .u8) w A b.length b) (hc : b.length ≤ c) :
    Calls Try.prog 19 #[.slice A b.length c] w fun e w' => ∃ g : Nat, e = .returned (.pointer (some ⟨g, 0, none⟩)) ∧ RS w w' g b false ∧ Below w.heap.size w w' := by
  have hu := Try.underlying48
  have HC := Aside0.mk hC
  have HCC := Aside0.mk hc
  clear hC hc
  go_enter Try.func19, Try.ntmps19
  go_wp2
  go_ret
  have hb := below_alloc (Below.refl w.heap.size w) (.cells #[.slice A b.length c, .bool false] 48)
  exact ⟨w.heap.size, rfl, ⟨Nat.le_refl _, hb, A, c, blk_new w _, HCC.out, Kd.C_foot_came (Kd.heap_int _) HC.out hb (Nat.le_refl _)⟩, hb⟩
set_option maxHeartbeats 800000 in
set_option maxRecDepth 100000 in
theorem puttext_c (P0 : Nat → Prop) (v : Value) (x0 : List Int) (s : ByteArray) (w0 w : World) (hB : Below w0.heap.size w0 w) (ho : Kd.R (Kd.int .u8) 5 w w0.heap.size P0 v x0)
    (hs : s.size < 1000000000000) (h0 : x0.length ≤ 1000000000000) :
    Calls Try.prog 26 #[v, .string s] w fun e w' => ∃ v0 : Value, e = .returned v0 ∧ Kd.R (Kd.int .u8) 5 w' w0.heap.size (fun _ => True) v0 (x0 ++ (enc s.size ++ bytesOf s)) ∧ Below w0.heap.size w0 w' ∧ Kept w w' P0 := by
  have ho1 : Kd.R (Kd.int .u8) 5 w w0.heap.size (fun k => P0 k ∧ k < w.heap.size) v x0 := Kd.R_mono (Kd.R_bound ho) (fun k hk => ⟨hk.1, hk.2.2.1⟩)
  have HO := Aside0.mk ho1
  have HB := Aside0.mk hB
  have HLEN := Aside0.mk (enc_len10 s.size (by omega))
  have HX0 := Aside0.mk h0
  have hs0 : (0 : Int) ≤ s.size := by omega
  have hs1 : (s.size : Int) < 1000000000000 := by omega
  clear ho ho1 hB h0 hs
  go_enter Try.func26, Try.ntmps26
  go_wp2_with fail
  have hlit := lit_R w w.heap.size 45 .u64 (fun k => k = w.heap.size) [(s.size : Int)] (Nat.le_refl _) rfl (by simp)
  refine (put_c (fun k => P0 k ∧ k < w.heap.size) v x0 (some ⟨w.heap.size, 0, none⟩) 1 [(s.size : Int)] w0 _ (below_alloc HB.out _) (Kd.R_alloc HO.out _) (Kd.C_kept_own hlit (fun k hk hk2 => by omega)) (by simp) (by simp; omega) (by simp) HX0.out).mono ?_
  rintro e w1 ⟨v1, rfl, hro, hb1, hk1⟩
  rw [encs_one] at hro
  have HK1 := Aside0.mk ((Kept.alloc (Kept.refl w P0) _).then_ hk1 (fun k hk => .inl hk.1))
  have hsz : w.heap.size ≤ w1.heap.size := HK1.out.1
  have HO1 := Aside0.mk (Kd.R_mono (ok' := fun k => P0 k ∨ w.heap.size ≤ k) hro (fun k hk => hk.elim (fun h => .inl h.1) (fun h => .inr (by simp at h; omega))))
  have HB1 := Aside0.mk hb1
  have HSZ := Aside0.mk hsz
  clear hlit hro hb1 hk1 hsz HO HB
  obtain ⟨x1, hx1⟩ : ∃ x1, x1 = x0 ++ enc s.size := ⟨_, rfl⟩
  rw [← hx1] at HO1
  have HL1 := Aside0.mk (show x1.length + s.size ≤ 140737488355328 by rw [hx1, List.length_append]; have := HLEN.out; have := HX0.out; omega)
  have HX1 := Aside0.mk (show x0 ++ (enc s.size ++ bytesOf s) = x1 ++ bytesOf s by rw [hx1, List.append_assoc])
  clear hx1
  go_wp2_with (first
    | (at_builtin; refine print_append_str (w0 := w0) w0.heap.size rfl (.tmp 10) _ 34 9 5 rfl Try.underlying34 Try.underlying9 info_u8 v1 x1 s rfl rfl (Kd.own_of_R HO1.out) HB1.out HB1.out.size HL1.out ?_; intro v2 w2 ho0 hb hg; have ho := Kd.R_of_own (h1 := fun _ => rfl) (ok := fun _ => True) ho0 (fun _ _ => trivial); rw [← HX1.out] at ho; have HO2 := Aside0.mk ho; have HB2 := Aside0.mk hb; have HK2 := Aside0.mk (Kept.of_grown hg HK1.out (fun k e_ => HO1.out.1 k e_)); clear ho0 ho hb hg)
    | fail)
  go_ret
  exact ⟨_, rfl, HO2.out, HB2.out, HK2.out⟩
/-- Put of numbers that stand in the call: their row is new. -/
theorem put_lit (v : Value) (x0 xs : List Int) (P0 : Nat → Prop) (w0 w : World) (hB : Below w0.heap.size w0 w) (ho : Kd.R (Kd.int .u8) 5 w w0.heap.size P0 v x0) (hl : ∀ x ∈ xs, 0 ≤ x ∧ x < 18446744073709551616) (hs : xs.length < 1000000000000) (h0 : x0.length ≤ 1000000000000) :
    Calls Try.prog 25 #[v, .slice (some ⟨w.heap.size, 0, none⟩) xs.length xs.length] (w.alloc (.cells (nums .u64 xs).toArray 45)) fun e w' => ∃ v0 : Value, e = .returned v0 ∧ Kd.R (Kd.int .u8) 5 w' w0.heap.size (fun k => P0 k ∨ w.heap.size ≤ k) v0 (x0 ++ encs xs) ∧ Below w0.heap.size w0 w' ∧ Kept w w' P0 := by
  have hlit := lit_R w w.heap.size 45 .u64 (fun k => k = w.heap.size) xs (Nat.le_refl _) rfl (by omega)
  refine (put_c (fun k => P0 k ∧ k < w.heap.size) v x0 (some ⟨w.heap.size, 0, none⟩) xs.length xs w0 _ (below_alloc hB _) (Kd.R_alloc (Kd.R_mono (Kd.R_bound ho) (fun k hk => ⟨hk.1, hk.2.2.1⟩)) _) (Kd.C_kept_own hlit (fun k hk hk2 => by omega)) (Nat.le_refl _) hl hs h0).mono ?_
  rintro e w1 ⟨v1, rfl, hro, hb1, hk1⟩
  exact ⟨v1, rfl, Kd.R_mono hro (fun k hk => hk.elim (fun h => .inl h.1) (fun h => .inr (by simp at h; omega))), hb1, (Kept.alloc (Kept.refl w P0) _).then_ hk1 (fun k hk => .inl hk.1)⟩
end Go.Proofs.Ytbofeaclgnekkaa.Reader
