/- unicode/utf8.DecodeRune as a contract: the rune that bytes begin with, and how many bytes it has; the library's two tables hold what their texts lay. -/
import Derived.Test.YtkdkajcokoggiaaDoorUtfFull
namespace Go.Proofs.YtkdkajcokoggiaaDoor.UtfDec
open Go.RowKit Go.Proofs.YtkdkajcokoggiaaDoor.Kit Go.Proofs.YtkdkajcokoggiaaDoor.Plain Go.Proofs.YtkdkajcokoggiaaDoor.Mine Go.Proofs.YtkdkajcokoggiaaDoor.UtfPure Go.Proofs.YtkdkajcokoggiaaDoor.UtfFull Go.Proofs.YtkdkajcokoggiaaDoorW.PrintWords Go.Proofs.YtkdkajcokoggiaaDoorW.PrintLast Go.Proofs.YtkdkajcokoggiaaDoorW.PrintMore
open Go.Lib (firstT accLo accHi Utf8Tabs firstT_cases slowN decodeN)
set_option linter.unusedVariables false
set_option linter.unusedSimpArgs false
theorem ret_pair {a b : Int} {c d : Int} (h : a = c) (h2 : b = d) : Ending.returned (.tuple #[.int .i32 a, .int .i64 b]) = .returned (.tuple #[.int .i32 c, .int .i64 d]) := by rw [h, h2]
set_option maxHeartbeats 3200000 in
set_option maxRecDepth 100000 in
theorem slow_c (A : Option Addr) (c : Nat) (b : List Int) (w : World) (hT : Utf8Tabs 0 1 w) (hr : Kd.C (Kd.int .u8) w A b.length b) (hb : Bytes b) (hn : 0 < b.length) (hna : 128 ≤ bya b 0) :
    Calls Tryd.prog 46 #[.slice A b.length c] w fun e w' => e = .returned (.tuple #[.int .i32 ((dec1 b).1 : Int), .int .i64 ((dec1 b).2 : Int)]) ∧ Below w.heap.size w w' := by
  obtain ⟨ad, rfl, hc0'⟩ := at_byte hr hb 0 hn
  have hc0 : w.cell? ad = some (.int .u8 (bya b 0 : Int)) := hc0'
  clear hc0'
  have hdc := dec_cases b.length (bya b 0) (bya b 1) (bya b 2) (bya b 3) hn (bya_lt hb 0) (bya_lt hb 1) (bya_lt hb 2) (bya_lt hb 3)
  have hde : dec1 b = decodeN b.length (bya b 0) (bya b 1) (bya b 2) (bya b 3) := rfl
  rw [← hde] at hdc
  have HB1 := Aside0.mk (fun h => at_byte1 hr hb 1 h (by omega))
  have HB2 := Aside0.mk (fun h => at_byte1 hr hb 2 h (by omega))
  have HB3 := Aside0.mk (fun h => at_byte1 hr hb 3 h (by omega))
  have l0 := bya_lt hb 0
  have l1 := bya_lt hb 1
  have l2 := bya_lt hb 2
  have l3 := bya_lt hb 3
  obtain ⟨n0, hn0⟩ : ∃ n0, n0 = bya b 0 := ⟨_, rfl⟩
  obtain ⟨b1, hb1⟩ : ∃ b1, b1 = bya b 1 := ⟨_, rfl⟩
  obtain ⟨b2, hb2⟩ : ∃ b2, b2 = bya b 2 := ⟨_, rfl⟩
  obtain ⟨b3, hb3⟩ : ∃ b3, b3 = bya b 3 := ⟨_, rfl⟩
  rw [← hn0] at hc0 l0 hdc hna
  rw [← hb1] at HB1 l1 hdc
  rw [← hb2] at HB2 l2 hdc
  rw [← hb3] at HB3 l3 hdc
  have hf := hT.1 n0 l0
  have hX := firstT_lt n0
  obtain ⟨X, hXX⟩ : ∃ X, X = firstT n0 := ⟨_, rfl⟩
  have hl3 := low3 X (by omega)
  rw [← hXX] at hf hX hdc
  have hk : (X : Int) / 16 = ((X / 16 : Nat) : Int) := by omega
  obtain ⟨k, hkk⟩ : ∃ k, k = X / 16 := ⟨_, rfl⟩
  rw [← hkk] at hk hdc
  obtain ⟨ha0', ha1'⟩ := hT.2 k (by omega)
  have ha0 : w.cell? ⟨1, k * 2, none⟩ = some (.int .u8 (accLo k : Int)) := by rw [Nat.mul_comm]; exact ha0'
  have ha1 : w.cell? ⟨1, k * 2 + 1, none⟩ = some (.int .u8 (accHi k : Int)) := by rw [Nat.mul_comm]; exact ha1'
  clear ha0' ha1'
  have hnI : (0 : Int) < b.length := by omega
  have hn1 : ¬ ((b.length : Int) < 1) := by omega
  have hsz : (b.length : Int) ≤ 9223372036854775807 := by have := hr.2.1; omega
  obtain ⟨s, hs⟩ : ∃ s, s = X % 8 := ⟨_, rfl⟩
  rw [← hs] at hl3 hdc
  obtain ⟨lo, hlo⟩ : ∃ lo, lo = accLo k := ⟨_, rfl⟩
  obtain ⟨hi, hhi⟩ : ∃ hi, hi = accHi k := ⟨_, rfl⟩
  rw [← hlo] at ha0 hdc
  rw [← hhi] at ha1 hdc
  obtain ⟨D, hD⟩ : ∃ D, D = dec1 b := ⟨_, rfl⟩
  rw [← hD] at hdc ⊢
  have L0 : (n0 : Int) < 256 := by omega
  have L1 : (b1 : Int) < 256 := by omega
  have L2 : (b2 : Int) < 256 := by omega
  have L3 : (b3 : Int) < 256 := by omega
  have LX : (X : Int) < 256 := by omega
  clear hr hT hn0 hb1 hb2 hb3 hXX hkk hs hlo hhi hD hde hb l0 l1 l2 l3 hX
  rcases hdc with ⟨_, h, _⟩ | ⟨hx, _, e⟩ | ⟨hx, _, hs2, hs4, hlo, hhi, e⟩
  · omega
  · subst e
    subst hx
    clear hl3 hk ha0 ha1 hna hn
    go_enter Tryd.func46, Tryd.ntmps46
    go_wp2
    have e1 := Go.Proofs.Utf8W.drop_byte ⟨n0, by omega⟩
    have e2 := Go.Proofs.Utf8W.mask241
    go_ret2
    refine ⟨ret_pair ?_ rfl, Below.refl _ _⟩
    first | (rw [e2]; exact e1) | exact e1 | (simp only [e2, e1]; done)
  · have hx' : (X : Int) < 240 := by omega
    have hs8 : (s : Int) < 8 := by omega
    have HE := Aside0.mk e
    have HS2 := Aside0.mk hs2
    have HS4 := Aside0.mk hs4
    have HLH := Aside0.mk (show 128 ≤ lo ∧ hi ≤ 191 from ⟨hlo, hhi⟩)
    have HNA := Aside0.mk hna
    clear hx e hs2 hs4 hlo hhi hna hn
    unfold slowN at HE
    by_cases h1 : b.length < s
    · have HD := Aside0.mk (show D = (65533, 1) from by rw [HE.out, if_pos h1])
      have t1 : (b.length : Int) < s := by omega
      clear h1
      go_enter Tryd.func46, Tryd.ntmps46
      go_wp2
      go_ret2
      exact ⟨by rw [HD.out]; rfl, below_alloc (Below.refl _ _) _⟩
    · have t1 : (s : Int) ≤ b.length := by omega
      have H1 := Aside0.mk h1
      have n1I : (1 : Int) < b.length := by have := HS2.out; omega
      obtain ⟨ad', e', hc1⟩ := HB1.out (by omega)
      cases e'
      have hd1 := ((below_alloc (Below.refl w.heap.size w) (.cells #[.int .u8 (lo : Int), .int .u8 (hi : Int)] 66)).cell (World.block_lt_of_cell? w _ hc1)).trans hc1
      clear hc1
      clear h1
      by_cases c1 : b1 < lo
      · have HD := Aside0.mk (show D = (65533, 1) from by rw [HE.out, if_neg H1.out, if_pos (.inl c1)])
        have q1 : (b1 : Int) < lo := by omega
        clear c1
        go_enter Tryd.func46, Tryd.ntmps46
        go_wp2
        go_ret2
        exact ⟨by rw [HD.out]; rfl, below_alloc (Below.refl _ _) _⟩
      · have q1 : (lo : Int) ≤ b1 := by omega
        by_cases c2 : hi < b1
        · have HD := Aside0.mk (show D = (65533, 1) from by rw [HE.out, if_neg H1.out, if_pos (.inr c2)])
          have q2 : (hi : Int) < b1 := by omega
          clear c1 c2
          go_enter Tryd.func46, Tryd.ntmps46
          go_wp2
          go_ret2
          exact ⟨by rw [HD.out]; rfl, below_alloc (Below.refl _ _) _⟩
        · have q2 : (b1 : Int) ≤ hi := by omega
          have HC1 := Aside0.mk (show ¬ (b1 < lo ∨ hi < b1) by omega)
          clear c1 c2
          by_cases s2 : s ≤ 2
          · have HD := Aside0.mk (show D = (n0 % 32 * 64 + b1 % 64, 2) from by rw [HE.out, if_neg H1.out, if_neg HC1.out, if_pos s2])
            have p2 : (s : Int) ≤ 2 := by omega
            clear s2
            go_enter Tryd.func46, Tryd.ntmps46
            go_wp2
            go_ret2
            exact ⟨by rw [HD.out]; exact ret_pair (by first | omega | (simp only [Int.natCast_add, Int.natCast_mul, Int.natCast_emod, Int.natCast_ofNat]; rfl)) rfl, below_alloc (Below.refl _ _) _⟩
          · have p2 : (2 : Int) < s := by omega
            have S2 := Aside0.mk s2
            have n2I : (2 : Int) < b.length := by omega
            obtain ⟨ad', e', hc2⟩ := HB2.out (by omega)
            cases e'
            have hd2 := ((below_alloc (Below.refl w.heap.size w) (.cells #[.int .u8 (lo : Int), .int .u8 (hi : Int)] 66)).cell (World.block_lt_of_cell? w _ hc2)).trans hc2
            clear hc2
            clear s2
            by_cases c3 : b2 < 128
            · have HD := Aside0.mk (show D = (65533, 1) from by rw [HE.out, if_neg H1.out, if_neg HC1.out, if_neg S2.out, if_pos (.inl c3)])
              have q3 : (b2 : Int) < 128 := by omega
              clear c3
              go_enter Tryd.func46, Tryd.ntmps46
              go_wp2
              go_ret2
              exact ⟨by rw [HD.out]; rfl, below_alloc (Below.refl _ _) _⟩
            · have q3 : (128 : Int) ≤ b2 := by omega
              by_cases c4 : 191 < b2
              · have HD := Aside0.mk (show D = (65533, 1) from by rw [HE.out, if_neg H1.out, if_neg HC1.out, if_neg S2.out, if_pos (.inr c4)])
                have q4 : (191 : Int) < b2 := by omega
                clear c3 c4
                go_enter Tryd.func46, Tryd.ntmps46
                go_wp2
                go_ret2
                exact ⟨by rw [HD.out]; rfl, below_alloc (Below.refl _ _) _⟩
              · have q4 : (b2 : Int) ≤ 191 := by omega
                have HC2 := Aside0.mk (show ¬ (b2 < 128 ∨ 191 < b2) by omega)
                clear c3 c4
                by_cases s3 : s ≤ 3
                · have HD := Aside0.mk (show D = (n0 % 16 * 4096 + b1 % 64 * 64 + b2 % 64, 3) from by rw [HE.out, if_neg H1.out, if_neg HC1.out, if_neg S2.out, if_neg HC2.out, if_pos s3])
                  have p3 : (s : Int) ≤ 3 := by omega
                  clear s3
                  go_enter Tryd.func46, Tryd.ntmps46
                  go_wp2
                  go_ret2
                  exact ⟨by rw [HD.out]; exact ret_pair (by first | omega | (simp only [Int.natCast_add, Int.natCast_mul, Int.natCast_emod, Int.natCast_ofNat]; rfl)) rfl, below_alloc (Below.refl _ _) _⟩
                · have p3 : (3 : Int) < s := by omega
                  have S3 := Aside0.mk s3
                  have n3I : (3 : Int) < b.length := by omega
                  obtain ⟨ad', e', hc3⟩ := HB3.out (by omega)
                  cases e'
                  have hd3 := ((below_alloc (Below.refl w.heap.size w) (.cells #[.int .u8 (lo : Int), .int .u8 (hi : Int)] 66)).cell (World.block_lt_of_cell? w _ hc3)).trans hc3
                  clear hc3
                  clear s3
                  by_cases c5 : b3 < 128
                  · have HD := Aside0.mk (show D = (65533, 1) from by rw [HE.out, if_neg H1.out, if_neg HC1.out, if_neg S2.out, if_neg HC2.out, if_neg S3.out, if_pos (.inl c5)])
                    have q5 : (b3 : Int) < 128 := by omega
                    clear c5
                    go_enter Tryd.func46, Tryd.ntmps46
                    go_wp2
                    go_ret2
                    exact ⟨by rw [HD.out]; rfl, below_alloc (Below.refl _ _) _⟩
                  · have q5 : (128 : Int) ≤ b3 := by omega
                    by_cases c6 : 191 < b3
                    · have HD := Aside0.mk (show D = (65533, 1) from by rw [HE.out, if_neg H1.out, if_neg HC1.out, if_neg S2.out, if_neg HC2.out, if_neg S3.out, if_pos (.inr c6)])
                      have q6 : (191 : Int) < b3 := by omega
                      clear c5 c6
                      go_enter Tryd.func46, Tryd.ntmps46
                      go_wp2
                      go_ret2
                      exact ⟨by rw [HD.out]; rfl, below_alloc (Below.refl _ _) _⟩
                    · have q6 : (b3 : Int) ≤ 191 := by omega
                      have HD := Aside0.mk (show D = (n0 % 8 * 262144 + b1 % 64 * 4096 + b2 % 64 * 64 + b3 % 64, 4) from by rw [HE.out, if_neg H1.out, if_neg HC1.out, if_neg S2.out, if_neg HC2.out, if_neg S3.out, if_neg (by omega)])
                      clear c5 c6
                      go_enter Tryd.func46, Tryd.ntmps46
                      go_wp2
                      go_ret2
                      exact ⟨by rw [HD.out]; exact ret_pair (by first | omega | (simp only [Int.natCast_add, Int.natCast_mul, Int.natCast_emod, Int.natCast_ofNat]; rfl)) rfl, below_alloc (Below.refl _ _) _⟩
set_option maxHeartbeats 800000 in
set_option maxRecDepth 100000 in
theorem dec_c (A : Option Addr) (c : Nat) (b : List Int) (w : World) (hT : Utf8Tabs 0 1 w) (hr : Kd.C (Kd.int .u8) w A b.length b) (hb : Bytes b) (hn : 0 < b.length) :
    Calls Tryd.prog 42 #[.slice A b.length c] w fun e w' => e = .returned (.tuple #[.int .i32 ((dec1 b).1 : Int), .int .i64 ((dec1 b).2 : Int)]) ∧ Below w.heap.size w w' := by
  have hS := slow_c A c b w hT hr hb hn
  obtain ⟨ad, rfl, hc0'⟩ := at_byte hr hb 0 hn
  have hc0 : w.cell? ad = some (.int .u8 (bya b 0 : Int)) := hc0'
  have hl := bya_lt hb 0
  have ha : bya b 0 < 128 → dec1 b = (bya b 0, 1) := fun h => by
    cases b with
    | nil => simp at hn
    | cons x l =>
      have hx := hb x (by simp)
      rw [bya_cons] at h ⊢
      exact (ascii_dec x l ⟨hx.1, by omega⟩).1
  have HA := Aside0.mk ha
  have HS := Aside0.mk hS
  obtain ⟨n0, hn0⟩ : ∃ n0, n0 = bya b 0 := ⟨_, rfl⟩
  obtain ⟨D, hD⟩ : ∃ D, D = dec1 b := ⟨_, rfl⟩
  rw [← hn0] at hc0 HA HS hl
  rw [← hD] at HA HS ⊢
  have hnI : (0 : Int) < b.length := by omega
  have hl' : (n0 : Int) < 256 := by omega
  clear hc0' ha hS hn0 hD hr hb hT hn
  by_cases h1 : n0 < 128
  · have HD := Aside0.mk (HA.out h1)
    have t1 : (n0 : Int) < 128 := by omega
    clear h1
    go_enter Tryd.func42, Tryd.ntmps42
    go_wp2
    go_loop [8] (fun i => i = .int .i64 0) (fun _ => 0)
    case atStart => rfl
    case round =>
      subst hrel
      go_wp2
      go_ret2
      exact ⟨by rw [HD.out]; rfl, Below.refl _ _⟩
  · have t1 : (128 : Int) ≤ n0 := by omega
    have HC := Aside0.mk (HS.out (by omega))
    clear h1
    go_enter Tryd.func42, Tryd.ntmps42
    go_wp2
    go_loop [8] (fun i => i = .int .i64 0) (fun _ => 0)
    case atStart => rfl
    case round =>
      subst hrel
      go_wp2_with fail
      refine HC.out.mono ?_
      rintro e w1 ⟨rfl, hb⟩
      have HB := Aside0.mk hb
      clear hb
      go_wp2
      go_ret2
      exact ⟨rfl, HB.out⟩
end Go.Proofs.YtkdkajcokoggiaaDoor.UtfDec
