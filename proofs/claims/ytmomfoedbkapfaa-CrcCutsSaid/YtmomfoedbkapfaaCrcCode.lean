/- What the functions of package crc do, as contracts: Sum, Frame, Next and Split tell what their plain twins tell; no condition but the sizes that each contract states. -/
import Derived.Test.YtmomfoedbkapfaaVaryCode
import Derived.Test.YtmomfoedbkapfaaCrc
namespace Go.Proofs.Ytmomfoedbkapfaa.CrcCode
open Go.RowKit Go.Proofs.Ytmomfoedbkapfaa.Kit Go.Proofs.Ytmomfoedbkapfaa.Plain Go.Proofs.Ytmomfoedbkapfaa.Crc Go.Proofs.Ytmomfoedbkapfaa.Mine Go.Proofs.Ytmomfoedbkapfaa.Vary Go.Proofs.YtmomfoedbkapfaaW.PrintWords Go.Proofs.YtmomfoedbkapfaaW.PrintLast Go.Proofs.YtmomfoedbkapfaaW.PrintMore
set_option linter.unusedVariables false
set_option linter.unusedSimpArgs false

theorem xor32 (a b : Nat) (ha : a < 4294967296) (hb : b < 4294967296) : Go.bits .xor .u32 (a : Int) (b : Int) = ((a ^^^ b : Nat) : Int) := by
  unfold Go.bits
  show IntKind.u32.wrap (((BitVec.ofInt 32 a ^^^ BitVec.ofInt 32 b).toNat : Nat) : Int) = _
  rw [BitVec.ofInt_natCast, BitVec.ofInt_natCast, BitVec.toNat_xor, BitVec.toNat_ofNat, BitVec.toNat_ofNat, Nat.mod_eq_of_lt (by simpa using ha), Nat.mod_eq_of_lt (by simpa using hb), IntKind.wrap_u32]
  have : a ^^^ b < 2 ^ 32 := Nat.xor_lt_two_pow (by simpa using ha) (by simpa using hb)
  omega
theorem and1_32 (a : Nat) (ha : a < 4294967296) : Go.bits .and .u32 (a : Int) 1 = ((a % 2 : Nat) : Int) := by
  unfold Go.bits
  show IntKind.u32.wrap (((BitVec.ofInt 32 a &&& BitVec.ofInt 32 1).toNat : Nat) : Int) = _
  rw [BitVec.ofInt_natCast, BitVec.toNat_and, BitVec.toNat_ofNat, Nat.mod_eq_of_lt (by simpa using ha), show (BitVec.ofInt 32 1).toNat = 1 from rfl, Nat.and_one_is_mod, IntKind.wrap_u32]
  omega
theorem step32 (m : Nat) (hm : m < 4294967296) : Go.bits .xor .u32 ((m : Int) / 2) (3988292384 * Go.bits .and .u32 (m : Int) 1 % 4294967296) = ((T m : Nat) : Int) := by
  rw [and1_32 m hm]
  have h2 : m % 2 = 0 ∨ m % 2 = 1 := by omega
  unfold T
  rcases h2 with h | h
  · rw [h, if_neg (by omega), show ((m : Int) / 2) = ((m / 2 : Nat) : Int) from by omega, show (3988292384 * ((0 : Nat) : Int) % 4294967296) = ((0 : Nat) : Int) from by decide]
    exact xor32 _ _ (by omega) (by omega)
  · rw [h, if_pos rfl, show ((m : Int) / 2) = ((m / 2 : Nat) : Int) from by omega, show (3988292384 * ((1 : Nat) : Int) % 4294967296) = ((3988292384 : Nat) : Int) from by decide]
    exact xor32 _ _ (by omega) (by omega)

set_option maxHeartbeats 400000 in
set_option maxRecDepth 100000 in
theorem sum_c (A : Option Addr) (c : Nat) (b : List Int) (w : World) (hr : Kd.C (Kd.int .u8) w A b.length b) (hc : b.length ≤ c) (hb : ∀ x ∈ b, 0 ≤ x ∧ x < 256) :
    Calls Try.prog 9 #[.slice A b.length c] w fun e w' => e = .returned (.int .u32 (sum b : Int)) ∧ Below w.heap.size w w' := by
  have HR := Aside0.mk hr
  have HBY := Aside0.mk hb
  have hmax : b.length ≤ 9223372036854775807 := hr.2.1
  clear hr hb
  go_enter Try.func9, Try.ntmps9
  go_wp2
  go_loopg [3, 8] (b.length) (fun g v3 v8 W => ∃ i s : Nat, v8 = .int .i64 (i : Int) ∧ v3 = .int .u32 (s : Int) ∧ Aside0 (g + i = b.length) ∧ Aside0 (s = st 4294967295 (b.take i)) ∧ Aside0 (Below w.heap.size w W))
  case atStart => exact ⟨0, 4294967295, rfl, rfl, ⟨by omega⟩, ⟨by simp [st]⟩, ⟨Below.refl _ _⟩⟩
  case round =>
    obtain ⟨i, s, rfl, rfl, HG, HS, HB⟩ := hrel
    have hgi := HG.out
    have hs32 : s < 4294967296 := by rw [HS.out]; exact st_lt _ _ (by decide) (fun x hx => HBY.out x (List.mem_of_mem_take hx))
    by_cases hi : i < b.length
    · obtain ⟨g0, rfl⟩ : ∃ g0, gk = g0 + 1 := ⟨gk - 1, by omega⟩
      obtain ⟨ad, ead, hcell⟩ := Kd.at_int (Kd.C_below HR.out HB.out) (i : Int) (by omega) (by omega)
      rw [Int.toNat_natCast, rd_nth b i hi] at hcell
      have hcb := HBY.out b[i] (List.getElem_mem hi)
      obtain ⟨n, hn⟩ : ∃ n : Nat, b[i] = (n : Int) := ⟨b[i].toNat, by omega⟩
      rw [hn] at hcell hcb
      have hst : st 4294967295 (b.take (i + 1)) = Tn 8 (s ^^^ n) := by
        rw [List.take_succ_eq_append_getElem hi, st_app, ← HS.out, hn]
        rfl
      have HST := Aside0.mk hst
      have hil : (i : Int) < b.length := by omega
      have hx0 := xor32 s n hs32 (by omega)
      have hsn : s ^^^ n < 4294967296 := Nat.xor_lt_two_pow (n := 32) hs32 (by omega)
      obtain ⟨q, hq⟩ : ∃ q, q = s ^^^ n := ⟨_, rfl⟩
      rw [← hq] at hx0 hsn HST
      subst ead
      clear hst hn hgi HS hq
      go_wp2
      go_loopg [3, 16] 8 (fun g v3 v16 W => ∃ j m : Nat, v16 = .int .i64 (j : Int) ∧ v3 = .int .u32 (m : Int) ∧ Aside0 (g + j = 8) ∧ Aside0 (m < 4294967296) ∧ Aside0 (Tn g m = Tn 8 q) ∧ Aside0 (Below w.heap.size w W))
      case atStart => exact ⟨0, q, rfl, rfl, ⟨by omega⟩, ⟨hsn⟩, ⟨rfl⟩, HB⟩
      case round =>
        clear HB hcell
        obtain ⟨j, m, rfl, rfl, HJ, HM, HT, HB⟩ := hrel
        have hgj := HJ.out
        have hm := HM.out
        by_cases hj : j < 8
        · obtain ⟨g1, rfl⟩ : ∃ g1, gk = g1 + 1 := ⟨gk - 1, by omega⟩
          have hjl : (j : Int) < 8 := by omega
          have hstp := step32 m hm
          have hT := T_lt m hm
          obtain ⟨t, ht⟩ : ∃ t, t = T m := ⟨_, rfl⟩
          rw [← ht] at hstp hT
          have HT2 := Aside0.mk (show Tn g1 t = Tn 8 q by rw [ht]; exact HT.out)
          clear ht
          go_wp2
          go_roundg g1
          case measure => omega
          case rel => exact ⟨j + 1, t, by go_num, rfl, ⟨by omega⟩, ⟨hT⟩, HT2, HB⟩
        · have hjl : (8 : Int) ≤ j := by omega
          have hg0 : gk = 0 := by omega
          subst hg0
          go_wp2
          go_roundg g0
          case measure => omega
          case rel => exact ⟨i + 1, m, by go_num, rfl, ⟨by have := HG.out; omega⟩, ⟨by rw [HST.out, ← HT.out]; rfl⟩, HB⟩
    · have hil : (b.length : Int) ≤ i := by omega
      rw [List.take_of_length_le (by omega)] at HS
      have hx := xor32 4294967295 s (by decide) hs32
      have hm : IntKind.u32.max = ((4294967295 : Nat) : Int) := by decide
      have hfin : Go.bits .xor .u32 IntKind.u32.max (s : Int) = (sum b : Int) := by
        rw [hm, hx, sum, ← HS.out, Nat.xor_comm]
      have HF := Aside0.mk hfin
      clear hx hm hfin
      go_wp2
      go_ret
      exact ⟨by show Ending.returned (.int .u32 _) = _; rw [HF.out], HB.out⟩

/-- The four bytes of a sum as the walk spells them. -/
theorem le4 (s : Nat) (hs : s < 4294967296) : [(s : Int) % 256, (s : Int) / 256 % 256, (s : Int) / 65536 % 256, (s : Int) / 16777216] = le 4 s := by
  simp only [le, List.cons.injEq, and_true]
  refine ⟨by omega, by omega, by omega, by omega⟩
set_option maxHeartbeats 800000 in
set_option maxRecDepth 100000 in
theorem frame_c (P0 : Nat → Prop) (v : Value) (x0 : List Int) (A : Option Addr) (c : Nat) (b : List Int) (w0 w : World) (hB : Below w0.heap.size w0 w) (ho : Kd.R (Kd.int .u8) 5 w w0.heap.size P0 v x0)
    (hr : Kd.C (Kd.int .u8) w A b.length b) (hc : b.length ≤ c) (hb : ∀ x ∈ b, 0 ≤ x ∧ x < 256) (hs : b.length < 10000000000) (h0 : x0.length ≤ 10000000000) :
    Calls Try.prog 11 #[v, .slice A b.length c] w fun e w' => ∃ v0 : Value, e = .returned v0 ∧ Kd.R (Kd.int .u8) 5 w' w0.heap.size (fun k => P0 k ∨ w.heap.size ≤ k) v0 (x0 ++ frame b) ∧ Below w0.heap.size w0 w' ∧ Kept w w' P0 := by
  have HO := Aside0.mk (Kd.R_mono ho (fun k hk => (.inl hk : P0 k ∨ w.heap.size ≤ k)))
  have HOB := Aside0.mk (fun k (hk : v.ownBlock = some k) => ho.1 k hk)
  have HR := Aside0.mk hr
  have HBY := Aside0.mk hb
  have HB := Aside0.mk hB
  have HX0 := Aside0.mk h0
  have hlen := enc_len10 b.length (by omega)
  have HLEN := Aside0.mk hlen
  clear ho hr hb hB h0 hlen
  go_enter Try.func11, Try.ntmps11
  go_wp2_with fail
  have hlit := (Kd.R_reads' (lit_R w w.heap.size 24 .u64 (fun _ => True) [(b.length : Int)] (Nat.le_refl _) trivial (by simp))).2.2
  refine (put_nil_c (some ⟨w.heap.size, 0, none⟩) 1 [(b.length : Int)] _ hlit (by simp) (by simp; omega) (by simp)).mono ?_
  rintro e w1 ⟨A1, c1, rfl, _, _, hro, hb1⟩
  clear hlit
  rw [encs_one] at hro
  have HB1 := Aside0.mk (below_then (below_alloc (Below.refl w.heap.size w) _) (by simp) hb1)
  have HO1 := Aside0.mk (Kd.R_mono (ok' := fun k => w.heap.size ≤ k) (Kd.R_lower hro (base' := w.heap.size) (by simp)) (fun k hk => by simp at hk; omega))
  clear hro hb1
  obtain ⟨e1, he1⟩ : ∃ e1, e1 = enc b.length := ⟨_, rfl⟩
  rw [encs_one, ← he1]
  rw [← he1] at HO1
  have HE1 := Aside0.mk he1
  have HLE := Aside0.mk (show e1.length ≤ 10 by rw [he1]; exact HLEN.out)
  clear he1
  have HRw1 := Aside0.mk (Kd.C_below HR.out HB1.out)
  go_wp2_with (first
    | ((with_reducible refine gate_builtin (b := .append) (xs := #[.tmp 11, .tmp 12]) rfl ?_); at_builtin; refine Kd.R_append_row (h1 := fun _ => rfl) (Value.int .u8) (0 : Int) (w0 := w) w.heap.size rfl (.tmp 11) (.tmp 12) 22 5 (.int .u8 0) 1 rfl Try.underlying22 info_u8 rfl (by decide) (.slice A1 e1.length c1) e1 b A b.length c (fun k => w.heap.size ≤ k) rfl rfl ?aF HO1.out HRw1.out HB1.out HB1.out.size ?aL ?_; (case aF => exact fun k hk => Nat.le_trans HB1.out.size hk); (case aL => have := HLE.out; omega); intro v2 w2 ho hb hg hat; have HO2 := Aside0.mk ho; have HB2 := Aside0.mk hb; clear ho hb hg hat)
    | fail)
  obtain ⟨f, hf⟩ : ∃ f, f = e1 ++ b := ⟨_, rfl⟩
  rw [← hf] at HO2
  have hfb : ∀ x ∈ f, 0 ≤ x ∧ x < 256 := by rw [hf, HE1.out]; exact body_bytes b HBY.out
  have hfr : frame b = f ++ le 4 (sum f) := by rw [hf, HE1.out]; rfl
  have hfl : f.length ≤ 10 + b.length := by rw [hf, List.length_append]; have := HLE.out; omega
  have HFB := Aside0.mk hfb
  have HFR := Aside0.mk hfr
  have HFL := Aside0.mk hfl
  obtain ⟨A2, c2, rfl⟩ := Kd.R_slice HO2.out
  have HC2 := Aside0.mk (Kd.R_reads' HO2.out).2.1
  have HR2 := Aside0.mk (Kd.R_reads' HO2.out).2.2
  have hsum := sum_c A2 c2 f w2 HR2.out HC2.out HFB.out
  have hsl := sum_lt f hfb
  obtain ⟨s, hse⟩ : ∃ s, s = sum f := ⟨_, rfl⟩
  rw [← hse] at hsum hsl
  have HSE := Aside0.mk hse
  have hsl2 : s < 4294967296 := hsl
  clear hf hfb hfr hfl HO2 HO1 HRw1 hse hsl
  refine hsum.mono ?_
  rintro e w3 ⟨rfl, hb3⟩
  have HB3 := Aside0.mk (below_then HB2.out HB2.out.size hb3)
  have HR3 := Aside0.mk (Kd.C_below HR2.out hb3)
  have HO3 := Aside0.mk (Kd.R_below HO.out HB3.out)
  have HB03 := Aside0.mk (below_then HB.out HB.out.size HB3.out)
  have HK3 := Aside0.mk (Kept.of_below HB3.out P0)
  clear hb3 hsum HO HR2
  go_wp2_with (first
    | ((with_reducible refine gate_builtin (b := .append) (xs := #[.tmp 16, .tmp 17]) rfl ?_); at_builtin; refine Kd.R_append_row (h1 := fun _ => rfl) (Value.int .u8) (0 : Int) (w0 := w0) w0.heap.size rfl (.tmp 16) (.tmp 17) 22 5 (.int .u8 0) 1 rfl Try.underlying22 info_u8 rfl (by decide) v x0 f A2 f.length c2 (fun k => P0 k ∨ w.heap.size ≤ k) rfl rfl ?aF HO3.out HR3.out HB03.out HB03.out.size ?aL ?_; (case aF => exact fun k hk => .inr (Nat.le_trans HB3.out.size hk)); (case aL => have := HX0.out; have := HFL.out; omega); intro v4 w4 ho hb hg hat; have HO4 := Aside0.mk ho; have HB4 := Aside0.mk hb; have HK4 := Aside0.mk (Kept.of_grown hg HK3.out (fun k e_ => .inl (HOB.out k e_))); clear ho hb hg hat)
    | ((with_reducible refine gate_builtin (b := .append) (xs := #[.tmp 18, .tmp 30]) rfl ?_); at_builtin; go_must ((refine Kd.R_append_row (h1 := fun _ => rfl) (Value.int .u8) (0 : Int) (w0 := w0) w0.heap.size rfl (.tmp 18) (.tmp 30) 22 5 (.int .u8 0) 1 rfl Try.underlying22 info_u8 rfl (by decide) v4 (x0 ++ f) [(s : Int) % 256, (s : Int) / 256 % 256, (s : Int) / 65536 % 256, (s : Int) / 16777216] (some ⟨w4.heap.size, 0, none⟩) 4 4 (fun k => P0 k ∨ w.heap.size ≤ k) rfl rfl ?aF (Kd.R_alloc HO4.out _) ?aR (HB4.out.alloc HB4.out.size _) (by have := HB4.out.size; simp; omega) ?aL ?_; (case aF => exact fun k hk => .inr (Nat.le_trans HK4.out.1 (by simp at hk; omega))); (case aR => exact (Kd.R_reads' (lit_R w4 w4.heap.size 5 .u8 (fun _ => True) [(s : Int) % 256, (s : Int) / 256 % 256, (s : Int) / 65536 % 256, (s : Int) / 16777216] (Nat.le_refl _) trivial (by simp))).2.2); (case aL => have := HX0.out; have := HFL.out; rw [List.length_append]; omega); intro v5 w5 ho hb hg hat; rw [List.append_assoc, le4 s hsl2, HSE.out, ← HFR.out] at ho; have HO5 := Aside0.mk ho; have HB5 := Aside0.mk hb; have HK5 := Aside0.mk (Kept.of_grown hg (HK4.out.alloc _) (fun k e_ => HO4.out.1 k e_)); clear ho hb hg hat)))
    | fail)
  go_ret
  exact ⟨_, rfl, HO5.out, HB5.out, HK5.out⟩

/-- Frame on nil: a new row. -/
theorem frame_nil_c (A : Option Addr) (c : Nat) (b : List Int) (w : World) (hr : Kd.C (Kd.int .u8) w A b.length b) (hc : b.length ≤ c) (hb : ∀ x ∈ b, 0 ≤ x ∧ x < 256) (hs : b.length < 10000000000) :
    Calls Try.prog 11 #[.slice none 0 0, .slice A b.length c] w fun e w' => ∃ (A' : Option Addr) (c' : Nat), e = .returned (.slice A' (frame b).length c') ∧ (frame b).length ≤ c' ∧ Kd.C (Kd.int .u8) w' A' (frame b).length (frame b) ∧ Kd.R (Kd.int .u8) 5 w' w.heap.size (fun k => w.heap.size ≤ k) (.slice A' (frame b).length c') (frame b) ∧ Below w.heap.size w w' := by
  refine (frame_c (fun _ => False) (.slice none 0 0) [] A c b w w (Below.refl _ _) (Kd.R_nil _ _ _ _ _) hr hc hb hs (by simp)).mono ?_
  rintro e w' ⟨v0, rfl, ho, hb, _⟩
  rw [List.nil_append] at ho
  obtain ⟨A', c', rfl⟩ := Kd.R_slice ho
  obtain ⟨_, h1, h2⟩ := Kd.R_reads' ho
  exact ⟨A', c', rfl, h1, h2, Kd.R_mono ho (fun k hk => hk.elim (fun h => h.elim) id), hb⟩
/-- What Next tells. -/
def NextPost (w : World) (b : List Int) (e : Ending) (w' : World) : Prop :=
  ∃ (A' : Option Addr) (c' : Nat), e = .returned (.tuple #[.slice A' (next b).1.length c', .int .i64 ((next b).2 : Int)]) ∧ Kd.R (Kd.int .u8) 5 w' w.heap.size (fun k => w.heap.size ≤ k) (.slice A' (next b).1.length c') (next b).1 ∧ Below w.heap.size w w'
theorem next_none {w w' : World} {b : List Int} (h : next b = ([], 0)) (hb : Below w.heap.size w w') : NextPost w b (.returned (.tuple #[.slice none 0 0, .int .i64 0])) w' :=
  ⟨none, 0, by rw [h]; rfl, by rw [h]; exact Kd.R_nil _ _ _ _ _, hb⟩
set_option maxHeartbeats 800000 in
set_option maxRecDepth 100000 in
theorem next_no (A : Option Addr) (c : Nat) (b : List Int) (w : World) (hr : Kd.C (Kd.int .u8) w A b.length b) (hc : b.length ≤ c) (hb : ∀ x ∈ b, 0 ≤ x ∧ x < 256) (hs : b.length < 1000000000)
    (h : (dec b 0 0).2 = 0 ∨ b.length < (dec b 0 0).1 ∨ b.length < (dec b 0 0).1 + (dec b 0 0).2 + 4) :
    Calls Try.prog 10 #[.slice A b.length c] w (NextPost w b) := by
  have hn : next b = ([], 0) := by unfold next; rw [if_pos h]
  have ht := take_c A c b w hr hc hb (by omega)
  have hk : (dec b 0 0).2 ≤ 10 := by
    rcases dec_some b 0 0 _ _ hb (rfl : dec b 0 0 = ((dec b 0 0).1, (dec b 0 0).2)) with h | ⟨n, r, _, h2, _, _, h5, _⟩
    · omega
    · have := enc_len10 n (by simpa using h5); omega
  unfold decI at ht
  obtain ⟨n, hne⟩ : ∃ n, n = (dec b 0 0).1 := ⟨_, rfl⟩
  obtain ⟨k, hke⟩ : ∃ k, k = (dec b 0 0).2 := ⟨_, rfl⟩
  rw [← hne, ← hke] at ht h
  rw [← hke] at hk
  have HT := Aside0.mk ht
  have HN := Aside0.mk hn
  clear hr hb ht hn hne hke
  have h2 : k = 0 ∨ 0 < k ∧ b.length < n ∨ 0 < k ∧ n ≤ b.length ∧ b.length < n + k + 4 := by omega
  clear h
  rcases h2 with rfl | ⟨h1, h2⟩ | ⟨h1, h2, h3⟩
  · go_enter Try.func10, Try.ntmps10
    go_wp2_with (go_at_call 14; refine HT.out.mono ?_; rintro e w1 ⟨rfl, hb⟩; have HB1 := Aside0.mk hb; clear hb)
    go_ret2
    exact next_none HN.out HB1.out
  · have t1 : ((k : Int) == 0) = false := beq_eq_false_iff_ne.mpr (by omega)
    have t2 : (b.length : Int) < n := by omega
    go_enter Try.func10, Try.ntmps10
    go_wp2_with (go_at_call 14; refine HT.out.mono ?_; rintro e w1 ⟨rfl, hb⟩; have HB1 := Aside0.mk hb; clear hb)
    go_ret2
    exact next_none HN.out HB1.out
  · have t1 : ((k : Int) == 0) = false := beq_eq_false_iff_ne.mpr (by omega)
    have t2 : (n : Int) ≤ b.length := by omega
    have t3 : (b.length : Int) < n + k + 4 := by omega
    go_enter Try.func10, Try.ntmps10
    go_wp2_with (go_at_call 14; refine HT.out.mono ?_; rintro e w1 ⟨rfl, hb⟩; have HB1 := Aside0.mk hb; clear hb)
    go_ret2
    exact next_none HN.out HB1.out
set_option maxHeartbeats 1600000 in
set_option maxRecDepth 100000 in
theorem next_may (A : Option Addr) (c : Nat) (b : List Int) (w : World) (hr : Kd.C (Kd.int .u8) w A b.length b) (hc : b.length ≤ c) (hb : ∀ x ∈ b, 0 ≤ x ∧ x < 256) (hs : b.length < 1000000000)
    (h : ¬ ((dec b 0 0).2 = 0 ∨ b.length < (dec b 0 0).1 ∨ b.length < (dec b 0 0).1 + (dec b 0 0).2 + 4)) :
    Calls Try.prog 10 #[.slice A b.length c] w (NextPost w b) := by
  have ht := take_c A c b w hr hc hb (by omega)
  unfold decI at ht
  have hn : next b = if frame ((b.take ((dec b 0 0).2 + (dec b 0 0).1)).drop (dec b 0 0).2) = b.take ((dec b 0 0).2 + (dec b 0 0).1 + 4) then ((b.take ((dec b 0 0).2 + (dec b 0 0).1)).drop (dec b 0 0).2, (dec b 0 0).2 + (dec b 0 0).1 + 4) else ([], 0) := by
    conv => lhs; unfold next
    rw [if_neg h]
  obtain ⟨n, hne⟩ : ∃ n, n = (dec b 0 0).1 := ⟨_, rfl⟩
  obtain ⟨k, hke⟩ : ∃ k, k = (dec b 0 0).2 := ⟨_, rfl⟩
  rw [← hne, ← hke] at ht h hn
  clear hne hke
  have h1 : 0 < k := by omega
  have h2 : n + k + 4 ≤ b.length := by omega
  clear h
  obtain ⟨A1, c1, hcut1, hc1, hr1⟩ := cut_mid_ex (P := Try.prog) (Kd.int .u8) 22 5 (.int .u8 0) 1 Try.underlying22 info_u8 A c b (k : Int) ((k : Int) + (n : Int)) (by omega) (by omega) (by omega) hc
  obtain ⟨hcut2, hc2, hr2⟩ := cut_to_ex (P := Try.prog) (Kd.int .u8) 22 5 (.int .u8 0) 1 Try.underlying22 info_u8 A c b ((k : Int) + (n : Int) + 4) (by omega) (by omega) hc
  rw [show ((k : Int) + (n : Int)).toNat = k + n from by omega, Int.toNat_natCast] at hcut1 hc1 hr1
  rw [show ((k : Int) + (n : Int) + 4).toNat = k + n + 4 from by omega] at hcut2 hc2 hr2
  have hxb : ∀ y ∈ (b.take (k + n)).drop k, 0 ≤ y ∧ y < 256 := fun y hy => hb y (List.mem_of_mem_take (List.mem_of_mem_drop hy))
  have hxl : ((b.take (k + n)).drop k).length = n := by rw [List.length_drop, List.length_take]; omega
  have hzl : (b.take (k + n + 4)).length = k + n + 4 := by rw [List.length_take]; omega
  obtain ⟨x, hx⟩ : ∃ x, x = (b.take (k + n)).drop k := ⟨_, rfl⟩
  obtain ⟨z, hz⟩ : ∃ z, z = b.take (k + n + 4) := ⟨_, rfl⟩
  have hzb : ∀ y ∈ z, 0 ≤ y ∧ y < 256 := by rw [hz]; exact fun y hy => hb y (List.mem_of_mem_take hy)
  rw [← hx] at hcut1 hc1 hr1 hxb hxl hn
  rw [← hz] at hcut2 hc2 hr2 hzl hn
  have hst := str_eq (frame x) z (frame_bytes x hxb) hzb
  have HT := Aside0.mk ht
  have HR := Aside0.mk hr
  have HR1 := Aside0.mk hr1
  have HR2 := Aside0.mk hr2
  have HXB := Aside0.mk hxb
  have HXL := Aside0.mk hxl
  have HZL := Aside0.mk hzl
  have HN := Aside0.mk hn
  have HST := Aside0.mk hst
  have HC1 := Aside0.mk hc1
  clear hr hb ht hr1 hr2 hxb hxl hzl hn hst hc1 hc2 hx hz hzb
  have t1 : ((k : Int) == 0) = false := beq_eq_false_iff_ne.mpr (by omega)
  have t2 : (n : Int) ≤ b.length := by omega
  have t3 : (n : Int) + k + 4 ≤ b.length := by omega
  go_enter Try.func10, Try.ntmps10
  go_upto_region 5 with (go_at_call 14; refine HT.out.mono ?_; rintro e w1 ⟨rfl, hb⟩; have HB1 := Aside0.mk hb; clear hb)
  have HRx := Aside0.mk (HR1.out _ (Kd.C_below HR.out HB1.out))
  have hcv : ∀ W, Below w1.heap.size w1 W → (convert 22 9 (.slice A z.length c)).run Try.prog W = .ok (.string (strOfNums z)) W := fun W hW =>
    Kd.C_string (P := Try.prog) (src := 22) (dst := 9) (e := 5) (c := c) Try.underlying22 Try.underlying5 Try.underlying9 (HR2.out _ (Kd.C_below (Kd.C_below HR.out HB1.out) hW))
  have HCV := Aside0.mk hcv
  have HFr := Aside0.mk (frame_nil_c A1 c1 x w1.drew (Kd.C_drew HRx.out) HC1.out HXB.out (by have := HXL.out; omega))
  obtain ⟨fx, hfx⟩ : ∃ fx, fx = frame x := ⟨_, rfl⟩
  rw [← hfx] at HFr HN HST
  have HFX := Aside0.mk hfx
  clear hcv hfx
  have hw4 : wrap64 ((k : Int) + (n : Int) + 4) = (k : Int) + (n : Int) + 4 := by unfold wrap64; omega
  refine start_ (n := 12) (S := fun w' => (convert 22 9 (.slice A z.length c)).run Try.prog w' = .ok (.string (strOfNums z)) w') (ds := []) #[false, false, false, false, false, false, false, false, false, false, false, false] (by kernel_rfl) rfl rfl ((HCV.out _ (Below.refl _ _).drew)) (fun hHeld => ?_)
  refine pure_ (i := 0) (N := some 35) (v := ?_) (a' := ?_) #[true, false, false, false, false, false, false, false, false, false, false, false] rfl rfl (by kernel_rfl) (fun _ _ _ h => h) (Or.inl ⟨by rfl, ?_⟩) ?_ ?_
  rotate_left
  · intro w'
    go_simp
    with_reducible rfl
  rotate_left
  · simp only [Act.put, List.setIfInBounds_toArray, List.set_cons_zero, List.set_cons_succ, i64_w, i32_w]
    rfl
  refine pure_ (i := 1) (N := some 36) (v := ?_) (a' := ?_) #[true, true, false, false, false, false, false, false, false, false, false, false] rfl rfl (by kernel_rfl) (fun _ _ _ h => h) (Or.inl ⟨by rfl, ?_⟩) ?_ ?_
  rotate_left
  · intro w'
    go_simp
    with_reducible rfl
  rotate_left
  · simp only [Act.put, List.setIfInBounds_toArray, List.set_cons_zero, List.set_cons_succ, i64_w, i32_w]
    rfl
  refine pure_ (i := 2) (N := some 37) (v := ?_) (a' := ?_) #[true, true, true, false, false, false, false, false, false, false, false, false] rfl rfl (by kernel_rfl) (fun _ _ _ h => h) (Or.inl ⟨by rfl, ?_⟩) ?_ ?_
  rotate_left
  · intro w'
    go_simp
    with_reducible rfl
  rotate_left
  · simp only [Act.put, List.setIfInBounds_toArray, List.set_cons_zero, List.set_cons_succ, i64_w, i32_w]
    rfl
  refine pure_ (i := 3) (N := some 38) (v := ?_) (a' := ?_) #[true, true, true, true, false, false, false, false, false, false, false, false] rfl rfl (by kernel_rfl) (fun _ _ _ h => h) (Or.inl ⟨by rfl, ?_⟩) ?_ ?_
  rotate_left
  · intro w'
    go_simp
    with_reducible rfl
  rotate_left
  · simp only [Act.put, List.setIfInBounds_toArray, List.set_cons_zero, List.set_cons_succ, i64_w, i32_w]
    rfl
  refine pure_ (i := 6) (N := some 41) (v := ?_) (a' := ?_) #[true, true, true, true, false, false, true, false, false, false, false, false] rfl rfl (by kernel_rfl) (fun _ _ _ h => h) (Or.inl ⟨by rfl, ?_⟩) ?_ ?_
  rotate_left
  · intro w'
    go_simp
    with_reducible rfl
  rotate_left
  · simp only [Act.put, List.setIfInBounds_toArray, List.set_cons_zero, List.set_cons_succ, i64_w, i32_w]
    rfl
  refine pure_ (i := 7) (N := some 42) (v := ?_) (a' := ?_) #[true, true, true, true, false, false, true, true, false, false, false, false] rfl rfl (by kernel_rfl) (fun _ _ _ h => h) (Or.inl ⟨by rfl, ?_⟩) ?_ ?_
  rotate_left
  · intro w'
    go_simp
    with_reducible rfl
  rotate_left
  · simp only [Act.put, List.setIfInBounds_toArray, List.set_cons_zero, List.set_cons_succ, i64_w, i32_w]
    rfl
  refine pure_ (i := 8) (N := some 43) (v := ?_) (a' := ?_) #[true, true, true, true, false, false, true, true, true, false, false, false] rfl rfl (by kernel_rfl) (fun _ _ _ h => h) (Or.inl ⟨by rfl, ?_⟩) ?_ ?_
  rotate_left
  · intro w'
    go_simp
    with_reducible rfl
  rotate_left
  · simp only [Act.put, List.setIfInBounds_toArray, List.set_cons_zero, List.set_cons_succ, i64_w, i32_w]
    rfl
  refine pure_ (i := 9) (N := some 44) (v := ?_) (a' := ?_) #[true, true, true, true, false, false, true, true, true, true, false, false] rfl rfl (by kernel_rfl) (fun _ _ _ h => h) (Or.inl ⟨by rfl, ?_⟩) ?_ ?_
  rotate_left
  · intro w'
    go_simp
    with_reducible rfl
  rotate_left
  · simp only [Act.put, List.setIfInBounds_toArray, List.set_cons_zero, List.set_cons_succ, i64_w, i32_w]
    rfl
  refine take_ (i := 10) (N := some 45) (v := ?_) (a' := ?_) #[true, true, true, true, false, false, true, true, true, true, true, false] rfl rfl (by kernel_rfl) (fun _ _ _ h => h) (Or.inl ⟨by rfl, ?_⟩) hHeld ?_ ?_
  rotate_left
  · intro w' s0
    go_simp
    with_reducible rfl
  rotate_left
  · simp only [Act.put, List.setIfInBounds_toArray, List.set_cons_zero, List.set_cons_succ, i64_w, i32_w]
    rfl
  refine one_ (i := 4) (N := some 39) #[true, true, true, true, true, false, true, true, true, true, true, false] rfl rfl (by kernel_rfl) (by decide) (fun K hK => ?_)
  refine goes_ Try.func11 (by kernel_rfl) rfl #[.slice none 0 0, .slice A1 x.length c1] (by rfl) rfl rfl (by simp only [List.map_toArray, List.map_cons, List.map_nil]; rfl) ?_
  with_reducible refine (HFr.out).mono ?_
  rintro e w2 ⟨A2, c2, rfl, hc2, hr2, _, hb2⟩
  refine ⟨_, rfl, ?_⟩
  have HB2 := Aside0.mk (show Below w1.heap.size w1 w2 from below_then (below_drew (Below.refl w1.heap.size w1)) (Nat.le_refl _) hb2)
  have HR2x := Aside0.mk hr2
  have hcv2 := Kd.C_string (P := Try.prog) (src := 22) (dst := 9) (e := 5) (c := c2) Try.underlying22 Try.underlying5 Try.underlying9 hr2
  clear hb2 hr2 hc2
  refine hK.out _ _ ((HCV.out _ HB2.out)) (fun hHeld => ?_)
  clear hK K
  refine norm_ (a' := ?_) ?_ ?_
  rotate_left
  · show Act.put _ (some 39) _ = _
    simp only [Act.put, List.setIfInBounds_toArray, List.set_cons_zero, List.set_cons_succ, i64_w, i32_w]
    rfl
  refine one_ (i := 5) (N := some 40) #[true, true, true, true, true, true, true, true, true, true, true, false] rfl rfl (by kernel_rfl) (by decide) (fun K hK => ?_)
  refine value_ (w1 := ?_) (v := ?_) (by rfl) rfl ?_ ?_
  rotate_left 2
  · go_simp
    constructor
    · rfl
    · rfl
  refine hK.out _ _ ((HCV.out _ HB2.out)) (fun hHeld => ?_)
  clear hK K
  refine norm_ (a' := ?_) ?_ ?_
  rotate_left
  · show Act.put _ (some 40) _ = _
    simp only [Act.put, List.setIfInBounds_toArray, List.set_cons_zero, List.set_cons_succ, i64_w, i32_w]
    rfl
  refine pure_ (i := 11) (N := some 46) (v := ?_) (a' := ?_) #[true, true, true, true, true, true, true, true, true, true, true, true] rfl rfl (by kernel_rfl) (fun _ _ _ h => h) (Or.inl ⟨by rfl, ?_⟩) ?_ ?_
  rotate_left
  · intro w'
    go_simp
    with_reducible rfl
  rotate_left
  · simp only [Act.put, List.setIfInBounds_toArray, List.set_cons_zero, List.set_cons_succ, i64_w, i32_w]
    rfl
  refine done_ (by kernel_rfl) ?_
  by_cases hsame : fx = z
  · rw [show ((strOfNums fx).toList == (strOfNums z).toList) = true from beq_iff_eq.mpr (HST.out.2 hsame)]
    simp only [Bool.not_true]
    have hn := HN.out
    rw [if_pos hsame] at hn
    have HN2 := Aside0.mk hn
    have HB02 := Aside0.mk (below_kept HB1.out HB2.out)
    have HRx2 := Aside0.mk (Kd.C_below HRx.out HB2.out)
    have h10 : k + n + 4 < 1000000000 := by omega
    have hw5 : (k : Int) + (n : Int) + 4 = ((k + n + 4 : Nat) : Int) := by omega
    have HW5 := Aside0.mk hw5
    clear hsame hn hcv2 hw5 hw4
    go_wp2_with (first
      | ((with_reducible refine gate_builtin (b := .append) (xs := #[.const (.slice none 0 0), .tmp 50]) rfl ?_); at_builtin; go_must ((refine Kd.R_append_row (h1 := fun _ => rfl) (Value.int .u8) (0 : Int) (w0 := w) w.heap.size rfl (.const (.slice none 0 0)) (.tmp 50) 22 5 (.int .u8 0) 1 rfl Try.underlying22 info_u8 rfl (by decide) (.slice none 0 0) [] x A1 x.length c1 (fun k => w.heap.size ≤ k) rfl rfl ?aF (Kd.R_nil _ _ _ _ _) HRx2.out HB02.out HB02.out.size ?aL ?_; (case aF => exact fun k hk => Nat.le_trans HB02.out.size hk); (case aL => have := HXL.out; simp; omega); intro v1 w7 ho hb hg hat; rw [List.nil_append] at ho; obtain ⟨A7, c7, rfl⟩ := Kd.R_slice ho; have HO7 := Aside0.mk ho; have HB7 := Aside0.mk hb; clear ho hb hg hat)))
      | fail)
    go_ret2
    exact ⟨A7, c7, by rw [HN2.out]; simp only; rw [← HW5.out]; rfl, by rw [HN2.out]; exact HO7.out, HB7.out⟩
  · rw [show ((strOfNums fx).toList == (strOfNums z).toList) = false from beq_eq_false_iff_ne.mpr (fun h => hsame (HST.out.1 h))]
    simp only [Bool.not_false]
    have hn := HN.out
    rw [if_neg hsame] at hn
    have HN2 := Aside0.mk hn
    clear hsame hn hcv2
    go_wp2
    go_ret2
    exact next_none HN2.out (below_kept HB1.out HB2.out)
theorem next_c (A : Option Addr) (c : Nat) (b : List Int) (w : World) (hr : Kd.C (Kd.int .u8) w A b.length b) (hc : b.length ≤ c) (hb : ∀ x ∈ b, 0 ≤ x ∧ x < 256) (hs : b.length < 1000000000) :
    Calls Try.prog 10 #[.slice A b.length c] w (NextPost w b) := by
  by_cases h : (dec b 0 0).2 = 0 ∨ b.length < (dec b 0 0).1 ∨ b.length < (dec b 0 0).1 + (dec b 0 0).2 + 4
  · exact next_no A c b w hr hc hb hs h
  · exact next_may A c b w hr hc hb hs h
end Go.Proofs.Ytmomfoedbkapfaa.CrcCode
