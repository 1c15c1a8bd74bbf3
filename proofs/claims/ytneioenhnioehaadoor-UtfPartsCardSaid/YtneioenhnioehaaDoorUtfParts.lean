/- The law UtfParts returns true: a walk through its text; the library's two tables hold what their texts lay. -/
import Derived.Test.YtneioenhnioehaaDoorUtfFeedL
import Derived.Test.YtneioenhnioehaaDoorUtfFit
import Derived.Test.YtneioenhnioehaaDoorArrEq
namespace Go.Proofs.YtneioenhnioehaaDoor.UtfParts
open Go.RowKit Go.Proofs.YtneioenhnioehaaDoor.Kit Go.Proofs.YtneioenhnioehaaDoor.Plain Go.Proofs.YtneioenhnioehaaDoor.Mine Go.Proofs.YtneioenhnioehaaDoor.UtfPure Go.Proofs.YtneioenhnioehaaDoor.UtfFull Go.Proofs.YtneioenhnioehaaDoor.UtfDec Go.Proofs.YtneioenhnioehaaDoor.UtfFeed Go.Proofs.YtneioenhnioehaaDoor.UtfRunes Go.Proofs.YtneioenhnioehaaDoor.UtfAllC Go.Proofs.YtneioenhnioehaaDoor.UtfFeedL Go.Proofs.YtneioenhnioehaaDoor.UtfFit Go.Proofs.YtneioenhnioehaaDoorW.PrintWords Go.Proofs.YtneioenhnioehaaDoorW.PrintLast Go.Proofs.YtneioenhnioehaaDoorW.PrintMore
open Go.Lib (Utf8Tabs)
set_option linter.unusedVariables false
set_option linter.unusedSimpArgs false
section
variable {P : Program} {ops : Array Oper} {rest : List Oper} {o : Oper} {a : Act} {Q : Exit → Act → World → Prop} {W : World}
theorem unguard (hw : Region.wanted o (yielded ops a.tmps) = true) (h : wpList P ops Q ({ o with guard := none } :: rest) a W) : wpList P ops Q (o :: rest) a W := by
  have h1 : Region.wanted { o with guard := none } (yielded ops a.tmps) = true := rfl
  unfold wpList at h ⊢
  rw [if_pos h1] at h
  rw [if_pos hw]
  exact h
end
theorem low16 (n : Int) : Go.bits .and .i64 n 65535 = n % 65536 := by
  have h127 : (BitVec.ofInt 64 65535).toNat = 2 ^ 16 - 1 := by decide
  have key : (BitVec.ofInt 64 n &&& BitVec.ofInt 64 65535).toNat = (n % ((2 ^ 64 : Nat) : Int)).toNat % 2 ^ 16 := by
    rw [BitVec.toNat_and, BitVec.toNat_ofInt, h127, Nat.and_two_pow_sub_one_eq_mod]
  show IntKind.i64.wrap ((BitVec.ofInt 64 n &&& BitVec.ofInt 64 65535).toNat : Nat) = n % 65536
  rw [key, IntKind.wrap_i64]
  omega
theorem bytes_take (s : ByteArray) (a : Nat) (h : a ≤ s.size) : bytesOf (s.extract 0 a) = (bytesOf s).take a := by
  unfold bytesOf
  rw [ByteArray.data_extract, Array.toList_extract, List.map_take]
  simp
theorem bytes_drop (s : ByteArray) (a : Nat) (h : a ≤ s.size) : bytesOf (s.extract a s.size) = (bytesOf s).drop a := by
  unfold bytesOf
  rw [ByteArray.data_extract, Array.toList_extract]
  have h2 : s.data.toList.extract a s.size = s.data.toList.drop a := by
    show (s.data.toList.drop a).take (s.size - a) = _
    exact List.take_of_length_le (by rw [List.length_drop, data_length]; omega)
  rw [h2, List.map_drop]
set_option maxHeartbeats 800000 in
set_option maxRecDepth 100000 in
theorem parts_big (s : ByteArray) (t : Int) (w : World) (hT : Utf8Tabs 0 1 w) (h : 500 < s.size) : Calls Tryd.prog 4 #[.string s, .int .i64 t] w fun e w' => e = .returned (.bool true) ∧ Below w.heap.size w w' := by
  have hF := fit_c w hT
  have h2 : 500 < (s.size : Int) := by omega
  have HF := Aside0.mk hF
  clear h hF hT
  go_enter Tryd.func4, Tryd.ntmps4
  go_wp2_with fail
  refine HF.out.mono ?_
  rintro e w1 ⟨rfl, hb⟩
  have HB := Aside0.mk hb
  clear hb HF
  go_wp2
  go_ret
  exact ⟨rfl, HB.out⟩
set_option maxHeartbeats 3200000 in
set_option maxRecDepth 100000 in
theorem parts_small (s : ByteArray) (t : Int) (w : World) (hT : Utf8Tabs 0 1 w) (hs : s.size ≤ 500) : Calls Tryd.prog 4 #[.string s, .int .i64 t] w fun e w' => e = .returned (.bool true) ∧ Below w.heap.size w w' := by
  have hu := Tryd.underlying29
  have HF := Aside0.mk (fit_c w hT)
  have hsz : (s.size : Int) ≤ 500 := by omega
  have hlow := low16 t
  obtain ⟨u, hu16⟩ : ∃ u, Go.bits .and .i64 t 65535 = u := ⟨_, rfl⟩
  have u0 : 0 ≤ u := by omega
  have u1 : u < 65536 := by omega
  obtain ⟨a, ha⟩ : ∃ a : Nat, u % ((s.size : Int) + 1) = (a : Int) := ⟨(u % ((s.size : Int) + 1)).toNat, by have := Int.emod_nonneg u (show ((s.size : Int) + 1) ≠ 0 by omega); omega⟩
  have hal : a ≤ s.size := by have := Int.emod_lt_of_pos u (show (0 : Int) < (s.size : Int) + 1 by omega); omega
  have htm : Int.tmod u ((s.size : Int) + 1) = (a : Int) := by rw [Int.tmod_eq_emod_of_nonneg u0]; exact ha
  obtain ⟨s1, hs1⟩ : ∃ s1, s1 = s.extract 0 a := ⟨_, rfl⟩
  obtain ⟨s2, hs2⟩ : ∃ s2, s2 = s.extract a s.size := ⟨_, rfl⟩
  have e1 : bytesOf s1 = (bytesOf s).take a := by rw [hs1]; exact bytes_take s a hal
  have e2 : bytesOf s2 = (bytesOf s).drop a := by rw [hs2]; exact bytes_drop s a hal
  have z1 : s1.size ≤ 1000000 := by rw [hs1, ByteArray.size_extract]; omega
  have z2 : s2.size ≤ 1000000 := by rw [hs2, ByteArray.size_extract]; omega
  have hb1 := bytesOf_bytes s1
  have hb := bytesOf_bytes s
  have hpart := feedAll_part (bytesOf s1) hb1 [] part_nil
  have hpartD := feedAll_part (bytesOf s) hb [] part_nil
  have hcat := feedAll_append (bytesOf s1) (bytesOf s2) []
  rw [e1, e2, List.take_append_drop] at hcat
  rw [← e1, ← e2] at hcat
  have hwhole := feedAll_whole (bytesOf s) hb
  have hlen := feedAll_len (bytesOf s) hb [] part_nil
  rw [bytesOf_length] at hlen
  have HFD := Aside0.mk (fun W (h : Below w.heap.size w W) => feedl_c [] s W (tabs_below hT h) (by omega) part_nil)
  have HF1 := Aside0.mk (fun W (h : Below w.heap.size w W) => feedl_c [] s1 W (tabs_below hT h) z1 part_nil)
  have HF2 := Aside0.mk (fun W (h : Below w.heap.size w W) => feedl_c (feedAll [] (bytesOf s1)).2 s2 W (tabs_below hT h) z2 hpart)
  have HFL := Aside0.mk (fun W => flush_c (feedAll [] (bytesOf s)).2 W hpartD.2.2)
  have HALL := Aside0.mk (fun W (h : Below w.heap.size w W) => all_c s W (tabs_below hT h) (by omega))
  obtain ⟨D, hD⟩ : ∃ D, D = feedAll [] (bytesOf s) := ⟨_, rfl⟩
  obtain ⟨E1, hE1⟩ : ∃ E1, E1 = feedAll [] (bytesOf s1) := ⟨_, rfl⟩
  rw [← hE1] at HF1 HF2 hcat
  obtain ⟨E2, hE2⟩ : ∃ E2, E2 = feedAll E1.2 (bytesOf s2) := ⟨_, rfl⟩
  rw [← hE2] at HF2 hcat
  rw [← hD] at HFD HFL hcat hwhole hlen
  obtain ⟨L, pd⟩ := D
  obtain ⟨L1, p1⟩ := E1
  obtain ⟨L2, p2⟩ := E2
  simp only [Prod.mk.injEq] at hcat
  obtain ⟨hLL, hpp⟩ := hcat
  dsimp only at HFD HFL HF1 HF2 hwhole hlen hLL hpp
  subst hpp
  obtain ⟨rs, hrs⟩ : ∃ rs, rs = runes (bytesOf s) := ⟨_, rfl⟩
  rw [← hrs] at HALL hwhole
  obtain ⟨fl, hfl⟩ : ∃ fl : List Int, fl = List.replicate pd.length 65533 := ⟨_, rfl⟩
  rw [← hfl] at HFL hwhole
  have HFLL := Aside0.mk (show fl.length ≤ 3 by rw [hfl, List.length_replicate]; have := hpartD.2.2; rw [← hD] at this; exact this)
  have HW := Aside0.mk hwhole
  have HLL := Aside0.mk hLL
  have HLEN := Aside0.mk (show L.length ≤ 2000 by omega)
  have hdz : dval [] = .agg #[.int .u8 0, .int .u8 0, .int .u8 0, .int .i64 0] := rfl
  rw [hdz] at HFD HF1 HFL
  have hdd : dval pd = .agg (dcells pd) := rfl
  have hd1 : dval p1 = .agg (dcells p1) := rfl
  rw [hdd] at HFD HF2 HFL
  rw [hd1] at HF1 HF2
  have hcd : dcells pd = #[.int .u8 (pd.getD 0 0), .int .u8 (pd.getD 1 0), .int .u8 (pd.getD 2 0), .int .i64 pd.length] := rfl
  have hc1 : dcells p1 = #[.int .u8 (p1.getD 0 0), .int .u8 (p1.getD 1 0), .int .u8 (p1.getD 2 0), .int .i64 p1.length] := rfl
  obtain ⟨d0, hd0⟩ : ∃ d0, d0 = pd.getD 0 0 := ⟨_, rfl⟩
  obtain ⟨d1, hd1'⟩ : ∃ d1, d1 = pd.getD 1 0 := ⟨_, rfl⟩
  obtain ⟨d2, hd2⟩ : ∃ d2, d2 = pd.getD 2 0 := ⟨_, rfl⟩
  obtain ⟨d3, hd3⟩ : ∃ d3, d3 = (pd.length : Int) := ⟨_, rfl⟩
  obtain ⟨q0, hq0⟩ : ∃ q0, q0 = p1.getD 0 0 := ⟨_, rfl⟩
  obtain ⟨q1, hq1⟩ : ∃ q1, q1 = p1.getD 1 0 := ⟨_, rfl⟩
  obtain ⟨q2, hq2⟩ : ∃ q2, q2 = p1.getD 2 0 := ⟨_, rfl⟩
  obtain ⟨q3, hq3⟩ : ∃ q3, q3 = (p1.length : Int) := ⟨_, rfl⟩
  rw [← hd0, ← hd1', ← hd2, ← hd3] at hcd
  rw [← hq0, ← hq1, ← hq2, ← hq3] at hc1
  rw [hcd] at HFD HF2 HFL
  rw [hc1] at HF1 HF2
  have HS1 := Aside0.mk hs1
  have HS2 := Aside0.mk hs2
  have hai : (a : Int) ≤ s.size := by omega
  have h65 : u % ((s.size : Int) + 1) = (a : Int) := ha
  have HAL := Aside0.mk hal
  clear hT hs hlow e1 e2 z1 z2 hb1 hb hpart hpartD hlen hwhole hD hE1 hE2 hLL hrs hfl hdz hdd hd1 hcd hc1 hd0 hd1' hd2 hd3 hq0 hq1 hq2 hq3 hs1 hs2 ha hal
  go_enter Tryd.func4, Tryd.ntmps4
  go_wp2_with fail
  refine HF.out.mono ?_
  rintro e w1 ⟨rfl, hb⟩
  have HB1 := Aside0.mk hb
  clear hb HF
  go_wp2_with fail
  refine (HFD.out w1 HB1.out).mono ?_
  rintro e w2 ⟨vl, rfl, ho, hb⟩
  have HB2 := Aside0.mk (below_kept HB1.out hb)
  obtain ⟨Al, cl, rfl⟩ := Kd.R_slice ho
  have HOL := Aside0.mk (Kd.R_lower ho HB1.out.size)
  clear ho hb HFD
  go_upto_region 7 with fail
  obtain ⟨w3, hw3⟩ : ∃ w3, w3 = w2.alloc (.cells #[.int .u8 d0, .int .u8 d1, .int .u8 d2, .int .i64 d3] 29) := ⟨_, rfl⟩
  obtain ⟨g5, hg5⟩ : ∃ g5, g5 = w2.heap.size := ⟨_, rfl⟩
  have hb3 : Below w2.heap.size w2 w3 := by rw [hw3]; exact below_alloc (Below.refl _ _) _
  have HK5 := Aside0.mk (show w3.heap[g5]? = some (.cells #[.int .u8 d0, .int .u8 d1, .int .u8 d2, .int .i64 d3] 29 (0, 0)) from by rw [hw3, hg5]; exact blk_new w2 _)
  have HB3 := Aside0.mk (below_kept HB2.out hb3)
  have HOL3 := Aside0.mk (Kd.R_below HOL.out hb3)
  rw [← hw3, ← hg5]
  have hs1 := HS1.out.symm
  clear hw3 hg5 hb3 HOL
  go_wp2_with fail
  refine (HF1.out w3 HB3.out).mono ?_
  rintro e w4 ⟨va, rfl, ho, hb⟩
  obtain ⟨Aa, ca, rfl⟩ := Kd.R_slice ho
  have HOA := Aside0.mk ho
  have HBa := Aside0.mk hb
  have HB4 := Aside0.mk (below_kept HB3.out hb)
  clear ho hb HF1
  go_upto_region 8 with fail
  obtain ⟨w5, hw5⟩ : ∃ w5, w5 = w4.alloc (.cells #[.int .u8 q0, .int .u8 q1, .int .u8 q2, .int .i64 q3] 29) := ⟨_, rfl⟩
  obtain ⟨g7, hg7⟩ : ∃ g7, g7 = w4.heap.size := ⟨_, rfl⟩
  have hb5 : Below w4.heap.size w4 w5 := by rw [hw5]; exact below_alloc (Below.refl _ _) _
  have HK7 := Aside0.mk (show w5.heap[g7]? = some (.cells #[.int .u8 q0, .int .u8 q1, .int .u8 q2, .int .i64 q3] 29 (0, 0)) from by rw [hw5, hg7]; exact blk_new w4 _)
  have HB5 := Aside0.mk (below_kept HB4.out hb5)
  have HBa5 := Aside0.mk (below_then HBa.out HBa.out.size hb5)
  have HOA5 := Aside0.mk (show Kd.R (Kd.int .i32) 21 w5 w3.heap.size (fun k => k < g7) (.slice Aa L1.length ca) L1 from by rw [hg7]; exact Kd.R_below (Kd.R_mono (Kd.R_bound HOA.out) (fun k hk => hk.2.2.1)) hb5)
  have HG75 := Aside0.mk (show w3.heap.size ≤ g7 ∧ g7 < w5.heap.size from ⟨by rw [hg7]; exact HBa.out.size, blk_lt HK7.out⟩)
  rw [← hw5, ← hg7]
  have hs2 := HS2.out.symm
  clear hw5 hg7 hb5 HOA hs1 HBa HB4
  have k0 : w5.drew.cell? ⟨g7, 0, none⟩ = some (.int .u8 q0) := (blk_cell (blk_drew HK7.out) 0).trans rfl
  have k1 : w5.drew.cell? ⟨g7, 1, none⟩ = some (.int .u8 q1) := (blk_cell (blk_drew HK7.out) 1).trans rfl
  have k2 : w5.drew.cell? ⟨g7, 2, none⟩ = some (.int .u8 q2) := (blk_cell (blk_drew HK7.out) 2).trans rfl
  have k3 : w5.drew.cell? ⟨g7, 3, none⟩ = some (.int .i64 q3) := (blk_cell (blk_drew HK7.out) 3).trans rfl
  have HC2 := Aside0.mk (HF2.out w5.drew (below_drew HB5.out))
  clear HF2
  refine start_ (n := 10) (S := fun w' => w'.cell? ⟨g7, 0, none⟩ = some (.int .u8 q0) ∧ w'.cell? ⟨g7, 1, none⟩ = some (.int .u8 q1) ∧ w'.cell? ⟨g7, 2, none⟩ = some (.int .u8 q2) ∧ w'.cell? ⟨g7, 3, none⟩ = some (.int .i64 q3)) (ds := [8]) #[false, false, false, false, false, false, false, false, false, false] (by kernel_rfl) rfl rfl ⟨k0, k1, k2, k3⟩ (fun hHeld => ?_)
  refine pure_ (i := 1) (N := some 39) (v := ?_) (a' := ?_) #[false, true, false, false, false, false, false, false, false, false] rfl rfl (by kernel_rfl) (fun _ _ _ h => h) (Or.inl ⟨by rfl, ?_⟩) ?_ ?_
  rotate_left
  · intro w'
    go_simp
    with_reducible rfl
  rotate_left
  · simp only [Act.put, List.setIfInBounds_toArray, List.set_cons_zero, List.set_cons_succ, i64_w, i32_w]
    rfl
  refine pure_ (i := 2) (N := some 40) (v := ?_) (a' := ?_) #[false, true, true, false, false, false, false, false, false, false] rfl rfl (by kernel_rfl) (fun _ _ _ h => h) (Or.inl ⟨by rfl, ?_⟩) ?_ ?_
  rotate_left
  · intro w'
    go_simp
    with_reducible rfl
  rotate_left
  · simp only [Act.put, List.setIfInBounds_toArray, List.set_cons_zero, List.set_cons_succ, i64_w, i32_w]
    rfl
  refine pure_ (i := 3) (N := some 41) (v := ?_) (a' := ?_) #[false, true, true, true, false, false, false, false, false, false] rfl rfl (by kernel_rfl) (fun _ _ _ h => h) (Or.inl ⟨by rfl, ?_⟩) ?_ ?_
  rotate_left
  · intro w'
    go_simp
    with_reducible rfl
  rotate_left
  · simp only [Act.put, List.setIfInBounds_toArray, List.set_cons_zero, List.set_cons_succ, i64_w, i32_w]
    rfl
  refine take_ (i := 0) (N := some 38) (v := ?_) (a' := ?_) #[true, true, true, true, false, false, false, false, false, false] rfl rfl (by kernel_rfl) (fun _ _ _ h => h) (Or.inl ⟨by rfl, ?_⟩) hHeld ?_ ?_
  rotate_left
  · rintro w' ⟨s0, s1, s2, s3⟩
    go_simp
    with_reducible rfl
  rotate_left
  · simp only [Act.put, List.setIfInBounds_toArray, List.set_cons_zero, List.set_cons_succ, i64_w, i32_w]
    rfl
  refine one_ (i := 4) (N := some 42) #[true, true, true, true, true, false, false, false, false, false] rfl rfl (by kernel_rfl) (by decide) (fun K hK => ?_)
  refine goes_ Tryd.func10 (by kernel_rfl) rfl #[.agg #[.int .u8 q0, .int .u8 q1, .int .u8 q2, .int .i64 q3], .string s2] (by rfl) rfl rfl (by simp only [List.map_toArray, List.map_cons, List.map_nil]; rfl) ?_
  with_reducible refine (HC2.out).mono ?_
  rintro e w6 ⟨vb, rfl, hob, hb6⟩
  refine ⟨_, rfl, ?_⟩
  have HBb := Aside0.mk hb6
  have HOB := Aside0.mk hob
  have HK76 := Aside0.mk (blk_below (blk_drew HK7.out) hb6)
  clear hob hb6
  have c0 := (blk_cell HK76.out 0).trans (rfl : _ = some (Value.int .u8 q0))
  have c1 := (blk_cell HK76.out 1).trans (rfl : _ = some (Value.int .u8 q1))
  have c2 := (blk_cell HK76.out 2).trans (rfl : _ = some (Value.int .u8 q2))
  have c3 := (blk_cell HK76.out 3).trans (rfl : _ = some (Value.int .i64 q3))
  have f0 := blk_frozen HK76.out 0
  have f1 := blk_frozen HK76.out 1
  have f2 := blk_frozen HK76.out 2
  have f3 := blk_frozen HK76.out 3
  refine hK.out _ _ ⟨c0, c1, c2, c3⟩ (fun hHeld => ?_)
  clear hK K
  refine norm_ (a' := ?_) ?_ ?_
  rotate_left
  · show Act.put _ (some 42) _ = _
    simp only [Act.put, List.setIfInBounds_toArray, List.set_cons_zero, List.set_cons_succ, i64_w, i32_w]
    rfl
  refine pure_ (i := 5) (N := some 37) (v := ?_) (a' := ?_) #[true, true, true, true, true, true, false, false, false, false] rfl rfl (by kernel_rfl) (fun _ _ _ h => h) (Or.inl ⟨by rfl, ?_⟩) ?_ ?_
  rotate_left
  · intro w'
    go_simp
    with_reducible rfl
  rotate_left
  · simp only [Act.put, List.setIfInBounds_toArray, List.set_cons_zero, List.set_cons_succ, i64_w, i32_w]
    rfl
  refine pure_ (i := 6) (N := some 43) (v := ?_) (a' := ?_) #[true, true, true, true, true, true, true, false, false, false] rfl rfl (by kernel_rfl) (fun _ _ _ h => h) (Or.inl ⟨by rfl, ?_⟩) ?_ ?_
  rotate_left
  · intro w'
    go_simp
    with_reducible rfl
  rotate_left
  · simp only [Act.put, List.setIfInBounds_toArray, List.set_cons_zero, List.set_cons_succ, i64_w, i32_w]
    rfl
  refine pure_ (i := 7) (N := some 44) (v := ?_) (a' := ?_) #[true, true, true, true, true, true, true, true, false, false] rfl rfl (by kernel_rfl) (fun _ _ _ h => h) (Or.inl ⟨by rfl, ?_⟩) ?_ ?_
  rotate_left
  · intro w'
    go_simp
    with_reducible rfl
  rotate_left
  · simp only [Act.put, List.setIfInBounds_toArray, List.set_cons_zero, List.set_cons_succ, i64_w, i32_w]
    rfl
  refine last_ (i := 8) (N := none) #[true, true, true, true, true, true, true, true, true, false] rfl rfl (by kernel_rfl) (by decide) (fun K hK => ?_)
  refine skip_ (w1 := ?_) (by rfl) rfl ?_ ?_
  rotate_left
  · go_simp
    rfl
  refine hK.out _ _ ?_
  clear hK K
  refine pure_ (i := 9) (N := some 9) (v := ?_) (a' := ?_) #[true, true, true, true, true, true, true, true, true, true] rfl rfl (by kernel_rfl) (fun _ _ _ h => h) (Or.inl ⟨by rfl, ?_⟩) ?_ ?_
  rotate_left
  · intro w'
    go_simp
    with_reducible rfl
  rotate_left
  · simp only [Act.put, List.setIfInBounds_toArray, List.set_cons_zero, List.set_cons_succ, i64_w, i32_w]
    rfl
  refine done_ (by kernel_rfl) ?_
  obtain ⟨Ab, cb, rfl⟩ := Kd.R_slice HOB.out
  obtain ⟨w7, hw7⟩ : ∃ w7, w7 = (((w6.setCell ⟨g7, 0, none⟩ (.int .u8 d0)).setCell ⟨g7, 1, none⟩ (.int .u8 d1)).setCell ⟨g7, 2, none⟩ (.int .u8 d2)).setCell ⟨g7, 3, none⟩ (.int .i64 d3) := ⟨_, rfl⟩
  have hkb : KeepBut w6 w7 g7 none := by rw [hw7]; exact ((((KeepBut.refl w6 g7 none).set_ 0 _).set_ 1 _).set_ 2 _).set_ 3 _
  have hg3 := HG75.out.1
  have hgw : w.heap.size ≤ g7 := Nat.le_trans HB3.out.size hg3
  have hba6 : Below w3.heap.size w3 w6 := below_then (below_drew HBa5.out) HBa5.out.size HBb.out
  have hba7 : Below w3.heap.size w3 w7 := by rw [hw7]; exact below_set (below_set (below_set (below_set hba6 hg3) hg3) hg3) hg3
  have HBa7 := Aside0.mk hba7
  have HB7 := Aside0.mk (below_then HB3.out HB3.out.size hba7)
  have HK77 := Aside0.mk (show w7.heap[g7]? = some (.cells #[.int .u8 d0, .int .u8 d1, .int .u8 d2, .int .i64 d3] 29 (0, 0)) from by rw [hw7]; exact blk_put (blk_put (blk_put (blk_put HK76.out 0 _ rfl) 1 _ rfl) 2 _ rfl) 3 _ rfl)
  have HK57 := Aside0.mk (blk_below HK5.out hba7)
  have HOA7 := Aside0.mk (Kd.R_keep (Kd.R_below (Kd.R_drew HOA5.out) HBb.out) hkb (fun k hk => by omega))
  have HOB7 := Aside0.mk (Kd.R_keep (Kd.R_mono (ok' := fun k => k ≠ g7) (Kd.R_bound HOB.out) (fun k hk => by have h1 : w5.heap.size ≤ k := hk.2.1; have := HG75.out.2; omega)) hkb (fun k hk => hk))
  have HSZ7 := Aside0.mk (show g7 < w7.heap.size from blk_lt HK77.out)
  rw [← hw7]
  clear hw7 hkb hg3 hgw hba6 hba7 c0 c1 c2 c3 f0 f1 f2 f3 k0 k1 k2 k3 hHeld HOA5 HOB HK76 HBb HK7 HBa5 HC2 hs2 HB5
  have k0 : w7.cell? ⟨g5, 0, none⟩ = some (.int .u8 d0) := (blk_cell HK57.out 0).trans rfl
  have k1 : w7.cell? ⟨g5, 1, none⟩ = some (.int .u8 d1) := (blk_cell HK57.out 1).trans rfl
  have k2 : w7.cell? ⟨g5, 2, none⟩ = some (.int .u8 d2) := (blk_cell HK57.out 2).trans rfl
  have k3 : w7.cell? ⟨g5, 3, none⟩ = some (.int .i64 d3) := (blk_cell HK57.out 3).trans rfl
  go_wp2_with fail
  refine (HFL.out w7).mono ?_
  rintro e w8 ⟨vf, rfl, hof, hb8⟩
  obtain ⟨Af, cf, rfl⟩ := Kd.R_slice hof
  have HOF8 := Aside0.mk hof
  have HB78 := Aside0.mk hb8
  clear hof hb8 k0 k1 k2 k3 HFL
  go_upto_region 10 with fail
  obtain ⟨w9, hw9⟩ : ∃ w9, w9 = w8.alloc (.cells #[.int .u8 0, .int .u8 0, .int .u8 0, .int .i64 0] 29) := ⟨_, rfl⟩
  obtain ⟨g10, hg10⟩ : ∃ g10, g10 = w8.heap.size := ⟨_, rfl⟩
  have hb9 : Below w8.heap.size w8 w9 := by rw [hw9]; exact below_alloc (Below.refl _ _) _
  have h79 : Below w7.heap.size w7 w9 := below_then HB78.out HB78.out.size hb9
  have hk7 := blk_below HK77.out h79
  have hk5 := blk_below HK57.out h79
  have HBa9 := Aside0.mk (below_then HBa7.out HBa7.out.size h79)
  have HOF9 := Aside0.mk (Kd.R_mono (ok' := fun k => w7.heap.size ≤ k) (Kd.R_bound (Kd.R_below HOF8.out hb9)) (fun k hk => hk.2.1))
  have HOA9 := Aside0.mk (Kd.R_mono (ok' := fun k => k < g7 ∨ w9.heap.size ≤ k) (Kd.R_below HOA7.out h79) (fun k hk => .inl hk))
  have HCB9 := Aside0.mk (Kd.C_below (Kd.R_reads' HOB7.out).2.2 h79)
  have HSZ9 := Aside0.mk (show w7.heap.size ≤ w9.heap.size from h79.size)
  rw [← hw9, ← hg10]
  have d50 : w9.cell? ⟨g5, 0, none⟩ = some (.int .u8 d0) := (blk_cell hk5 0).trans rfl
  have d51 : w9.cell? ⟨g5, 1, none⟩ = some (.int .u8 d1) := (blk_cell hk5 1).trans rfl
  have d52 : w9.cell? ⟨g5, 2, none⟩ = some (.int .u8 d2) := (blk_cell hk5 2).trans rfl
  have d53 : w9.cell? ⟨g5, 3, none⟩ = some (.int .i64 d3) := (blk_cell hk5 3).trans rfl
  have d70 : w9.cell? ⟨g7, 0, none⟩ = some (.int .u8 d0) := (blk_cell hk7 0).trans rfl
  have d71 : w9.cell? ⟨g7, 1, none⟩ = some (.int .u8 d1) := (blk_cell hk7 1).trans rfl
  have d72 : w9.cell? ⟨g7, 2, none⟩ = some (.int .u8 d2) := (blk_cell hk7 2).trans rfl
  have d73 : w9.cell? ⟨g7, 3, none⟩ = some (.int .i64 d3) := (blk_cell hk7 3).trans rfl
  clear hw9 hg10 hb9 h79 hk7 hk5 HOA7 HOB7 HOF8 HB78 HK77 HK57 HBa7
  have harr := fun W => ArrEq.eql_same d0 d1 d2 W
  go_wp2_with (first
    | ((with_reducible refine gate_builtin (b := .append) (xs := #[.tmp 64, .tmp 65]) rfl ?_); at_builtin; go_must ((refine unguard (by rfl) ?_; refine Kd.R_append_row (h1 := fun _ => rfl) (Value.int .i32) (0 : Int) (w0 := w3) w3.heap.size rfl (.tmp 64) (.tmp 65) 24 21 (.int .i32 0) 4 rfl Tryd.underlying24 info_i32 rfl (by decide) (.slice Aa L1.length ca) L1 L2 Ab L2.length cb (fun k => k < g7 ∨ w9.heap.size ≤ k) rfl rfl ?aF HOA9.out HCB9.out HBa9.out HBa9.out.size ?aL ?_; (case aF => exact fun k hk => .inr hk); (case aL => have h8 := HLEN.out; rw [HLL.out, List.length_append] at h8; omega); intro vab w10 ho hb hg hat; rw [← HLL.out] at ho; have HOAB := Aside0.mk ho; have HBa10 := Aside0.mk hb; have HKG := Aside0.mk (show Kept w9 w10 (fun k => k < w7.heap.size) from Kept.of_grown hg (Kept.refl w9 _) (fun k e9 => .inl (by have h6 := (Kd.R_bound HOA9.out).1 k e9; have h7 := h6.2.2.1; have h8 := HSZ7.out; rcases h6.1 with h9 | h9 <;> omega))); clear ho hb hg hat)))
    | fail)
  obtain ⟨Aab, cab, rfl⟩ := Kd.R_slice HOAB.out
  have HOL10 := Aside0.mk (Kd.R_below HOL3.out HBa10.out)
  have HCF10 := Aside0.mk (Kd.C_kept_own HOF9.out (fun k hk h => by omega) _ HKG.out)
  have HB10 := Aside0.mk (below_then HB3.out HB3.out.size HBa10.out)
  refine (same_c Al Aab cl cab L w10 (Kd.R_reads' HOL10.out).2.2 (Kd.R_reads' HOAB.out).2.2 (by have := HLEN.out; omega)).mono ?_
  rintro e w11 ⟨rfl, hb⟩
  have HOL11 := Aside0.mk (Kd.R_below HOL10.out hb)
  have HCF11 := Aside0.mk (Kd.C_below HCF10.out hb)
  have HB11 := Aside0.mk (below_kept HB10.out hb)
  clear hb HOL10 HCF10 HB10 HOAB HBa10 HKG HOL3 HOF9 HOA9 HCB9 HBa9 d50 d51 d52 d53 d70 d71 d72 d73 harr
  go_wp2_with (first
    | ((with_reducible refine gate_builtin (b := .append) (xs := #[.tmp 70, .tmp 71]) rfl ?_); at_builtin; go_must ((refine unguard (by rfl) ?_; refine Kd.R_append_row (h1 := fun _ => rfl) (Value.int .i32) (0 : Int) (w0 := w) w.heap.size rfl (.tmp 70) (.tmp 71) 24 21 (.int .i32 0) 4 rfl Tryd.underlying24 info_i32 rfl (by decide) (.slice Al L.length cl) L fl Af fl.length cf (fun _ => True) rfl rfl ?aF HOL11.out HCF11.out HB11.out HB11.out.size ?aL ?_; (case aF => exact fun _ _ => trivial); (case aL => have h8 := HLEN.out; have h9 := HFLL.out; omega); intro vw w12 ho hb hg hat; rw [HW.out] at ho; have HO12 := Aside0.mk ho; have HB12 := Aside0.mk hb; clear ho hb hg hat)))
    | fail)
  refine (HALL.out w12 HB12.out).mono ?_
  rintro e w13 ⟨vl, rfl, ho, hb⟩
  obtain ⟨A12, c12, rfl⟩ := Kd.R_slice HO12.out
  obtain ⟨A13, c13, rfl⟩ := Kd.R_slice ho
  have HR13 := Aside0.mk (Kd.R_reads' ho).2.2
  have HR12 := Aside0.mk (Kd.R_reads' (Kd.R_below HO12.out hb)).2.2
  have HB13 := Aside0.mk (below_kept HB12.out hb)
  clear ho hb HOL11 HCF11 HB11 HO12
  go_wp2_with fail
  refine (same_c A12 A13 c12 c13 rs w13 HR12.out HR13.out (by have h8 := HLEN.out; have h9 := HFLL.out; rw [← HW.out, List.length_append]; omega)).mono ?_
  rintro e w14 ⟨rfl, hb⟩
  have HB14 := Aside0.mk (below_kept HB13.out hb)
  clear hb HR12 HR13 HB13
  go_wp2
  go_ret
  exact ⟨rfl, HB14.out⟩
theorem parts_row {w : World} (s : ByteArray) (_ : s.size ≤ 140737488351232) (t : Int) (_ : (Lit.int .i64 t).wf = true) (hT : Utf8Tabs 0 1 w) : Calls Tryd.prog 4 #[.string s, .int .i64 t] w fun e w' => e = .returned (.bool true) ∧ Below w.heap.size w w' := by
  by_cases h : 500 < s.size
  · exact parts_big s t w hT h
  · exact parts_small s t w hT (by omega)
end Go.Proofs.YtneioenhnioehaaDoor.UtfParts
