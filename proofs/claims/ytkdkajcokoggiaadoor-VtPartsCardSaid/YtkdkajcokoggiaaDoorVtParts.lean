/- The law VtParts returns true: a walk through its text; the library's two tables hold what their texts lay. -/
import Derived.Test.YtkdkajcokoggiaaDoorVtFit
namespace Go.Proofs.YtkdkajcokoggiaaDoor.VtParts
open Go.RowKit Go.Proofs.YtkdkajcokoggiaaDoor.Kit Go.Proofs.YtkdkajcokoggiaaDoor.Plain Go.Proofs.YtkdkajcokoggiaaDoor.Mine Go.Proofs.YtkdkajcokoggiaaDoor.UtfPure Go.Proofs.YtkdkajcokoggiaaDoor.UtfFull Go.Proofs.YtkdkajcokoggiaaDoor.UtfFeed Go.Proofs.YtkdkajcokoggiaaDoor.UtfRunes Go.Proofs.YtkdkajcokoggiaaDoor.UtfPart Go.Proofs.YtkdkajcokoggiaaDoor.VtPure Go.Proofs.YtkdkajcokoggiaaDoor.VtSmall Go.Proofs.YtkdkajcokoggiaaDoor.VtInv Go.Proofs.YtkdkajcokoggiaaDoor.VtFeedAll Go.Proofs.YtkdkajcokoggiaaDoor.VtAll Go.Proofs.YtkdkajcokoggiaaDoor.VtSame Go.Proofs.YtkdkajcokoggiaaDoor.VtFit Go.Proofs.YtkdkajcokoggiaaDoorW.PrintWords Go.Proofs.YtkdkajcokoggiaaDoorW.PrintLast Go.Proofs.YtkdkajcokoggiaaDoorW.PrintMore
open Go.Lib (Utf8Tabs)
open Go.Proofs.YtkdkajcokoggiaaDoor.PVtParts (S37 k37 k37_open k37_openM k37_mk k37_mkM)
set_option linter.unusedVariables false
set_option linter.unusedSimpArgs false
theorem low16 (n : Int) : Go.bits .and .i64 n 65535 = n % 65536 := by
  have h127 : (BitVec.ofInt 64 65535).toNat = 2 ^ 16 - 1 := by decide
  have key : (BitVec.ofInt 64 n &&& BitVec.ofInt 64 65535).toNat = (n % ((2 ^ 64 : Nat) : Int)).toNat % 2 ^ 16 := by
    rw [BitVec.toNat_and, BitVec.toNat_ofInt, h127, Nat.and_two_pow_sub_one_eq_mod]
  show IntKind.i64.wrap ((BitVec.ofInt 64 n &&& BitVec.ofInt 64 65535).toNat : Nat) = n % 65536
  rw [key, IntKind.wrap_i64]
  omega
theorem bytes_take (s : ByteArray) (a : Nat) (h : a ≤ s.size) : bytesOf (s.extract 0 a) = (bytesOf s).take a := by
  unfold bytesOf
  rw [ByteArray.data_extract, Array.toList_extract, List.map_take]
  simp
theorem bytes_drop (s : ByteArray) (a : Nat) (h : a ≤ s.size) : bytesOf (s.extract a s.size) = (bytesOf s).drop a := by
  unfold bytesOf
  rw [ByteArray.data_extract, Array.toList_extract]
  have h2 : s.data.toList.extract a s.size = s.data.toList.drop a := by
    show (s.data.toList.drop a).take (s.size - a) = _
    exact List.take_of_length_le (by rw [List.length_drop, data_length]; omega)
  rw [h2, List.map_drop]
set_option maxHeartbeats 800000 in
set_option maxRecDepth 100000 in
theorem parts_big (s : ByteArray) (t : Int) (w : World) (hT : Utf8Tabs 0 1 w) (h : 1000 < s.size) : Calls Tryd.prog 3 #[.string s, .int .i64 t] w fun e w' => e = .returned (.bool true) ∧ Below w.heap.size w w' := by
  have hF := fit_c w hT
  have h2 : 1000 < (s.size : Int) := by omega
  have HF := Aside0.mk hF
  clear h hF hT
  go_enter Tryd.func3, Tryd.ntmps3
  go_wp2_with fail
  refine HF.out.mono ?_
  rintro e w1 ⟨rfl, hb⟩
  have HB := Aside0.mk hb
  clear hb HF
  go_wp2
  go_ret
  exact ⟨rfl, HB.out⟩
set_option maxHeartbeats 3200000 in
set_option maxRecDepth 100000 in
theorem parts_small (s : ByteArray) (t : Int) (w : World) (hT : Utf8Tabs 0 1 w) (hs : s.size ≤ 1000) : Calls Tryd.prog 3 #[.string s, .int .i64 t] w fun e w' => e = .returned (.bool true) ∧ Below w.heap.size w w' := by
  have hup := Tryd.underlying28
  have hua := Tryd.underlying37
  have HF := Aside0.mk (fit_c w hT)
  have hsz : (s.size : Int) ≤ 1000 := by omega
  have hlow := low16 t
  obtain ⟨u, hu16⟩ : ∃ u, Go.bits .and .i64 t 65535 = u := ⟨_, rfl⟩
  have u0 : 0 ≤ u := by omega
  have u1 : u < 65536 := by omega
  obtain ⟨a, ha⟩ : ∃ a : Nat, u % ((s.size : Int) + 1) = (a : Int) := ⟨(u % ((s.size : Int) + 1)).toNat, by have := Int.emod_nonneg u (show ((s.size : Int) + 1) ≠ 0 by omega); omega⟩
  have hal : a ≤ s.size := by have := Int.emod_lt_of_pos u (show (0 : Int) < (s.size : Int) + 1 by omega); omega
  have htm : Int.tmod u ((s.size : Int) + 1) = (a : Int) := by rw [Int.tmod_eq_emod_of_nonneg u0]; exact ha
  obtain ⟨s1, hs1⟩ : ∃ s1, s1 = s.extract 0 a := ⟨_, rfl⟩
  obtain ⟨s2, hs2⟩ : ∃ s2, s2 = s.extract a s.size := ⟨_, rfl⟩
  have e1 : bytesOf s1 = (bytesOf s).take a := by rw [hs1]; exact bytes_take s a hal
  have e2 : bytesOf s2 = (bytesOf s).drop a := by rw [hs2]; exact bytes_drop s a hal
  have z1 : s1.size ≤ 10000 := by rw [hs1, ByteArray.size_extract]; omega
  have z2 : s2.size ≤ 10000 := by rw [hs2, ByteArray.size_extract]; omega
  have hcat := allP_append (bytesOf s1) (bytesOf s2) (atP 0)
  rw [e1, e2, List.take_append_drop] at hcat
  rw [← e1, ← e2] at hcat
  have hg := good_all (bytesOf s) (bytesOf_bytes s) (atP 0) good_zero
  have hg1 := good_all (bytesOf s1) (bytesOf_bytes s1) (atP 0) good_zero
  have hl := all_len (bytesOf s) (bytesOf_bytes s) (atP 0) good_zero
  have hc := cap_all (bytesOf s) (bytesOf_bytes s) (atP 0) good_zero
  rw [bytesOf_length] at hl
  have HA := Aside0.mk (fun W (h : Below w.heap.size w W) => all0_c s W (tabs_below hT h) (by omega))
  have HA1 := Aside0.mk (fun W (h : Below w.heap.size w W) => all0_c s1 W (tabs_below hT h) z1)
  obtain ⟨D, hD⟩ : ∃ D, D = allP (atP 0) (bytesOf s) := ⟨_, rfl⟩
  obtain ⟨E1, hE1⟩ : ∃ E1, E1 = allP (atP 0) (bytesOf s1) := ⟨_, rfl⟩
  rw [← hE1] at HA1 hg1 hcat
  have HA2 := Aside0.mk (show ∀ (A : Option Addr) (n c : Nat) W, Below w.heap.size w W → Kd.C (Kd.int .i64) W A n E1.1.ps → Calls Tryd.prog 11 #[.agg #[.int .i64 E1.1.st, .int .u8 (E1.1.u[0]?.getD 0), .int .u8 (E1.1.u[1]?.getD 0), .int .u8 (E1.1.u[2]?.getD 0), .int .i64 E1.1.u.length, .string E1.1.mr, .slice A n c, .string E1.1.tx, .int .i64 E1.1.wi], .string s2] W (PT W A n (allP E1.1 (bytesOf s2))) from fun A n c W h hc => all_c E1.1 hg1 A n c s2 W hc (tabs_below hT h) z2)
  obtain ⟨E2, hE2⟩ : ∃ E2, E2 = allP E1.1 (bytesOf s2) := ⟨_, rfl⟩
  rw [← hE2] at HA2 hcat
  rw [← hD] at HA hcat hg hl hc
  obtain ⟨P, L⟩ := D
  obtain ⟨P1, L1⟩ := E1
  obtain ⟨P2, L2⟩ := E2
  simp only [Prod.mk.injEq] at hcat
  obtain ⟨hpp, hLL⟩ := hcat
  dsimp only at HA HA1 HA2 hg hl hc hLL hpp
  subst hpp
  have HLL := Aside0.mk hLL
  have HLEN := Aside0.mk (show L.length ≤ 7000 by omega)
  have HCAP := Aside0.mk (show ∀ x ∈ L, x.f4.length ≤ 8 from fun x hx => (hc x hx).2.1)
  have HP8 := Aside0.mk hg.ps8
  have HS1 := Aside0.mk hs1
  have HS2 := Aside0.mk hs2
  have hai : (a : Int) ≤ s.size := by omega
  have h65 : u % ((s.size : Int) + 1) = (a : Int) := ha
  have HAL := Aside0.mk hal
  clear hT hs hlow e1 e2 z1 z2 hg hg1 hl hc hD hE1 hE2 hLL hs1 hs2 ha hal
  go_enter Tryd.func3, Tryd.ntmps3
  go_wp2_with fail
  refine HF.out.mono ?_
  rintro e w1 ⟨rfl, hb⟩
  have HB1 := Aside0.mk hb
  clear hb HF
  go_upto_region 6 with fail
  go_cut [5, 6] (fun v5 v6 W => ∃ (g : Nat) (A : Option Addr) (n cp : Nat) (A2 : Option Addr) (c2 : Nat), v5 = .pointer (some ⟨g, 0, none⟩) ∧ v6 = .slice A2 L.length c2 ∧ Aside0 (Held W g P A n cp) ∧ Aside0 (Kd.C k37 W A2 L.length L) ∧ Aside0 (Below w.heap.size w W))
  case first =>
    go_wp2_with fail
    refine (HA.out w1 HB1.out).mono ?_
    intro e w2 h
    obtain ⟨A, n, cp, A2, c2, rfl, hsz, hx, hy, hz⟩ := PT.laid h
    have HX := Aside0.mk hx
    have HY := Aside0.mk (Kd.R_reads' hy).2.2
    have HZZ := Aside0.mk (below_kept HB1.out hz)
    clear h hx hy hz hsz HA
    go_wp2
    go_meet
    case rel => exact ⟨_, A, n, cp, A2, c2, rfl, rfl, HX, HY, HZZ⟩
  case rest =>
    obtain ⟨g5, A5, n5, cp5, A6, c6, rfl, rfl, HH5, HC6, HB5⟩ := hcut
    have hs1 := HS1.out.symm
    go_upto_region 7 with fail
    go_cut [7, 8] (fun v7 v8 W => ∃ (g : Nat) (A : Option Addr) (n cp : Nat) (A2 : Option Addr) (c2 : Nat), v7 = .pointer (some ⟨g, 0, none⟩) ∧ v8 = .slice A2 L1.length c2 ∧ Aside0 (Held W g P1 A n cp) ∧ Aside0 (w.heap.size ≤ g) ∧ Aside0 (Kd.R k37 37 W w.heap.size (fun k => k < g) (.slice A2 L1.length c2) L1) ∧ Aside0 (wc.heap.size ≤ g) ∧ Aside0 (Below wc.heap.size wc W))
    case first =>
      go_wp2_with fail
      refine (HA1.out wc HB5.out).mono ?_
      intro e w2 h
      obtain ⟨A, n, cp, A2, c2, rfl, hsz, hx, hy, hz⟩ := PT.laid h
      have HX := Aside0.mk hx
      have HY := Aside0.mk (Kd.R_lower (Kd.R_mono (ok' := fun k => k < w2.heap.size) hy (fun k hk => hk.2)) HB5.out.size)
      have HSZ := Aside0.mk hsz
      have HZZ := Aside0.mk hz
      have HSW := Aside0.mk (Nat.le_trans HB5.out.size hsz)
      clear h hx hy hz hsz HA1
      go_wp2
      go_meet
      case rel => exact ⟨_, A, n, cp, A2, c2, rfl, rfl, HX, HSW, HY, HSZ, HZZ⟩
    case rest =>
      obtain ⟨g7, A7, n7, cp7, A8, c8, rfl, rfl, HH7, HG7, HR8, HG57, HB7⟩ := hcut
      have HBw := Aside0.mk (below_kept HB5.out HB7.out)
      have hs2 := HS2.out.symm
      clear hs1 HB5
      obtain ⟨k0, k1, k2, k3, k4, k5, k6, k7, k8⟩ := HH7.out.drew.cells
      have hc2' := (HA2.out A7 n7 cp7 wc.drew (below_drew HBw.out) HH7.out.drew.2.1).mono (fun e w6 h => PT.told h)
      dsimp only at hc2'
      have HC2 := Aside0.mk hc2'
      clear hc2'
      clear HA2
      go_upto_region 8 with fail
      refine start_ (n := 10) (S := fun w' => w'.cell? ⟨g7, 0, none⟩ = some (.int .i64 P1.st) ∧ w'.cell? ⟨g7, 1, none⟩ = some (.int .u8 (P1.u[0]?.getD 0)) ∧ w'.cell? ⟨g7, 2, none⟩ = some (.int .u8 (P1.u[1]?.getD 0)) ∧ w'.cell? ⟨g7, 3, none⟩ = some (.int .u8 (P1.u[2]?.getD 0)) ∧ w'.cell? ⟨g7, 4, none⟩ = some (.int .i64 P1.u.length) ∧ w'.cell? ⟨g7, 5, none⟩ = some (.string P1.mr) ∧ w'.cell? ⟨g7, 6, none⟩ = some (.slice A7 n7 cp7) ∧ w'.cell? ⟨g7, 7, none⟩ = some (.string P1.tx) ∧ w'.cell? ⟨g7, 8, none⟩ = some (.int .i64 P1.wi)) (ds := [8]) #[false, false, false, false, false, false, false, false, false, false] (by kernel_rfl) rfl rfl ⟨k0, k1, k2, k3, k4, k5, k6, k7, k8⟩ (fun hHeld => ?_)
      refine pure_ (i := 1) (N := some 37) (v := ?_) (a' := ?_) #[false, true, false, false, false, false, false, false, false, false] rfl rfl (by kernel_rfl) (fun _ _ _ h => h) (Or.inl ⟨by rfl, ?_⟩) ?_ ?_
      rotate_left
      · intro w'
        go_simp
        with_reducible rfl
      rotate_left
      · simp only [Act.put, List.setIfInBounds_toArray, List.set_cons_zero, List.set_cons_succ, i64_w, i32_w]
        rfl
      refine pure_ (i := 2) (N := some 38) (v := ?_) (a' := ?_) #[false, true, true, false, false, false, false, false, false, false] rfl rfl (by kernel_rfl) (fun _ _ _ h => h) (Or.inl ⟨by rfl, ?_⟩) ?_ ?_
      rotate_left
      · intro w'
        go_simp
        with_reducible rfl
      rotate_left
      · simp only [Act.put, List.setIfInBounds_toArray, List.set_cons_zero, List.set_cons_succ, i64_w, i32_w]
        rfl
      refine pure_ (i := 3) (N := some 39) (v := ?_) (a' := ?_) #[false, true, true, true, false, false, false, false, false, false] rfl rfl (by kernel_rfl) (fun _ _ _ h => h) (Or.inl ⟨by rfl, ?_⟩) ?_ ?_
      rotate_left
      · intro w'
        go_simp
        with_reducible rfl
      rotate_left
      · simp only [Act.put, List.setIfInBounds_toArray, List.set_cons_zero, List.set_cons_succ, i64_w, i32_w]
        rfl
      refine take_ (i := 0) (N := some 36) (v := ?_) (a' := ?_) #[true, true, true, true, false, false, false, false, false, false] rfl rfl (by kernel_rfl) (fun _ _ _ h => h) (Or.inl ⟨by rfl, ?_⟩) hHeld ?_ ?_
      rotate_left
      · rintro w' ⟨s0, s1, s2, s3, s4, s5, s6, s7, s8⟩
        go_simp
        with_reducible rfl
      rotate_left
      · simp only [Act.put, List.setIfInBounds_toArray, List.set_cons_zero, List.set_cons_succ, i64_w, i32_w]
        rfl
      refine one_ (i := 4) (N := some 40) #[true, true, true, true, true, false, false, false, false, false] rfl rfl (by kernel_rfl) (by decide) (fun K hK => ?_)
      refine goes_ Tryd.func11 (by kernel_rfl) rfl #[.agg #[.int .i64 P1.st, .int .u8 (P1.u[0]?.getD 0), .int .u8 (P1.u[1]?.getD 0), .int .u8 (P1.u[2]?.getD 0), .int .i64 P1.u.length, .string P1.mr, .slice A7 n7 cp7, .string P1.tx, .int .i64 P1.wi], .string s2] (by rfl) rfl rfl (by simp only [List.map_toArray, List.map_cons, List.map_nil]; rfl) ?_
      with_reducible refine (HC2.out).mono ?_
      rintro e w6 ⟨A9, n9, cp9, AA, ca, rfl, hx6, hy6, hz6, hcl6⟩
      refine ⟨_, rfl, ?_⟩
      have HX6 := Aside0.mk hx6
      have HY6 := Aside0.mk hy6
      have HZ6 := Aside0.mk hz6
      have HCL6 := Aside0.mk hcl6
      have HH76 := Aside0.mk (HH7.out.drew.on hz6)
      clear hx6 hy6 hz6 hcl6
      obtain ⟨c0, c1, c2, c3, c4, c5, c6', c7, c8'⟩ := HH76.out.cells
      obtain ⟨f0, f1, f2, f3, f4, f5, f6, f7, f8⟩ := HH76.out.thaw
      refine hK.out _ _ ⟨c0, c1, c2, c3, c4, c5, c6', c7, c8'⟩ (fun hHeld => ?_)
      clear hK K
      refine norm_ (a' := ?_) ?_ ?_
      rotate_left
      · show Act.put _ (some 40) _ = _
        simp only [Act.put, List.setIfInBounds_toArray, List.set_cons_zero, List.set_cons_succ, i64_w, i32_w]
        rfl
      refine pure_ (i := 5) (N := some 35) (v := ?_) (a' := ?_) #[true, true, true, true, true, true, false, false, false, false] rfl rfl (by kernel_rfl) (fun _ _ _ h => h) (Or.inl ⟨by rfl, ?_⟩) ?_ ?_
      rotate_left
      · intro w'
        go_simp
        with_reducible rfl
      rotate_left
      · simp only [Act.put, List.setIfInBounds_toArray, List.set_cons_zero, List.set_cons_succ, i64_w, i32_w]
        rfl
      refine pure_ (i := 6) (N := some 41) (v := ?_) (a' := ?_) #[true, true, true, true, true, true, true, false, false, false] rfl rfl (by kernel_rfl) (fun _ _ _ h => h) (Or.inl ⟨by rfl, ?_⟩) ?_ ?_
      rotate_left
      · intro w'
        go_simp
        with_reducible rfl
      rotate_left
      · simp only [Act.put, List.setIfInBounds_toArray, List.set_cons_zero, List.set_cons_succ, i64_w, i32_w]
        rfl
      refine pure_ (i := 7) (N := some 42) (v := ?_) (a' := ?_) #[true, true, true, true, true, true, true, true, false, false] rfl rfl (by kernel_rfl) (fun _ _ _ h => h) (Or.inl ⟨by rfl, ?_⟩) ?_ ?_
      rotate_left
      · intro w'
        go_simp
        with_reducible rfl
      rotate_left
      · simp only [Act.put, List.setIfInBounds_toArray, List.set_cons_zero, List.set_cons_succ, i64_w, i32_w]
        rfl
      refine last_ (i := 8) (N := none) #[true, true, true, true, true, true, true, true, true, false] rfl rfl (by kernel_rfl) (by decide) (fun K hK => ?_)
      refine skip_ (w1 := ?_) (by rfl) rfl ?_ ?_
      rotate_left
      · go_simp
        rfl
      refine hK.out _ _ ?_
      clear hK K
      refine pure_ (i := 9) (N := some 9) (v := ?_) (a' := ?_) #[true, true, true, true, true, true, true, true, true, true] rfl rfl (by kernel_rfl) (fun _ _ _ h => h) (Or.inl ⟨by rfl, ?_⟩) ?_ ?_
      rotate_left
      · intro w'
        go_simp
        with_reducible rfl
      rotate_left
      · simp only [Act.put, List.setIfInBounds_toArray, List.set_cons_zero, List.set_cons_succ, i64_w, i32_w]
        rfl
      refine done_ (by kernel_rfl) ?_
      obtain ⟨w7, hw7⟩ : ∃ w7, w7 = ((((((((w6.setCell ⟨g7, 0, none⟩ (.int .i64 P.st)).setCell ⟨g7, 1, none⟩ (.int .u8 (P.u[0]?.getD 0))).setCell ⟨g7, 2, none⟩ (.int .u8 (P.u[1]?.getD 0))).setCell ⟨g7, 3, none⟩ (.int .u8 (P.u[2]?.getD 0))).setCell ⟨g7, 4, none⟩ (.int .i64 P.u.length)).setCell ⟨g7, 5, none⟩ (.string P.mr)).setCell ⟨g7, 6, none⟩ (.slice A9 n9 cp9)).setCell ⟨g7, 7, none⟩ (.string P.tx)).setCell ⟨g7, 8, none⟩ (.int .i64 P.wi) := ⟨_, rfl⟩
      have hk : KeepBut w6 w7 g7 none := by rw [hw7]; exact keep9 w6 g7 _ _ _ _ _ _ _ _ _
      have hh7 : Held w7 g7 P A9 n9 cp9 := by rw [hw7]; exact Held.set9 HH7.out.drew HZ6.out HX6.out HCL6.out
      have h06 := below_kept (below_drew HB7.out) HZ6.out
      have h07 := below9 h06 HG57.out (.int .i64 P.st) (.int .u8 (P.u[0]?.getD 0)) (.int .u8 (P.u[1]?.getD 0)) (.int .u8 (P.u[2]?.getD 0)) (.int .i64 P.u.length) (.string P.mr) (.slice A9 n9 cp9) (.string P.tx) (.int .i64 P.wi)
      rw [← hw7] at h07
      have HH57 := Aside0.mk (HH5.out.on h07)
      have HC67 := Aside0.mk (Kd.C_below HC6.out h07)
      have HH77 := Aside0.mk hh7
      obtain rfl : n9 = n5 := hh7.2.1.1.symm.trans HH5.out.2.1.1
      have hw6 := below_kept (below_drew HBw.out) HZ6.out
      have hwg := HG7.out
      have hb7 := below9 hw6 hwg (.int .i64 P.st) (.int .u8 (P.u[0]?.getD 0)) (.int .u8 (P.u[1]?.getD 0)) (.int .u8 (P.u[2]?.getD 0)) (.int .i64 P.u.length) (.string P.mr) (.slice A9 n9 cp9) (.string P.tx) (.int .i64 P.wi)
      rw [← hw7] at hb7
      have HB77 := Aside0.mk hb7
      have hg7lt : g7 < wc.drew.heap.size := blk_lt HH7.out.1
      have HL1 := Aside0.mk (rows_M (Kd.R_keep (Kd.R_below (Kd.R_drew HR8.out) HZ6.out) hk (fun k h => by omega)) (base' := w.heap.size) (okp := fun _ => True) (Nat.le_refl _) (fun _ _ => trivial)).2
      have hy7 := Kd.R_mono (ok' := fun k => k < w7.heap.size) (Kd.R_lower (Kd.R_keep HY6.out hk (fun k h => by have := h.1; omega)) (show w.heap.size ≤ wc.drew.heap.size from HBw.out.size)) (fun k h => Nat.lt_of_lt_of_le h.2 hk.1)
      have HY7 := Aside0.mk hy7
      have HL72 := Aside0.mk (show (([] : List S37).length + L1.length) * 72 ≤ 140737488355328 ∧ (L1.length + L2.length) * 72 ≤ 140737488355328 from by
        have h1 := HLEN.out
        rw [HLL.out, List.length_append] at h1
        rw [List.length_nil]
        omega)
      rw [← hw7]
      clear hw7 hk hh7 h06 h07 hw6 hwg hb7 hg7lt hy7 c0 c1 c2 c3 c4 c5 c6' c7 c8' f0 f1 f2 f3 f4 f5 f6 f7 f8 k0 k1 k2 k3 k4 k5 k6 k7 k8 hHeld HH5 HC6 HH7 HR8 HG57 HB7 HBw HC2 HX6 HY6 HZ6 HCL6 HH76 hs2
      go_wp2_with (first
        | ((with_reducible refine gate_builtin (b := .append) (xs := #[.const (.slice none 0 0), .tmp 44]) rfl ?_); at_builtin; go_must ((refine Kd.R_append_rows k37 (w0 := w) w.heap.size rfl (.const (.slice none 0 0)) (.tmp 44) 29 37 (.agg #[(.int .i64 0), (.int .i32 0), (.int .u8 0), (.string ⟨#[]⟩), (.slice none 0 0), (.string ⟨#[]⟩)]) 72 rfl Tryd.underlying29 info37 rfl (by decide) (by omega) (.slice none 0 0) [] L1 A8 L1.length c8 (fun _ => True) (fun _ => True) rfl rfl (Kd.R_nil _ _ _ _ _) HL1.out ?aK ?aO ?aF HB77.out HB77.out.size HL72.out.1 ?_; (case aK => exact fun x cs h => h); (case aO => exact fun k _ => ⟨trivial, fun h => nomatch h⟩); (case aF => exact fun _ _ => trivial); intro v8 w8 ho hb hg hat; rw [List.nil_append] at ho; have HO8 := Aside0.mk ho; have HB8 := Aside0.mk hb; have HB78 := Aside0.mk (Below.grown (Below.refl w7.heap.size w7) hg (Nat.le_refl _) (fun k e => nomatch e)); have HAT8 := Aside0.mk hat; have HL2 := Aside0.mk (rows_M (Kd.R_below HY7.out HB78.out) (base' := w.heap.size) (okp := fun k => k < w7.heap.size) (Nat.le_refl _) (fun _ h => h)).2; have HOK := Aside0.mk (show ∀ k, k < w7.heap.size → True ∧ some k ≠ v8.ownBlock from fun k hk => ⟨trivial, fun e => by rcases HAT8.out with h | ⟨b, h, hb2⟩; (· rw [h] at e; nomatch e); (· rw [h] at e; have := Option.some.inj e; omega)⟩); clear ho hb hg hat)))
        | ((with_reducible refine gate_builtin (b := .append) (xs := #[.tmp 45, .tmp 46]) rfl ?_); at_builtin; go_must ((refine Kd.R_append_rows k37 (w0 := w) w.heap.size rfl (.tmp 45) (.tmp 46) 29 37 (.agg #[(.int .i64 0), (.int .i32 0), (.int .u8 0), (.string ⟨#[]⟩), (.slice none 0 0), (.string ⟨#[]⟩)]) 72 rfl Tryd.underlying29 info37 rfl (by decide) (by omega) v8 L1 L2 AA L2.length ca (fun _ => True) (fun k => k < w7.heap.size) rfl rfl HO8.out HL2.out ?aK HOK.out ?aF HB8.out HB8.out.size HL72.out.2 ?_; (case aK => exact fun x cs h => h); (case aF => exact fun _ _ => trivial); intro v9 w9 ho hb hg hat; rw [← HLL.out] at ho; have HO9 := Aside0.mk ho; have HB9 := Aside0.mk hb; have HB79 := Aside0.mk (Below.grown HB78.out hg HB78.out.size (fun k e => by rcases HAT8.out with h | ⟨b, h, hb2⟩; (· rw [h] at e; nomatch e); (· rw [h] at e; have := Option.some.inj e; omega))); clear ho hb hg hat)))
        | fail)
      obtain ⟨A10, c10, rfl⟩ := Kd.R_slice HO9.out
      refine (same_c A6 A10 c6 c10 L w9 (Kd.C_below HC67.out HB79.out) (Kd.R_reads' HO9.out).2.2 (by have := HLEN.out; omega) HCAP.out).mono ?_
      rintro e w10 ⟨rfl, hb⟩
      have HH510 := Aside0.mk ((HH57.out.on HB79.out).on hb)
      have HH710 := Aside0.mk ((HH77.out.on HB79.out).on hb)
      have HB10 := Aside0.mk (below_kept HB9.out hb)
      obtain ⟨k0, k1, k2, k3, k4, k5, k6, k7, k8⟩ := HH510.out.cells
      obtain ⟨j0, j1, j2, j3, j4, j5, j6, j7, j8⟩ := HH710.out.cells
      clear hb HO9 HB9 HB79 HO8 HB8 HB78 HAT8 HL1 HL2 HOK HY7 HH57 HH77 HC67 HB77
      go_wp2_with fail
      refine (show Calls Tryd.prog 13 #[.agg #[.int .i64 P.st, .int .u8 (P.u[0]?.getD 0), .int .u8 (P.u[1]?.getD 0), .int .u8 (P.u[2]?.getD 0), .int .i64 P.u.length, .string P.mr, .slice A5 n9 cp5, .string P.tx, .int .i64 P.wi], .agg #[.int .i64 P.st, .int .u8 (P.u[0]?.getD 0), .int .u8 (P.u[1]?.getD 0), .int .u8 (P.u[2]?.getD 0), .int .i64 P.u.length, .string P.mr, .slice A9 n9 cp9, .string P.tx, .int .i64 P.wi]] w10 (fun e w' => e = .returned (.bool true) ∧ Below w10.heap.size w10 w') from alike_c P A5 A9 n9 cp5 cp9 w10 HH510.out.2.1 HH710.out.2.1 HP8.out).mono ?_
      rintro e w11 ⟨rfl, hb⟩
      have HB11 := Aside0.mk (below_kept HB10.out hb)
      clear hb k0 k1 k2 k3 k4 k5 k6 k7 k8 j0 j1 j2 j3 j4 j5 j6 j7 j8
      go_wp2
      go_ret
      exact ⟨rfl, HB11.out⟩
theorem parts_row {w : World} (s : ByteArray) (_ : s.size ≤ 140737488351232) (t : Int) (_ : (Lit.int .i64 t).wf = true) (hT : Utf8Tabs 0 1 w) : Calls Tryd.prog 3 #[.string s, .int .i64 t] w fun e w' => e = .returned (.bool true) ∧ Below w.heap.size w w' := by
  by_cases h : 1000 < s.size
  · exact parts_big s t w hT h
  · exact parts_small s t w hT (by omega)
end Go.Proofs.YtkdkajcokoggiaaDoor.VtParts
