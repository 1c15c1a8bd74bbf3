/- The law EventAny returns true: a walk through its text; no condition but that the slice can be read. -/
import Derived.Test.YtbofeaclgnekkaaEvFit
import Derived.Test.YtbofeaclgnekkaaEvPut2
import Derived.Test.YtbofeaclgnekkaaEvPure
import Derived.Test.YtbofeaclgnekkaaEventRef
namespace Go.Proofs.Ytbofeaclgnekkaa.EvAny
open Go.RowKit Go.Proofs.Ytbofeaclgnekkaa.Kit Go.Proofs.Ytbofeaclgnekkaa.Plain Go.Proofs.Ytbofeaclgnekkaa.Mine Go.Proofs.Ytbofeaclgnekkaa.Vary Go.Proofs.Ytbofeaclgnekkaa.Reader3 Go.Proofs.Ytbofeaclgnekkaa.Event Go.Proofs.Ytbofeaclgnekkaa.EventRef Go.Proofs.Ytbofeaclgnekkaa.EvFit Go.Proofs.Ytbofeaclgnekkaa.EvPut2 Go.Proofs.Ytbofeaclgnekkaa.EvTake Go.Proofs.Ytbofeaclgnekkaa.EvPure Go.Proofs.YtbofeaclgnekkaaW.PrintWords Go.Proofs.YtbofeaclgnekkaaW.PrintLast Go.Proofs.YtbofeaclgnekkaaW.PrintMore
open Go.Proofs.Ytbofeaclgnekkaa.EvPut (evb)
open Go.Proofs.Ytbofeaclgnekkaa.PEventRights (S25 z25 k25 k25_open k25_mk k25_mkM rd_T25 at_T25 info25)
set_option linter.unusedVariables false
set_option linter.unusedSimpArgs false
theorem low62 (n : Int) : Go.bits .and .i64 n 4611686018427387903 = n % 4611686018427387904 := by
  have h127 : (BitVec.ofInt 64 4611686018427387903).toNat = 2 ^ 62 - 1 := by decide
  have key : (BitVec.ofInt 64 n &&& BitVec.ofInt 64 4611686018427387903).toNat = (n % ((2 ^ 64 : Nat) : Int)).toNat % 2 ^ 62 := by
    rw [BitVec.toNat_and, BitVec.toNat_ofInt, h127, Nat.and_two_pow_sub_one_eq_mod]
  show IntKind.i64.wrap ((BitVec.ofInt 64 n &&& BitVec.ofInt 64 4611686018427387903).toNat : Nat) = n % 4611686018427387904
  rw [key, IntKind.wrap_i64]
  omega
set_option maxHeartbeats 800000 in
set_option maxRecDepth 100000 in
theorem any_big (A : Option Addr) (c : Nat) (b : List Int) (t : Int) (w : World) (h : 600 < b.length) :
    Calls Try.prog 7 #[.slice A b.length c, .int .i64 t] w fun e w' => e = .returned (.bool true) ∧ Below w.heap.size w w' := by
  have h2 : 600 < (b.length : Int) := by omega
  clear h
  go_enter Try.func7, Try.ntmps7
  go_wp2_with (go_at_call 8; refine (fit_c _).mono ?_; rintro e w1 ⟨rfl, hb⟩; have HB := Aside0.mk hb; clear hb)
  go_ret
  exact ⟨rfl, HB.out⟩
set_option maxHeartbeats 3200000 in
set_option maxRecDepth 100000 in
theorem any_small (A : Option Addr) (c : Nat) (b : List Int) (t : Int) (w : World) (hr : Kd.C (Kd.int .u8) w A b.length b) (hc : b.length ≤ c) (hb : ∀ y ∈ b, 0 ≤ y ∧ y < 256) (hl : b.length ≤ 600) :
    Calls Try.prog 7 #[.slice A b.length c, .int .i64 t] w fun e w' => e = .returned (.bool true) ∧ Below w.heap.size w w' := by
  have hu := Try.underlying25
  have h2 : (b.length : Int) ≤ 600 := by omega
  have hd := low62 t
  obtain ⟨fr, hfr⟩ : ∃ fr, Go.bits .and .i64 t 4611686018427387903 = fr := ⟨_, rfl⟩
  have d0 : 0 ≤ fr := by omega
  have d1 : fr < 4611686018427387904 := by omega
  have HTAKE := Aside0.mk (fun w0 W g h => take_raw w0 W g b fr h hb (by omega) d0 d1)
  unfold TakePost at HTAKE
  have HOK := Aside0.mk (take_back fr b hb)
  have HR := Aside0.mk hr
  have HC := Aside0.mk hc
  have HD := Aside0.mk (show 0 ≤ fr ∧ fr < 4611686018427387904 from ⟨d0, d1⟩)
  have HBL := Aside0.mk hl
  obtain ⟨x, hx⟩ : ∃ x, x = (takeX fr b).1 := ⟨_, rfl⟩
  obtain ⟨rs, hrs⟩ : ∃ rs, rs = (takeX fr b).2.1 := ⟨_, rfl⟩
  obtain ⟨bad, hbad⟩ : ∃ bad, bad = (takeX fr b).2.2 := ⟨_, rfl⟩
  obtain ⟨ok, hok⟩ : ∃ ok, ok = takeOk fr b := ⟨_, rfl⟩
  rw [← hx, ← hrs, ← hbad, ← hok] at HTAKE HOK
  clear hr hc hb hl hd d0 d1 hx hrs hbad hok
  go_enter Try.func7, Try.ntmps7
  go_wp2_with (go_at_call 8; refine (fit_c _).mono ?_; rintro e w1 ⟨rfl, hb⟩; have HB1 := Aside0.mk hb; clear hb)
  refine (of_c A c b w1 (Kd.C_below HR.out HB1.out) HC.out).mono ?_
  rintro e w9 ⟨g, rfl, hrs, hb⟩
  have HS9 := Aside0.mk hrs
  clear hrs hb
  cases ok with
  | false =>
    have HTK := Aside0.mk (show Calls Try.prog 20 #[.pointer (some ⟨g, 0, none⟩), .int .i64 fr] w9 (fun e w' => e = .returned (.tuple #[.agg #[.int .i64 0, .int .i64 0, .string ⟨#[]⟩, .int .i64 0, .int .i64 0], .bool false]) ∧ RS w1 w' g rs bad ∧ KeepBut w9 w' g none) from HTAKE.out w1 w9 g HS9.out)
    clear HTAKE HOK
    go_wp2_with fail
    refine HTK.out.mono ?_
    rintro e w10 ⟨rfl, hrs, hk⟩
    have HB10 := Aside0.mk (below_kept HB1.out hrs.2.1)
    clear hrs hk HTK
    go_wp2
    go_ret
    exact ⟨by first | rfl | (simp; done), below_alloc HB10.out _⟩
  | true =>
    obtain ⟨rfl, hrx, hle, hbe⟩ := HOK.out rfl
    have hpt := right_parts hrx
    have HPUT := Aside0.mk (fun (W : World) => put_raw2 (fun _ => False) (.slice none 0 0) [] fr x.f0 x.f1 x.f2 x.f3 x.f4 W W (Below.refl _ _) (Kd.R_nil _ _ _ _ _) (by omega) (by have := HD.out; omega) (by omega) (by omega) (by omega) (by simp))
    have HRR := Aside0.mk (fun W => rright_raw x.f0 x.f1 x.f2 x.f3 x.f4 W)
    rw [show rightB x.f0 x.f1 x.f2.size x.f3 x.f4 = true from hrx] at HRR
    have HTK := Aside0.mk (show Calls Try.prog 20 #[.pointer (some ⟨g, 0, none⟩), .int .i64 fr] w9 (fun e w' => e = .returned (.tuple #[.agg #[.int .i64 x.f0, .int .i64 x.f1, .string x.f2, .int .i64 x.f3, .int .i64 x.f4], .bool true]) ∧ RS w1 w' g rs false ∧ KeepBut w9 w' g none) from HTAKE.out w1 w9 g HS9.out)
    obtain ⟨xt, xk, xd, xw, xh⟩ := x
    dsimp only at HPUT HRR HTK hle hbe
    obtain ⟨ff, hff⟩ : ∃ ff, ff = evb fr ⟨xt, xk, xd, xw, xh⟩ := ⟨_, rfl⟩
    rw [← hff] at HPUT hbe
    have hlt : decide (xt < fr) = false := decide_eq_false (by omega)
    have hlen : b.length = ff.length + rs.length := by rw [hbe, List.length_append]
    have hle1 : decide ((ff.length : Int) ≤ (b.length : Int)) = true := decide_eq_true (by omega)
    have hle2 : decide (ff.length ≤ b.length) = true := decide_eq_true (by omega)
    have hz : ((ff.length : Int) == (b.length : Int)) = decide (rs.length = 0) := by
      by_cases h : rs.length = 0
      · rw [decide_eq_true h]; exact beq_iff_eq.mpr (by omega)
      · rw [decide_eq_false h]; exact beq_eq_false_iff_ne.mpr (by omega)
    obtain ⟨z, hzz⟩ : ∃ z, z = decide (rs.length = 0) := ⟨_, rfl⟩
    rw [← hzz] at hz
    obtain ⟨hcut, hcc, hA⟩ := cut_to_ex (P := Try.prog) (Kd.int .u8) 34 5 (.int .u8 0) 1 Try.underlying34 info_u8 A c b (ff.length : Int) (by omega) (by omega) HC.out
    have hffb : b.take ff.length = ff := by rw [hbe]; simp
    rw [Int.toNat_natCast, hffb] at hcut hA
    have HCV := Aside0.mk (show ∀ W, Below w.heap.size w W → (convert 34 9 (.slice A ff.length c)).run Try.prog W = .ok (.string (strOfNums ff)) W from fun W hW =>
      Kd.C_string (P := Try.prog) (src := 34) (dst := 9) (e := 5) (c := c) Try.underlying34 Try.underlying5 Try.underlying9 (hA _ (Kd.C_below HR.out hW)))
    have HZ := Aside0.mk hz
    have HZZ := Aside0.mk hzz
    have HCUT := Aside0.mk hcut
    have HLE1 := Aside0.mk hle1
    have HLE2 := Aside0.mk hle2
    clear HTAKE HOK hrx hpt hle hbe hff hlen hle1 hle2 hz hzz hcc hA hffb hcut
    go_wp2_with fail
    refine HTK.out.mono ?_
    rintro e w10 ⟨rfl, hrs, hk⟩
    have HS10 := Aside0.mk hrs
    clear hrs hk HTK
    go_upto_region 8 with fail
    obtain ⟨w11, hw11⟩ : ∃ w11, w11 = w10.alloc (.cells #[.int .i64 xt, .int .i64 xk, .string xd, .int .i64 xw, .int .i64 xh] 25) := ⟨_, rfl⟩
    obtain ⟨g3, hg3⟩ : ∃ g3, g3 = w10.heap.size := ⟨_, rfl⟩
    have hb11 : Below w10.heap.size w10 w11 := by rw [hw11]; exact below_alloc (Below.refl _ _) _
    have BK := Aside0.mk (show w11.heap[g3]? = some (.cells #[.int .i64 xt, .int .i64 xk, .string xd, .int .i64 xw, .int .i64 xh] 25 (0, 0)) from by rw [hw11, hg3]; exact blk_new w10 _)
    have HS11 := Aside0.mk (rs_below HS10.out hb11)
    rw [← hw11, ← hg3]
    have e0 : w11.cell? ⟨g3, 0, none⟩ = some (.int .i64 xt) := (blk_cell BK.out 0).trans rfl
    have e1 : w11.cell? ⟨g3, 1, none⟩ = some (.int .i64 xk) := (blk_cell BK.out 1).trans rfl
    have e2 : w11.cell? ⟨g3, 2, none⟩ = some (.string xd) := (blk_cell BK.out 2).trans rfl
    have e3 : w11.cell? ⟨g3, 3, none⟩ = some (.int .i64 xw) := (blk_cell BK.out 3).trans rfl
    have e4 : w11.cell? ⟨g3, 4, none⟩ = some (.int .i64 xh) := (blk_cell BK.out 4).trans rfl
    clear hw11 hg3 hb11 HS10
    go_wp2_with fail
    refine (HRR.out w11).mono ?_
    rintro e w12 ⟨rfl, hb⟩
    have BK2 := Aside0.mk (blk_below BK.out hb)
    have HS12 := Aside0.mk (rs_below HS11.out hb)
    clear hb HRR e0 e1 e2 e3 e4 BK HS11
    have e0 : w12.cell? ⟨g3, 0, none⟩ = some (.int .i64 xt) := (blk_cell BK2.out 0).trans rfl
    go_wp2_with fail
    refine (good_c w1 w12 g rs false HS12.out).mono ?_
    rintro e w13 ⟨rfl, hb⟩
    have BK3 := Aside0.mk (blk_below BK2.out hb)
    have HS13 := Aside0.mk (rs_below HS12.out hb)
    clear hb e0 BK2 HS12
    have e0 : w13.cell? ⟨g3, 0, none⟩ = some (.int .i64 xt) := (blk_cell BK3.out 0).trans rfl
    have e1 : w13.cell? ⟨g3, 1, none⟩ = some (.int .i64 xk) := (blk_cell BK3.out 1).trans rfl
    have e2 : w13.cell? ⟨g3, 2, none⟩ = some (.string xd) := (blk_cell BK3.out 2).trans rfl
    have e3 : w13.cell? ⟨g3, 3, none⟩ = some (.int .i64 xw) := (blk_cell BK3.out 3).trans rfl
    have e4 : w13.cell? ⟨g3, 4, none⟩ = some (.int .i64 xh) := (blk_cell BK3.out 4).trans rfl
    go_wp2_with fail
    refine (HPUT.out w13).mono ?_
    rintro e w14 ⟨v8, rfl, ho, hb, _⟩
    rw [List.nil_append] at ho
    obtain ⟨A8, c8, rfl⟩ := Kd.R_slice ho
    have HS14 := Aside0.mk (rs_below HS13.out hb)
    have HCE := Aside0.mk (Kd.R_reads' ho).2.2
    clear ho hb e0 e1 e2 e3 e4 BK3 HS13 HPUT
    have HW14 := Aside0.mk (below_kept HB1.out HS14.out.2.1)
    have hcv1 := HCV.out w14.drew (below_drew HW14.out)
    have hcv2 := Kd.C_string (P := Try.prog) (src := 34) (dst := 9) (e := 5) (c := c8) Try.underlying34 Try.underlying5 Try.underlying9 (Kd.C_drew HCE.out)
    have HCV2 := Aside0.mk (fun W (h : Below w14.heap.size w14 W) => Kd.C_string (P := Try.prog) (src := 34) (dst := 9) (e := 5) (c := c8) Try.underlying34 Try.underlying5 Try.underlying9 (Kd.C_below HCE.out h))
    have HD0 := Aside0.mk (below_drew (Below.refl w14.heap.size w14))
    have hdn := done_c w1 w14.drew g rs false (rs_below HS14.out HD0.out)
    rw [← HZZ.out] at hdn
    have HDN := Aside0.mk hdn
    have hz := HZ.out
    have hcut := HCUT.out
    have hle1 := HLE1.out
    have hle2 := HLE2.out
    clear hdn
    go_upto_region 13 with fail
    cases z
    · have HDN2 := HDN
      refine start_ (n := 26) (S := fun w' => (convert 34 9 (.slice A ff.length c)).run Try.prog w' = .ok (.string (strOfNums ff)) w' ∧ (convert 34 9 (.slice A8 ff.length c8)).run Try.prog w' = .ok (.string (strOfNums ff)) w') (ds := []) #[false, false, false, false, false, false, false, false, false, false, false, false, false, false, false, false, false, false, false, false, false, false, false, false, false, false] (by kernel_rfl) rfl rfl ⟨hcv1, hcv2⟩ (fun hHeld => ?_)
      refine pure_ (i := 0) (N := some 46) (v := ?_) (a' := ?_) #[true, false, false, false, false, false, false, false, false, false, false, false, false, false, false, false, false, false, false, false, false, false, false, false, false, false] rfl rfl (by kernel_rfl) (fun _ _ _ h => h) (Or.inl ⟨by rfl, ?_⟩) ?_ ?_
      rotate_left
      · intro w'
        go_simp
        with_reducible rfl
      rotate_left
      · simp only [Act.put, List.setIfInBounds_toArray, List.set_cons_zero, List.set_cons_succ, i64_w, i32_w]
        rfl
      refine pure_ (i := 1) (N := some 47) (v := ?_) (a' := ?_) #[true, true, false, false, false, false, false, false, false, false, false, false, false, false, false, false, false, false, false, false, false, false, false, false, false, false] rfl rfl (by kernel_rfl) (fun _ _ _ h => h) (Or.inl ⟨by rfl, ?_⟩) ?_ ?_
      rotate_left
      · intro w'
        go_simp
        with_reducible rfl
      rotate_left
      · simp only [Act.put, List.setIfInBounds_toArray, List.set_cons_zero, List.set_cons_succ, i64_w, i32_w]
        rfl
      refine pure_ (i := 2) (N := some 48) (v := ?_) (a' := ?_) #[true, true, true, false, false, false, false, false, false, false, false, false, false, false, false, false, false, false, false, false, false, false, false, false, false, false] rfl rfl (by kernel_rfl) (fun _ _ _ h => h) (Or.inl ⟨by rfl, ?_⟩) ?_ ?_
      rotate_left
      · intro w'
        go_simp
        with_reducible rfl
      rotate_left
      · simp only [Act.put, List.setIfInBounds_toArray, List.set_cons_zero, List.set_cons_succ, i64_w, i32_w]
        rfl
      refine pure_ (i := 3) (N := some 49) (v := ?_) (a' := ?_) #[true, true, true, true, false, false, false, false, false, false, false, false, false, false, false, false, false, false, false, false, false, false, false, false, false, false] rfl rfl (by kernel_rfl) (fun _ _ _ h => h) (Or.inl ⟨by rfl, ?_⟩) ?_ ?_
      rotate_left
      · intro w'
        go_simp
        with_reducible rfl
      rotate_left
      · simp only [Act.put, List.setIfInBounds_toArray, List.set_cons_zero, List.set_cons_succ, i64_w, i32_w]
        rfl
      refine pure_ (i := 4) (N := some 50) (v := ?_) (a' := ?_) #[true, true, true, true, true, false, false, false, false, false, false, false, false, false, false, false, false, false, false, false, false, false, false, false, false, false] rfl rfl (by kernel_rfl) (fun _ _ _ h => h) (Or.inl ⟨by rfl, ?_⟩) ?_ ?_
      rotate_left
      · intro w'
        go_simp
        with_reducible rfl
      rotate_left
      · simp only [Act.put, List.setIfInBounds_toArray, List.set_cons_zero, List.set_cons_succ, i64_w, i32_w]
        rfl
      refine pure_ (i := 5) (N := some 51) (v := ?_) (a' := ?_) #[true, true, true, true, true, true, false, false, false, false, false, false, false, false, false, false, false, false, false, false, false, false, false, false, false, false] rfl rfl (by kernel_rfl) (fun _ _ _ h => h) (Or.inl ⟨by rfl, ?_⟩) ?_ ?_
      rotate_left
      · intro w'
        go_simp
        with_reducible rfl
      rotate_left
      · simp only [Act.put, List.setIfInBounds_toArray, List.set_cons_zero, List.set_cons_succ, i64_w, i32_w]
        rfl
      refine pure_ (i := 6) (N := some 52) (v := ?_) (a' := ?_) #[true, true, true, true, true, true, true, false, false, false, false, false, false, false, false, false, false, false, false, false, false, false, false, false, false, false] rfl rfl (by kernel_rfl) (fun _ _ _ h => h) (Or.inl ⟨by rfl, ?_⟩) ?_ ?_
      rotate_left
      · intro w'
        go_simp
        with_reducible rfl
      rotate_left
      · simp only [Act.put, List.setIfInBounds_toArray, List.set_cons_zero, List.set_cons_succ, i64_w, i32_w]
        rfl
      refine pure_ (i := 7) (N := some 53) (v := ?_) (a' := ?_) #[true, true, true, true, true, true, true, true, false, false, false, false, false, false, false, false, false, false, false, false, false, false, false, false, false, false] rfl rfl (by kernel_rfl) (fun _ _ _ h => h) (Or.inl ⟨by rfl, ?_⟩) ?_ ?_
      rotate_left
      · intro w'
        go_simp
        with_reducible rfl
      rotate_left
      · simp only [Act.put, List.setIfInBounds_toArray, List.set_cons_zero, List.set_cons_succ, i64_w, i32_w]
        rfl
      refine pure_ (i := 8) (N := some 54) (v := ?_) (a' := ?_) #[true, true, true, true, true, true, true, true, true, false, false, false, false, false, false, false, false, false, false, false, false, false, false, false, false, false] rfl rfl (by kernel_rfl) (fun _ _ _ h => h) (Or.inl ⟨by rfl, ?_⟩) ?_ ?_
      rotate_left
      · intro w'
        go_simp
        with_reducible rfl
      rotate_left
      · simp only [Act.put, List.setIfInBounds_toArray, List.set_cons_zero, List.set_cons_succ, i64_w, i32_w]
        rfl
      refine pure_ (i := 9) (N := some 55) (v := ?_) (a' := ?_) #[true, true, true, true, true, true, true, true, true, true, false, false, false, false, false, false, false, false, false, false, false, false, false, false, false, false] rfl rfl (by kernel_rfl) (fun _ _ _ h => h) (Or.inl ⟨by rfl, ?_⟩) ?_ ?_
      rotate_left
      · intro w'
        go_simp
        with_reducible rfl
      rotate_left
      · simp only [Act.put, List.setIfInBounds_toArray, List.set_cons_zero, List.set_cons_succ, i64_w, i32_w]
        rfl
      refine pure_ (i := 11) (N := some 57) (v := ?_) (a' := ?_) #[true, true, true, true, true, true, true, true, true, true, false, true, false, false, false, false, false, false, false, false, false, false, false, false, false, false] rfl rfl (by kernel_rfl) (fun _ _ _ h => h) (Or.inl ⟨by rfl, ?_⟩) ?_ ?_
      rotate_left
      · intro w'
        go_simp
        with_reducible rfl
      rotate_left
      · simp only [Act.put, List.setIfInBounds_toArray, List.set_cons_zero, List.set_cons_succ, i64_w, i32_w]
        rfl
      refine take_ (i := 10) (N := some 56) (v := ?_) (a' := ?_) #[true, true, true, true, true, true, true, true, true, true, true, true, false, false, false, false, false, false, false, false, false, false, false, false, false, false] rfl rfl (by kernel_rfl) (fun _ _ _ h => h) (Or.inl ⟨by rfl, ?_⟩) hHeld ?_ ?_
      rotate_left
      · rintro w' ⟨s0, s1⟩
        go_simp
        with_reducible rfl
      rotate_left
      · simp only [Act.put, List.setIfInBounds_toArray, List.set_cons_zero, List.set_cons_succ, i64_w, i32_w]
        rfl
      refine take_ (i := 12) (N := some 58) (v := ?_) (a' := ?_) #[true, true, true, true, true, true, true, true, true, true, true, true, true, false, false, false, false, false, false, false, false, false, false, false, false, false] rfl rfl (by kernel_rfl) (fun _ _ _ h => h) (Or.inl ⟨by rfl, ?_⟩) hHeld ?_ ?_
      rotate_left
      · rintro w' ⟨s0, s1⟩
        go_simp
        with_reducible rfl
      rotate_left
      · simp only [Act.put, List.setIfInBounds_toArray, List.set_cons_zero, List.set_cons_succ, i64_w, i32_w]
        rfl
      refine pure_ (i := 13) (N := some 59) (v := ?_) (a' := ?_) #[true, true, true, true, true, true, true, true, true, true, true, true, true, true, false, false, false, false, false, false, false, false, false, false, false, false] rfl rfl (by kernel_rfl) (fun _ _ _ h => h) (Or.inl ⟨by rfl, ?_⟩) ?_ ?_
      rotate_left
      · intro w'
        go_simp
        with_reducible rfl
      rotate_left
      · simp only [Act.put, List.setIfInBounds_toArray, List.set_cons_zero, List.set_cons_succ, i64_w, i32_w]
        rfl
      refine pure_ (i := 14) (N := some 60) (v := ?_) (a' := ?_) #[true, true, true, true, true, true, true, true, true, true, true, true, true, true, true, false, false, false, false, false, false, false, false, false, false, false] rfl rfl (by kernel_rfl) (fun _ _ _ h => h) (Or.inl ⟨by rfl, ?_⟩) ?_ ?_
      rotate_left
      · intro w'
        go_simp
        with_reducible rfl
      rotate_left
      · simp only [Act.put, List.setIfInBounds_toArray, List.set_cons_zero, List.set_cons_succ, i64_w, i32_w]
        rfl
      refine pure_ (i := 15) (N := some 61) (v := ?_) (a' := ?_) #[true, true, true, true, true, true, true, true, true, true, true, true, true, true, true, true, false, false, false, false, false, false, false, false, false, false] rfl rfl (by kernel_rfl) (fun _ _ _ h => h) (Or.inl ⟨by rfl, ?_⟩) ?_ ?_
      rotate_left
      · intro w'
        go_simp
        with_reducible rfl
      rotate_left
      · simp only [Act.put, List.setIfInBounds_toArray, List.set_cons_zero, List.set_cons_succ, i64_w, i32_w]
        rfl
      refine pure_ (i := 16) (N := some 62) (v := ?_) (a' := ?_) #[true, true, true, true, true, true, true, true, true, true, true, true, true, true, true, true, true, false, false, false, false, false, false, false, false, false] rfl rfl (by kernel_rfl) (fun _ _ _ h => h) (Or.inl ⟨by rfl, ?_⟩) ?_ ?_
      rotate_left
      · intro w'
        go_simp
        with_reducible rfl
      rotate_left
      · simp only [Act.put, List.setIfInBounds_toArray, List.set_cons_zero, List.set_cons_succ, i64_w, i32_w]
        rfl
      refine pure_ (i := 18) (N := some 64) (v := ?_) (a' := ?_) #[true, true, true, true, true, true, true, true, true, true, true, true, true, true, true, true, true, false, true, false, false, false, false, false, false, false] rfl rfl (by kernel_rfl) (fun _ _ _ h => h) (Or.inl ⟨by rfl, ?_⟩) ?_ ?_
      rotate_left
      · intro w'
        go_simp
        with_reducible rfl
      rotate_left
      · simp only [Act.put, List.setIfInBounds_toArray, List.set_cons_zero, List.set_cons_succ, i64_w, i32_w]
        rfl
      refine pure_ (i := 19) (N := some 65) (v := ?_) (a' := ?_) #[true, true, true, true, true, true, true, true, true, true, true, true, true, true, true, true, true, false, true, true, false, false, false, false, false, false] rfl rfl (by kernel_rfl) (fun _ _ _ h => h) (Or.inl ⟨by rfl, ?_⟩) ?_ ?_
      rotate_left
      · intro w'
        go_simp
        with_reducible rfl
      rotate_left
      · simp only [Act.put, List.setIfInBounds_toArray, List.set_cons_zero, List.set_cons_succ, i64_w, i32_w]
        rfl
      refine pure_ (i := 20) (N := some 66) (v := ?_) (a' := ?_) #[true, true, true, true, true, true, true, true, true, true, true, true, true, true, true, true, true, false, true, true, true, false, false, false, false, false] rfl rfl (by kernel_rfl) (fun _ _ _ h => h) (Or.inl ⟨by rfl, ?_⟩) ?_ ?_
      rotate_left
      · intro w'
        go_simp
        with_reducible rfl
      rotate_left
      · simp only [Act.put, List.setIfInBounds_toArray, List.set_cons_zero, List.set_cons_succ, i64_w, i32_w]
        rfl
      refine pure_ (i := 21) (N := some 67) (v := ?_) (a' := ?_) #[true, true, true, true, true, true, true, true, true, true, true, true, true, true, true, true, true, false, true, true, true, true, false, false, false, false] rfl rfl (by kernel_rfl) (fun _ _ _ h => h) (Or.inl ⟨by rfl, ?_⟩) ?_ ?_
      rotate_left
      · intro w'
        go_simp
        with_reducible rfl
      rotate_left
      · simp only [Act.put, List.setIfInBounds_toArray, List.set_cons_zero, List.set_cons_succ, i64_w, i32_w]
        rfl
      refine pure_ (i := 22) (N := some 68) (v := ?_) (a' := ?_) #[true, true, true, true, true, true, true, true, true, true, true, true, true, true, true, true, true, false, true, true, true, true, true, false, false, false] rfl rfl (by kernel_rfl) (fun _ _ _ h => h) (Or.inl ⟨by rfl, ?_⟩) ?_ ?_
      rotate_left
      · intro w'
        go_simp
        with_reducible rfl
      rotate_left
      · simp only [Act.put, List.setIfInBounds_toArray, List.set_cons_zero, List.set_cons_succ, i64_w, i32_w]
        rfl
      refine one_ (i := 17) (N := some 63) #[true, true, true, true, true, true, true, true, true, true, true, true, true, true, true, true, true, true, true, true, true, true, true, false, false, false] rfl rfl (by kernel_rfl) (by decide) (fun K hK => ?_)
      refine goes_ Try.func22 (by kernel_rfl) rfl #[.pointer (some ⟨g, 0, none⟩)] (by rfl) rfl rfl (by simp only [List.map_toArray, List.map_cons, List.map_nil]; rfl) ?_
      with_reducible refine (HDN.out).mono ?_
      rintro e w15 ⟨rfl, hb15⟩
      refine ⟨_, rfl, ?_⟩
      have HW15 := Aside0.mk (below_kept HD0.out hb15)
      clear hb15
      refine hK.out _ _ ⟨(HCV.out _ (below_kept HW14.out HW15.out)), (HCV2.out _ HW15.out)⟩ (fun hHeld => ?_)
      clear hK K
      refine norm_ (a' := ?_) ?_ ?_
      rotate_left
      · show Act.put _ (some 63) _ = _
        simp only [Act.put, List.setIfInBounds_toArray, List.set_cons_zero, List.set_cons_succ, i64_w, i32_w]
        rfl
      refine pure_ (i := 23) (N := some 69) (v := ?_) (a' := ?_) #[true, true, true, true, true, true, true, true, true, true, true, true, true, true, true, true, true, true, true, true, true, true, true, true, false, false] rfl rfl (by kernel_rfl) (fun _ _ _ h => h) (Or.inl ⟨by rfl, ?_⟩) ?_ ?_
      rotate_left
      · intro w'
        go_simp
        with_reducible rfl
      rotate_left
      · simp only [Act.put, List.setIfInBounds_toArray, List.set_cons_zero, List.set_cons_succ, i64_w, i32_w]
        rfl
      refine pure_ (i := 24) (N := some 70) (v := ?_) (a' := ?_) #[true, true, true, true, true, true, true, true, true, true, true, true, true, true, true, true, true, true, true, true, true, true, true, true, true, false] rfl rfl (by kernel_rfl) (fun _ _ _ h => h) (Or.inl ⟨by rfl, ?_⟩) ?_ ?_
      rotate_left
      · intro w'
        go_simp
        with_reducible rfl
      rotate_left
      · simp only [Act.put, List.setIfInBounds_toArray, List.set_cons_zero, List.set_cons_succ, i64_w, i32_w]
        rfl
      refine pure_ (i := 25) (N := some 4) (v := ?_) (a' := ?_) #[true, true, true, true, true, true, true, true, true, true, true, true, true, true, true, true, true, true, true, true, true, true, true, true, true, true] rfl rfl (by kernel_rfl) (fun _ _ _ h => h) (Or.inl ⟨by rfl, ?_⟩) ?_ ?_
      rotate_left
      · intro w'
        go_simp
        with_reducible rfl
      rotate_left
      · simp only [Act.put, List.setIfInBounds_toArray, List.set_cons_zero, List.set_cons_succ, i64_w, i32_w]
        rfl
      refine done_ (by kernel_rfl) ?_
      go_wp2
      go_ret
      exact ⟨by first | rfl | (simp; done) | (simp [hz]; done), below_kept HW14.out HW15.out⟩
    · have HDN2 := HDN
      refine start_ (n := 26) (S := fun w' => (convert 34 9 (.slice A ff.length c)).run Try.prog w' = .ok (.string (strOfNums ff)) w' ∧ (convert 34 9 (.slice A8 ff.length c8)).run Try.prog w' = .ok (.string (strOfNums ff)) w') (ds := []) #[false, false, false, false, false, false, false, false, false, false, false, false, false, false, false, false, false, false, false, false, false, false, false, false, false, false] (by kernel_rfl) rfl rfl ⟨hcv1, hcv2⟩ (fun hHeld => ?_)
      refine pure_ (i := 0) (N := some 46) (v := ?_) (a' := ?_) #[true, false, false, false, false, false, false, false, false, false, false, false, false, false, false, false, false, false, false, false, false, false, false, false, false, false] rfl rfl (by kernel_rfl) (fun _ _ _ h => h) (Or.inl ⟨by rfl, ?_⟩) ?_ ?_
      rotate_left
      · intro w'
        go_simp
        with_reducible rfl
      rotate_left
      · simp only [Act.put, List.setIfInBounds_toArray, List.set_cons_zero, List.set_cons_succ, i64_w, i32_w]
        rfl
      refine pure_ (i := 1) (N := some 47) (v := ?_) (a' := ?_) #[true, true, false, false, false, false, false, false, false, false, false, false, false, false, false, false, false, false, false, false, false, false, false, false, false, false] rfl rfl (by kernel_rfl) (fun _ _ _ h => h) (Or.inl ⟨by rfl, ?_⟩) ?_ ?_
      rotate_left
      · intro w'
        go_simp
        with_reducible rfl
      rotate_left
      · simp only [Act.put, List.setIfInBounds_toArray, List.set_cons_zero, List.set_cons_succ, i64_w, i32_w]
        rfl
      refine pure_ (i := 2) (N := some 48) (v := ?_) (a' := ?_) #[true, true, true, false, false, false, false, false, false, false, false, false, false, false, false, false, false, false, false, false, false, false, false, false, false, false] rfl rfl (by kernel_rfl) (fun _ _ _ h => h) (Or.inl ⟨by rfl, ?_⟩) ?_ ?_
      rotate_left
      · intro w'
        go_simp
        with_reducible rfl
      rotate_left
      · simp only [Act.put, List.setIfInBounds_toArray, List.set_cons_zero, List.set_cons_succ, i64_w, i32_w]
        rfl
      refine pure_ (i := 3) (N := some 49) (v := ?_) (a' := ?_) #[true, true, true, true, false, false, false, false, false, false, false, false, false, false, false, false, false, false, false, false, false, false, false, false, false, false] rfl rfl (by kernel_rfl) (fun _ _ _ h => h) (Or.inl ⟨by rfl, ?_⟩) ?_ ?_
      rotate_left
      · intro w'
        go_simp
        with_reducible rfl
      rotate_left
      · simp only [Act.put, List.setIfInBounds_toArray, List.set_cons_zero, List.set_cons_succ, i64_w, i32_w]
        rfl
      refine pure_ (i := 4) (N := some 50) (v := ?_) (a' := ?_) #[true, true, true, true, true, false, false, false, false, false, false, false, false, false, false, false, false, false, false, false, false, false, false, false, false, false] rfl rfl (by kernel_rfl) (fun _ _ _ h => h) (Or.inl ⟨by rfl, ?_⟩) ?_ ?_
      rotate_left
      · intro w'
        go_simp
        with_reducible rfl
      rotate_left
      · simp only [Act.put, List.setIfInBounds_toArray, List.set_cons_zero, List.set_cons_succ, i64_w, i32_w]
        rfl
      refine pure_ (i := 5) (N := some 51) (v := ?_) (a' := ?_) #[true, true, true, true, true, true, false, false, false, false, false, false, false, false, false, false, false, false, false, false, false, false, false, false, false, false] rfl rfl (by kernel_rfl) (fun _ _ _ h => h) (Or.inl ⟨by rfl, ?_⟩) ?_ ?_
      rotate_left
      · intro w'
        go_simp
        with_reducible rfl
      rotate_left
      · simp only [Act.put, List.setIfInBounds_toArray, List.set_cons_zero, List.set_cons_succ, i64_w, i32_w]
        rfl
      refine pure_ (i := 6) (N := some 52) (v := ?_) (a' := ?_) #[true, true, true, true, true, true, true, false, false, false, false, false, false, false, false, false, false, false, false, false, false, false, false, false, false, false] rfl rfl (by kernel_rfl) (fun _ _ _ h => h) (Or.inl ⟨by rfl, ?_⟩) ?_ ?_
      rotate_left
      · intro w'
        go_simp
        with_reducible rfl
      rotate_left
      · simp only [Act.put, List.setIfInBounds_toArray, List.set_cons_zero, List.set_cons_succ, i64_w, i32_w]
        rfl
      refine pure_ (i := 7) (N := some 53) (v := ?_) (a' := ?_) #[true, true, true, true, true, true, true, true, false, false, false, false, false, false, false, false, false, false, false, false, false, false, false, false, false, false] rfl rfl (by kernel_rfl) (fun _ _ _ h => h) (Or.inl ⟨by rfl, ?_⟩) ?_ ?_
      rotate_left
      · intro w'
        go_simp
        with_reducible rfl
      rotate_left
      · simp only [Act.put, List.setIfInBounds_toArray, List.set_cons_zero, List.set_cons_succ, i64_w, i32_w]
        rfl
      refine pure_ (i := 8) (N := some 54) (v := ?_) (a' := ?_) #[true, true, true, true, true, true, true, true, true, false, false, false, false, false, false, false, false, false, false, false, false, false, false, false, false, false] rfl rfl (by kernel_rfl) (fun _ _ _ h => h) (Or.inl ⟨by rfl, ?_⟩) ?_ ?_
      rotate_left
      · intro w'
        go_simp
        with_reducible rfl
      rotate_left
      · simp only [Act.put, List.setIfInBounds_toArray, List.set_cons_zero, List.set_cons_succ, i64_w, i32_w]
        rfl
      refine pure_ (i := 9) (N := some 55) (v := ?_) (a' := ?_) #[true, true, true, true, true, true, true, true, true, true, false, false, false, false, false, false, false, false, false, false, false, false, false, false, false, false] rfl rfl (by kernel_rfl) (fun _ _ _ h => h) (Or.inl ⟨by rfl, ?_⟩) ?_ ?_
      rotate_left
      · intro w'
        go_simp
        with_reducible rfl
      rotate_left
      · simp only [Act.put, List.setIfInBounds_toArray, List.set_cons_zero, List.set_cons_succ, i64_w, i32_w]
        rfl
      refine pure_ (i := 11) (N := some 57) (v := ?_) (a' := ?_) #[true, true, true, true, true, true, true, true, true, true, false, true, false, false, false, false, false, false, false, false, false, false, false, false, false, false] rfl rfl (by kernel_rfl) (fun _ _ _ h => h) (Or.inl ⟨by rfl, ?_⟩) ?_ ?_
      rotate_left
      · intro w'
        go_simp
        with_reducible rfl
      rotate_left
      · simp only [Act.put, List.setIfInBounds_toArray, List.set_cons_zero, List.set_cons_succ, i64_w, i32_w]
        rfl
      refine take_ (i := 10) (N := some 56) (v := ?_) (a' := ?_) #[true, true, true, true, true, true, true, true, true, true, true, true, false, false, false, false, false, false, false, false, false, false, false, false, false, false] rfl rfl (by kernel_rfl) (fun _ _ _ h => h) (Or.inl ⟨by rfl, ?_⟩) hHeld ?_ ?_
      rotate_left
      · rintro w' ⟨s0, s1⟩
        go_simp
        with_reducible rfl
      rotate_left
      · simp only [Act.put, List.setIfInBounds_toArray, List.set_cons_zero, List.set_cons_succ, i64_w, i32_w]
        rfl
      refine take_ (i := 12) (N := some 58) (v := ?_) (a' := ?_) #[true, true, true, true, true, true, true, true, true, true, true, true, true, false, false, false, false, false, false, false, false, false, false, false, false, false] rfl rfl (by kernel_rfl) (fun _ _ _ h => h) (Or.inl ⟨by rfl, ?_⟩) hHeld ?_ ?_
      rotate_left
      · rintro w' ⟨s0, s1⟩
        go_simp
        with_reducible rfl
      rotate_left
      · simp only [Act.put, List.setIfInBounds_toArray, List.set_cons_zero, List.set_cons_succ, i64_w, i32_w]
        rfl
      refine pure_ (i := 13) (N := some 59) (v := ?_) (a' := ?_) #[true, true, true, true, true, true, true, true, true, true, true, true, true, true, false, false, false, false, false, false, false, false, false, false, false, false] rfl rfl (by kernel_rfl) (fun _ _ _ h => h) (Or.inl ⟨by rfl, ?_⟩) ?_ ?_
      rotate_left
      · intro w'
        go_simp
        with_reducible rfl
      rotate_left
      · simp only [Act.put, List.setIfInBounds_toArray, List.set_cons_zero, List.set_cons_succ, i64_w, i32_w]
        rfl
      refine pure_ (i := 14) (N := some 60) (v := ?_) (a' := ?_) #[true, true, true, true, true, true, true, true, true, true, true, true, true, true, true, false, false, false, false, false, false, false, false, false, false, false] rfl rfl (by kernel_rfl) (fun _ _ _ h => h) (Or.inl ⟨by rfl, ?_⟩) ?_ ?_
      rotate_left
      · intro w'
        go_simp
        with_reducible rfl
      rotate_left
      · simp only [Act.put, List.setIfInBounds_toArray, List.set_cons_zero, List.set_cons_succ, i64_w, i32_w]
        rfl
      refine pure_ (i := 15) (N := some 61) (v := ?_) (a' := ?_) #[true, true, true, true, true, true, true, true, true, true, true, true, true, true, true, true, false, false, false, false, false, false, false, false, false, false] rfl rfl (by kernel_rfl) (fun _ _ _ h => h) (Or.inl ⟨by rfl, ?_⟩) ?_ ?_
      rotate_left
      · intro w'
        go_simp
        with_reducible rfl
      rotate_left
      · simp only [Act.put, List.setIfInBounds_toArray, List.set_cons_zero, List.set_cons_succ, i64_w, i32_w]
        rfl
      refine pure_ (i := 16) (N := some 62) (v := ?_) (a' := ?_) #[true, true, true, true, true, true, true, true, true, true, true, true, true, true, true, true, true, false, false, false, false, false, false, false, false, false] rfl rfl (by kernel_rfl) (fun _ _ _ h => h) (Or.inl ⟨by rfl, ?_⟩) ?_ ?_
      rotate_left
      · intro w'
        go_simp
        with_reducible rfl
      rotate_left
      · simp only [Act.put, List.setIfInBounds_toArray, List.set_cons_zero, List.set_cons_succ, i64_w, i32_w]
        rfl
      refine pure_ (i := 18) (N := some 64) (v := ?_) (a' := ?_) #[true, true, true, true, true, true, true, true, true, true, true, true, true, true, true, true, true, false, true, false, false, false, false, false, false, false] rfl rfl (by kernel_rfl) (fun _ _ _ h => h) (Or.inl ⟨by rfl, ?_⟩) ?_ ?_
      rotate_left
      · intro w'
        go_simp
        with_reducible rfl
      rotate_left
      · simp only [Act.put, List.setIfInBounds_toArray, List.set_cons_zero, List.set_cons_succ, i64_w, i32_w]
        rfl
      refine pure_ (i := 19) (N := some 65) (v := ?_) (a' := ?_) #[true, true, true, true, true, true, true, true, true, true, true, true, true, true, true, true, true, false, true, true, false, false, false, false, false, false] rfl rfl (by kernel_rfl) (fun _ _ _ h => h) (Or.inl ⟨by rfl, ?_⟩) ?_ ?_
      rotate_left
      · intro w'
        go_simp
        with_reducible rfl
      rotate_left
      · simp only [Act.put, List.setIfInBounds_toArray, List.set_cons_zero, List.set_cons_succ, i64_w, i32_w]
        rfl
      refine pure_ (i := 20) (N := some 66) (v := ?_) (a' := ?_) #[true, true, true, true, true, true, true, true, true, true, true, true, true, true, true, true, true, false, true, true, true, false, false, false, false, false] rfl rfl (by kernel_rfl) (fun _ _ _ h => h) (Or.inl ⟨by rfl, ?_⟩) ?_ ?_
      rotate_left
      · intro w'
        go_simp
        with_reducible rfl
      rotate_left
      · simp only [Act.put, List.setIfInBounds_toArray, List.set_cons_zero, List.set_cons_succ, i64_w, i32_w]
        rfl
      refine pure_ (i := 21) (N := some 67) (v := ?_) (a' := ?_) #[true, true, true, true, true, true, true, true, true, true, true, true, true, true, true, true, true, false, true, true, true, true, false, false, false, false] rfl rfl (by kernel_rfl) (fun _ _ _ h => h) (Or.inl ⟨by rfl, ?_⟩) ?_ ?_
      rotate_left
      · intro w'
        go_simp
        with_reducible rfl
      rotate_left
      · simp only [Act.put, List.setIfInBounds_toArray, List.set_cons_zero, List.set_cons_succ, i64_w, i32_w]
        rfl
      refine pure_ (i := 22) (N := some 68) (v := ?_) (a' := ?_) #[true, true, true, true, true, true, true, true, true, true, true, true, true, true, true, true, true, false, true, true, true, true, true, false, false, false] rfl rfl (by kernel_rfl) (fun _ _ _ h => h) (Or.inl ⟨by rfl, ?_⟩) ?_ ?_
      rotate_left
      · intro w'
        go_simp
        with_reducible rfl
      rotate_left
      · simp only [Act.put, List.setIfInBounds_toArray, List.set_cons_zero, List.set_cons_succ, i64_w, i32_w]
        rfl
      refine one_ (i := 17) (N := some 63) #[true, true, true, true, true, true, true, true, true, true, true, true, true, true, true, true, true, true, true, true, true, true, true, false, false, false] rfl rfl (by kernel_rfl) (by decide) (fun K hK => ?_)
      refine goes_ Try.func22 (by kernel_rfl) rfl #[.pointer (some ⟨g, 0, none⟩)] (by rfl) rfl rfl (by simp only [List.map_toArray, List.map_cons, List.map_nil]; rfl) ?_
      with_reducible refine (HDN.out).mono ?_
      rintro e w15 ⟨rfl, hb15⟩
      refine ⟨_, rfl, ?_⟩
      have HW15 := Aside0.mk (below_kept HD0.out hb15)
      clear hb15
      refine hK.out _ _ ⟨(HCV.out _ (below_kept HW14.out HW15.out)), (HCV2.out _ HW15.out)⟩ (fun hHeld => ?_)
      clear hK K
      refine norm_ (a' := ?_) ?_ ?_
      rotate_left
      · show Act.put _ (some 63) _ = _
        simp only [Act.put, List.setIfInBounds_toArray, List.set_cons_zero, List.set_cons_succ, i64_w, i32_w]
        rfl
      refine pure_ (i := 23) (N := some 69) (v := ?_) (a' := ?_) #[true, true, true, true, true, true, true, true, true, true, true, true, true, true, true, true, true, true, true, true, true, true, true, true, false, false] rfl rfl (by kernel_rfl) (fun _ _ _ h => h) (Or.inl ⟨by rfl, ?_⟩) ?_ ?_
      rotate_left
      · intro w'
        go_simp
        with_reducible rfl
      rotate_left
      · simp only [Act.put, List.setIfInBounds_toArray, List.set_cons_zero, List.set_cons_succ, i64_w, i32_w]
        rfl
      refine pure_ (i := 24) (N := some 70) (v := ?_) (a' := ?_) #[true, true, true, true, true, true, true, true, true, true, true, true, true, true, true, true, true, true, true, true, true, true, true, true, true, false] rfl rfl (by kernel_rfl) (fun _ _ _ h => h) (Or.inl ⟨by rfl, ?_⟩) ?_ ?_
      rotate_left
      · intro w'
        go_simp
        with_reducible rfl
      rotate_left
      · simp only [Act.put, List.setIfInBounds_toArray, List.set_cons_zero, List.set_cons_succ, i64_w, i32_w]
        rfl
      refine pure_ (i := 25) (N := some 4) (v := ?_) (a' := ?_) #[true, true, true, true, true, true, true, true, true, true, true, true, true, true, true, true, true, true, true, true, true, true, true, true, true, true] rfl rfl (by kernel_rfl) (fun _ _ _ h => h) (Or.inl ⟨by rfl, ?_⟩) ?_ ?_
      rotate_left
      · intro w'
        go_simp
        with_reducible rfl
      rotate_left
      · simp only [Act.put, List.setIfInBounds_toArray, List.set_cons_zero, List.set_cons_succ, i64_w, i32_w]
        rfl
      refine done_ (by kernel_rfl) ?_
      go_wp2
      go_ret
      exact ⟨by first | rfl | (simp; done) | (simp [hz]; done), below_kept HW14.out HW15.out⟩
theorem wf_u8 {x : Int} (h : (Lit.int .u8 x).wf = true) : 0 ≤ x ∧ x < 256 := by
  have h2 : 0 ≤ x ∧ x ≤ 255 := by simpa [Lit.wf, IntKind.min, IntKind.max, IntKind.bits, IntKind.signed] using h
  omega
/-- As the row hands it over. -/
theorem any_row {W : World} (a2 : Option Addr) (cap2 : Nat) (l2 : List Int) (hr2 : ReadsInt W .u8 a2 l2.length l2) (hc2 : l2.length ≤ cap2) (hw2 : ∀ x ∈ l2, (Lit.int .u8 x).wf = true) (_ : l2.length * 1 ≤ 140737488351232) (t : Int) (_ : (Lit.int .i64 t).wf = true) :
    Calls Try.prog 7 #[.slice a2 l2.length cap2, .int .i64 t] W fun e w' => e = .returned (.bool true) ∧ Below W.heap.size W w' := by
  by_cases h : 600 < l2.length
  · exact any_big a2 cap2 l2 t W h
  · exact any_small a2 cap2 l2 t W (Kd.C_of_reads (d := (0 : Int)) (h1 := fun _ => rfl) hr2) hc2 (fun x hx => wf_u8 (hw2 x hx)) (by omega)
end Go.Proofs.Ytbofeaclgnekkaa.EvAny
