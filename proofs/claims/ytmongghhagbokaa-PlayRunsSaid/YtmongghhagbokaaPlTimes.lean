/- The law PlayTimes returns true: a walk through its text; no condition. -/
import Derived.Test.YtmongghhagbokaaPlPause
import Derived.Test.YtmongghhagbokaaEvOpen
namespace Go.Proofs.Ytmongghhagbokaa.PlTimes
open Go.RowKit Go.Proofs.Ytmongghhagbokaa.Kit Go.Proofs.Ytmongghhagbokaa.Plain Go.Proofs.Ytmongghhagbokaa.Mine Go.Proofs.Ytmongghhagbokaa.Event Go.Proofs.Ytmongghhagbokaa.EventRef Go.Proofs.Ytmongghhagbokaa.EventList Go.Proofs.Ytmongghhagbokaa.EventListR Go.Proofs.Ytmongghhagbokaa.Tame Go.Proofs.Ytmongghhagbokaa.EvUntil Go.Proofs.Ytmongghhagbokaa.EvSame Go.Proofs.Ytmongghhagbokaa.PlScale Go.Proofs.Ytmongghhagbokaa.PlNow Go.Proofs.Ytmongghhagbokaa.PlDue Go.Proofs.Ytmongghhagbokaa.PlNew Go.Proofs.Ytmongghhagbokaa.PlFit Go.Proofs.Ytmongghhagbokaa.PlPause Go.Proofs.YtmongghhagbokaaW.PrintWords Go.Proofs.YtmongghhagbokaaW.PrintLast Go.Proofs.YtmongghhagbokaaW.PrintMore
open Go.Proofs.Ytmongghhagbokaa.PPlayRights (S54 z54 k54 k54_open k54_mk k54_mkM rd_T54 at_T54 info54)
set_option linter.unusedVariables false
set_option linter.unusedSimpArgs false
theorem lowbits (k : Nat) (hk : k < 63) (n : Int) (m : Int) (hm : m = 2 ^ k - 1) : Go.bits .and .i64 n m = n % (2 ^ k : Nat) := by
  have hp : (2 : Nat) ^ k ≤ 2 ^ 62 := Nat.pow_le_pow_right (by omega) (by omega)
  have h1 : 1 ≤ (2 : Nat) ^ k := Nat.one_le_two_pow
  have hme : m = ((2 ^ k - 1 : Nat) : Int) := by rw [hm]; push_cast [h1]; rfl
  have h127 : (BitVec.ofInt 64 m).toNat = 2 ^ k - 1 := by rw [hme, BitVec.toNat_ofInt]; omega
  have key : (BitVec.ofInt 64 n &&& BitVec.ofInt 64 m).toNat = (n % ((2 ^ 64 : Nat) : Int)).toNat % 2 ^ k := by
    rw [BitVec.toNat_and, BitVec.toNat_ofInt, h127, Nat.and_two_pow_sub_one_eq_mod]
  show IntKind.i64.wrap ((BitVec.ofInt 64 n &&& BitVec.ofInt 64 m).toNat : Nat) = n % (2 ^ k : Nat)
  rw [key, IntKind.wrap_i64]
  have hd : ((2 : Nat) ^ 64) = 2 ^ k * 2 ^ (64 - k) := by rw [← Nat.pow_add]; congr 1; omega
  have e : (((n % ((2 ^ 64 : Nat) : Int)).toNat % 2 ^ k : Nat) : Int) = n % ((2 ^ k : Nat) : Int) := by
    rw [Int.natCast_emod, Int.toNat_of_nonneg (Int.emod_nonneg _ (by decide)), hd, Int.natCast_mul]; exact Int.emod_emod_of_dvd _ (Int.dvd_mul_right _ _)
  have hlt : (n % ((2 ^ 64 : Nat) : Int)).toNat % 2 ^ k < 2 ^ k := Nat.mod_lt _ (by omega)
  rw [e]
  have h0 : 0 ≤ n % ((2 ^ k : Nat) : Int) := Int.emod_nonneg _ (by omega)
  have h9 : n % ((2 ^ k : Nat) : Int) < ((2 ^ k : Nat) : Int) := Int.emod_lt_of_pos _ (by omega)
  omega
theorem low16 (n : Int) : Go.bits .and .i64 n 65535 = n % 65536 := by
  have h := lowbits 16 (by omega) n 65535 (by decide)
  have e : ((2 ^ 16 : Nat) : Int) = 65536 := by decide
  rw [e] at h
  exact h
theorem low24 (n : Int) : Go.bits .and .i64 n 16777215 = n % 16777216 := by
  have h := lowbits 24 (by omega) n 16777215 (by decide)
  have e : ((2 ^ 24 : Nat) : Int) = 16777216 := by decide
  rw [e] at h
  exact h
theorem low1 (n : Int) : Go.bits .and .i64 n 1 = n % 2 := by
  have h := lowbits 1 (by omega) n 1 (by decide)
  have e : ((2 ^ 1 : Nat) : Int) = 2 := by decide
  rw [e] at h
  exact h
theorem st_facts (a : Int) : ∃ st : Nat, Go.bits .and .i64 a 65535 = (st : Int) ∧ st < 65536 := ⟨(a % 65536).toNat, by rw [low16]; omega, by omega⟩
theorem speed_facts (b : Int) : ∃ bb p : Nat, Go.bits .and .i64 b 65535 = (bb : Int) ∧ Int.tmod (bb : Int) 1000 = ((p - 1 : Nat) : Int) ∧ (1 : Int) + ((p - 1 : Nat) : Int) = (p : Int) ∧ wrap64 (p : Int) = p ∧ (1 ≤ p ∧ p ≤ 1000) := by
  refine ⟨(b % 65536).toNat, 1 + (b % 65536).toNat % 1000, by rw [low16]; omega, ?_, by omega, by unfold wrap64; omega, by omega⟩
  rw [Int.tmod_eq_emod_of_nonneg (by omega)]
  omega
theorem speedB_nat {p q : Nat} (hp : 1 ≤ p ∧ p ≤ 1000) (hq : 1 ≤ q ∧ q ≤ 1000) : speedB (p : Int) (q : Int) = true := decide_eq_true ⟨by omega, by omega, by omega, by omega⟩
theorem left_facts {n k : Nat} (h : k ≤ n) (h2 : n ≤ 60) : wrap64 ((n : Int) - k) = ((n - k : Nat) : Int) ∧ (n : Int) - k = ((n - k : Nat) : Int) ∧ wrap64 ((n - k : Nat) : Int) = ((n - k : Nat) : Int) := by
  refine ⟨by unfold wrap64; omega, by omega, by unfold wrap64; omega⟩
theorem tick_facts (x : Int) : ∃ k : Nat, k ≤ 16777215 ∧ Go.bits .and .i64 x 16777215 = (k : Int) ∧ ((Go.bits .and .i64 x 1 = 0 ∧ Go.bits .and .i64 (k : Int) 1 = 0) ∨ (Go.bits .and .i64 x 1 = 1 ∧ Go.bits .and .i64 (k : Int) 1 = 1)) := by
  refine ⟨(x % 16777216).toNat, by omega, by rw [low24]; omega, ?_⟩
  rw [low1, low1]
  omega
theorem wall_facts {wl k : Nat} (h : wl ≤ 1500000000) (hk : k ≤ 16777215) : wrap64 ((wl : Int) + k) = ((wl + k : Nat) : Int) := by unfold wrap64; omega
theorem due_facts {st p q u : Nat} (hs : st < 65536) (hp : p ≤ 1000) (hq : 1 ≤ q) (hu : u ≤ 1600000000) : ∃ P D N : Nat, (u : Int) * p = (P : Int) ∧ wrap64 (P : Int) = P ∧ Int.tdiv (P : Int) q = (D : Int) ∧ (P : Int) / q = (D : Int) ∧ wrap64 (D : Int) = D ∧ (st : Int) + D = (N : Int) ∧ wrap64 (N : Int) = N ∧ N = st + u * p / q := by
  have h3 : u * p ≤ 1600000000 * 1000 := Nat.mul_le_mul hu hp
  have h4 : u * p / q ≤ u * p := Nat.div_le_self _ _
  obtain ⟨P, hP⟩ : ∃ P, P = u * p := ⟨_, rfl⟩
  obtain ⟨D, hD⟩ : ∃ D, D = P / q := ⟨_, rfl⟩
  rw [← hP] at h3 h4
  rw [← hD] at h4
  refine ⟨P, D, st + D, by rw [hP, Int.natCast_mul], by unfold wrap64; omega, ?_, ?_, by unfold wrap64; omega, by omega, by unfold wrap64; omega, by rw [← hP, ← hD]⟩
  · rw [Int.tdiv_eq_ediv_of_nonneg (by omega), hD, Int.natCast_ediv]
  · rw [hD, Int.natCast_ediv]
theorem wl_le {wl i m : Nat} (h : wl ≤ i * 16777215) (hi : i < m) (hm : m ≤ 60) : wl ≤ 1500000000 := by omega
theorem wl_up {wl i : Nat} (h : wl ≤ i * 16777215) : wl ≤ (i + 1) * 16777215 := Nat.le_trans h (Nat.mul_le_mul_right _ (Nat.le_succ _))
theorem len_small {α : Type} {l : List α} (a b : Nat) (h : l.length < 1000000000) : ((l.take a).drop b).length < 1000000000 := by rw [List.length_drop, List.length_take]; omega
theorem lt_big {a n : Nat} (h : a = n) (h2 : n ≤ 60) : a < 1000000000 := by omega
set_option maxHeartbeats 3200000 in
set_option maxRecDepth 100000 in
theorem times_small (A B : Option Addr) (c cb : Nat) (l : List S54) (ts : List Int) (a b d : Int) (w : World) (hC : Kd.C k54 w A l.length l) (hT : ReadsInt w .i64 B ts.length ts) (hl : l.length ≤ 60) (ht : ts.length ≤ 60) :
    Calls Try.prog 4 #[.slice A l.length c, .agg #[.int .i64 a, .int .i64 b, .int .i64 d], .slice B ts.length cb] w fun e w' => e = .returned (.bool true) ∧ Below w.heap.size w w' := by
  have hu := Try.underlying57
  have h1 : (l.length : Int) ≤ 60 := by omega
  have h2 : (ts.length : Int) ≤ 60 := by omega
  have HTM := Aside0.mk (fun W (h : Kd.C k54 W A l.length l) => tame_c A c l W h (by omega))
  have hlt := tame_len l 0
  have hrt := tame_right l 0 (by omega) (by omega)
  have HC := Aside0.mk hC
  have HT := Aside0.mk hT
  obtain ⟨l2, hl2⟩ : ∃ l2, l2 = tame 0 l := ⟨_, rfl⟩
  rw [← hl2] at HTM hlt hrt
  obtain ⟨n, hn⟩ : ∃ n, n = l.length := ⟨_, rfl⟩
  rw [← hn] at HTM HC hlt h1
  rw [← hn]
  have HLN := Aside0.mk hlt
  have HLR := Aside0.mk hrt
  have HRI := Aside0.mk (listR_rising l2 0 hrt)
  obtain ⟨m, hm⟩ : ∃ m, m = ts.length := ⟨_, rfl⟩
  rw [← hm] at HT h2
  rw [← hm]
  have HM := Aside0.mk hm
  obtain ⟨st, ea, hst2⟩ := st_facts a
  obtain ⟨bb, p, eb, eb2, eb3, ep, hp1⟩ := speed_facts b
  obtain ⟨dd, q, ed, ed2, ed3, eq, hq1⟩ := speed_facts d
  have HF := Aside0.mk (fun k (hk : k ≤ 2000000000) => fine_small (n := k) hst2 hp1.1 hp1.2 hq1.1 hq1.2 hk)
  have HNS := Aside0.mk (fun k (hk : k ≤ 2000000000) => now_small (q := q) (n := k) hst2 hp1.2 hk)
  have HN0 := Aside0.mk (show nowN st p q 0 = st from by rw [now_small hst2 hp1.2 (by omega), Nat.zero_mul, Nat.zero_div, Nat.add_zero])
  have HP1 := Aside0.mk hp1
  have HQ1 := Aside0.mk hq1
  have HST := Aside0.mk hst2
  have hsp : speedB (p : Int) (q : Int) = true := speedB_nat hp1 hq1
  have HSP := Aside0.mk hsp
  have HBS := Aside0.mk hl
  have HBN := Aside0.mk (show n ≤ 60 by omega)
  have HBT := Aside0.mk ht
  have hpI : (p : Int) ≤ 1000 := Int.ofNat_le.2 hp1.2
  have hqI : (q : Int) ≤ 1000 := Int.ofNat_le.2 hq1.2
  have hqP : (0 : Int) < q := Int.ofNat_lt.2 hq1.1
  have hsI : (st : Int) ≤ 65535 := Int.ofNat_le.2 (Nat.le_of_lt_succ hst2)
  clear hC hT hl ht hlt hrt hl2 hn hm hst2 hp1 hq1 hsp
  go_enter Try.func4, Try.ntmps4
  go_upto_region 1 with fail
  obtain ⟨w1, hw1⟩ : ∃ w1, w1 = w.alloc (.cells #[.int .i64 a, .int .i64 b, .int .i64 d] 23) := ⟨_, rfl⟩
  obtain ⟨gs, hg⟩ : ∃ g, g = w.heap.size := ⟨_, rfl⟩
  have HK1 := Aside0.mk (show w1.heap[gs]? = some (.cells #[.int .i64 a, .int .i64 b, .int .i64 d] 23 (0, 0)) from by rw [hw1, hg]; exact blk_new w _)
  have hb1 : Below w.heap.size w w1 := by rw [hw1]; exact below_alloc (Below.refl _ _) _
  have HB1 := Aside0.mk hb1
  have HC1 := Aside0.mk (Kd.C_below HC.out hb1)
  rw [← hw1, ← hg]
  clear hw1 hg hb1
  go_wp2_with fail
  refine (fit_c _).mono ?_
  rintro e w2 ⟨rfl, hb⟩
  have HK2 := Aside0.mk (blk_below HK1.out hb)
  have HB2 := Aside0.mk (below_kept HB1.out hb)
  have HC2 := Aside0.mk (Kd.C_below HC1.out hb)
  clear hb
  go_wp2_with fail
  refine (HTM.out w2 HC2.out).mono ?_
  rintro e w3 ⟨vl, rfl, ho, hb⟩
  obtain ⟨A2, c2, rfl⟩ := Kd.R_slice ho
  have HK3 := Aside0.mk (blk_below HK2.out hb)
  have HB3 := Aside0.mk (below_kept HB2.out hb)
  rw [HLN.out] at ho
  rw [HLN.out]
  have HL3 := Aside0.mk (Kd.R_lower ho HB2.out.size)
  clear ho hb HTM
  have c0 : w3.drew.cell? ⟨gs, 0, none⟩ = some (.int .i64 a) := (blk_cell (blk_drew HK3.out) 0).trans rfl
  have c1 : w3.drew.cell? ⟨gs, 1, none⟩ = some (.int .i64 b) := (blk_cell (blk_drew HK3.out) 1).trans rfl
  have c2' : w3.drew.cell? ⟨gs, 2, none⟩ = some (.int .i64 d) := (blk_cell (blk_drew HK3.out) 2).trans rfl
  go_upto_region 6 with fail
  refine start_ (n := 16) (S := fun w' => w'.cell? ⟨gs, 0, none⟩ = some (.int .i64 a) ∧ w'.cell? ⟨gs, 1, none⟩ = some (.int .i64 b) ∧ w'.cell? ⟨gs, 2, none⟩ = some (.int .i64 d)) (ds := []) #[false, false, false, false, false, false, false, false, false, false, false, false, false, false, false, false] (by kernel_rfl) rfl rfl ⟨c0, c1, c2'⟩ (fun hHeld => ?_)
  refine pure_ (i := 0) (N := some 30) (v := ?_) (a' := ?_) #[true, false, false, false, false, false, false, false, false, false, false, false, false, false, false, false] rfl rfl (by kernel_rfl) (fun _ _ _ h => h) (Or.inl ⟨by rfl, ?_⟩) ?_ ?_
  rotate_left
  · intro w'
    go_simp
    with_reducible rfl
  rotate_left
  · simp only [Act.put, List.setIfInBounds_toArray, List.set_cons_zero, List.set_cons_succ, i64_w, i32_w]
    rfl
  refine pure_ (i := 3) (N := some 33) (v := ?_) (a' := ?_) #[true, false, false, true, false, false, false, false, false, false, false, false, false, false, false, false] rfl rfl (by kernel_rfl) (fun _ _ _ h => h) (Or.inl ⟨by rfl, ?_⟩) ?_ ?_
  rotate_left
  · intro w'
    go_simp
    with_reducible rfl
  rotate_left
  · simp only [Act.put, List.setIfInBounds_toArray, List.set_cons_zero, List.set_cons_succ, i64_w, i32_w]
    rfl
  refine pure_ (i := 8) (N := some 38) (v := ?_) (a' := ?_) #[true, false, false, true, false, false, false, false, true, false, false, false, false, false, false, false] rfl rfl (by kernel_rfl) (fun _ _ _ h => h) (Or.inl ⟨by rfl, ?_⟩) ?_ ?_
  rotate_left
  · intro w'
    go_simp
    with_reducible rfl
  rotate_left
  · simp only [Act.put, List.setIfInBounds_toArray, List.set_cons_zero, List.set_cons_succ, i64_w, i32_w]
    rfl
  refine take_ (i := 1) (N := some 31) (v := ?_) (a' := ?_) #[true, true, false, true, false, false, false, false, true, false, false, false, false, false, false, false] rfl rfl (by kernel_rfl) (fun _ _ _ h => h) (Or.inl ⟨by rfl, ?_⟩) hHeld ?_ ?_
  rotate_left
  · rintro w' ⟨s0, s1, s2⟩
    go_simp
    with_reducible rfl
  rotate_left
  · simp only [Act.put, List.setIfInBounds_toArray, List.set_cons_zero, List.set_cons_succ, i64_w, i32_w]
    rfl
  refine pure_ (i := 2) (N := some 32) (v := ?_) (a' := ?_) #[true, true, true, true, false, false, false, false, true, false, false, false, false, false, false, false] rfl rfl (by kernel_rfl) (fun _ _ _ h => h) (Or.inl ⟨by rfl, ?_⟩) ?_ ?_
  rotate_left
  · intro w'
    go_simp
    with_reducible rfl
  rotate_left
  · simp only [Act.put, List.setIfInBounds_toArray, List.set_cons_zero, List.set_cons_succ, i64_w, i32_w]
    rfl
  refine pure_ (i := 13) (N := some 7) (v := ?_) (a' := ?_) #[true, true, true, true, false, false, false, false, true, false, false, false, false, true, false, false] rfl rfl (by kernel_rfl) (fun _ _ _ h => h) (Or.inl ⟨by rfl, ?_⟩) ?_ ?_
  rotate_left
  · intro w'
    go_simp
    with_reducible rfl
  rotate_left
  · simp only [Act.put, List.setIfInBounds_toArray, List.set_cons_zero, List.set_cons_succ, i64_w, i32_w]
    rfl
  refine take_ (i := 4) (N := some 34) (v := ?_) (a' := ?_) #[true, true, true, true, true, false, false, false, true, false, false, false, false, true, false, false] rfl rfl (by kernel_rfl) (fun _ _ _ h => h) (Or.inl ⟨by rfl, ?_⟩) hHeld ?_ ?_
  rotate_left
  · rintro w' ⟨s0, s1, s2⟩
    go_simp
    with_reducible rfl
  rotate_left
  · simp only [Act.put, List.setIfInBounds_toArray, List.set_cons_zero, List.set_cons_succ, i64_w, i32_w]
    rfl
  refine pure_ (i := 5) (N := some 35) (v := ?_) (a' := ?_) #[true, true, true, true, true, true, false, false, true, false, false, false, false, true, false, false] rfl rfl (by kernel_rfl) (fun _ _ _ h => h) (Or.inl ⟨by rfl, ?_⟩) ?_ ?_
  rotate_left
  · intro w'
    go_simp
    with_reducible rfl
  rotate_left
  · simp only [Act.put, List.setIfInBounds_toArray, List.set_cons_zero, List.set_cons_succ, i64_w, i32_w]
    rfl
  refine pure_ (i := 6) (N := some 36) (v := ?_) (a' := ?_) #[true, true, true, true, true, true, true, false, true, false, false, false, false, true, false, false] rfl rfl (by kernel_rfl) (fun _ _ _ h => h) (Or.inl ⟨by rfl, ?_⟩) ?_ ?_
  rotate_left
  · intro w'
    go_simp
    with_reducible rfl
  rotate_left
  · simp only [Act.put, List.setIfInBounds_toArray, List.set_cons_zero, List.set_cons_succ, i64_w, i32_w]
    rfl
  refine pure_ (i := 7) (N := some 37) (v := ?_) (a' := ?_) #[true, true, true, true, true, true, true, true, true, false, false, false, false, true, false, false] rfl rfl (by kernel_rfl) (fun _ _ _ h => h) (Or.inl ⟨by rfl, ?_⟩) ?_ ?_
  rotate_left
  · intro w'
    go_simp
    with_reducible rfl
  rotate_left
  · simp only [Act.put, List.setIfInBounds_toArray, List.set_cons_zero, List.set_cons_succ, i64_w, i32_w]
    rfl
  refine pure_ (i := 14) (N := some 8) (v := ?_) (a' := ?_) #[true, true, true, true, true, true, true, true, true, false, false, false, false, true, true, false] rfl rfl (by kernel_rfl) (fun _ _ _ h => h) (Or.inl ⟨by rfl, ?_⟩) ?_ ?_
  rotate_left
  · intro w'
    go_simp
    with_reducible rfl
  rotate_left
  · simp only [Act.put, List.setIfInBounds_toArray, List.set_cons_zero, List.set_cons_succ, i64_w, i32_w]
    rfl
  refine take_ (i := 9) (N := some 39) (v := ?_) (a' := ?_) #[true, true, true, true, true, true, true, true, true, true, false, false, false, true, true, false] rfl rfl (by kernel_rfl) (fun _ _ _ h => h) (Or.inl ⟨by rfl, ?_⟩) hHeld ?_ ?_
  rotate_left
  · rintro w' ⟨s0, s1, s2⟩
    go_simp
    with_reducible rfl
  rotate_left
  · simp only [Act.put, List.setIfInBounds_toArray, List.set_cons_zero, List.set_cons_succ, i64_w, i32_w]
    rfl
  refine pure_ (i := 10) (N := some 40) (v := ?_) (a' := ?_) #[true, true, true, true, true, true, true, true, true, true, true, false, false, true, true, false] rfl rfl (by kernel_rfl) (fun _ _ _ h => h) (Or.inl ⟨by rfl, ?_⟩) ?_ ?_
  rotate_left
  · intro w'
    go_simp
    with_reducible rfl
  rotate_left
  · simp only [Act.put, List.setIfInBounds_toArray, List.set_cons_zero, List.set_cons_succ, i64_w, i32_w]
    rfl
  refine pure_ (i := 11) (N := some 41) (v := ?_) (a' := ?_) #[true, true, true, true, true, true, true, true, true, true, true, true, false, true, true, false] rfl rfl (by kernel_rfl) (fun _ _ _ h => h) (Or.inl ⟨by rfl, ?_⟩) ?_ ?_
  rotate_left
  · intro w'
    go_simp
    with_reducible rfl
  rotate_left
  · simp only [Act.put, List.setIfInBounds_toArray, List.set_cons_zero, List.set_cons_succ, i64_w, i32_w]
    rfl
  refine pure_ (i := 12) (N := some 42) (v := ?_) (a' := ?_) #[true, true, true, true, true, true, true, true, true, true, true, true, true, true, true, false] rfl rfl (by kernel_rfl) (fun _ _ _ h => h) (Or.inl ⟨by rfl, ?_⟩) ?_ ?_
  rotate_left
  · intro w'
    go_simp
    with_reducible rfl
  rotate_left
  · simp only [Act.put, List.setIfInBounds_toArray, List.set_cons_zero, List.set_cons_succ, i64_w, i32_w]
    rfl
  refine pure_ (i := 15) (N := some 9) (v := ?_) (a' := ?_) #[true, true, true, true, true, true, true, true, true, true, true, true, true, true, true, true] rfl rfl (by kernel_rfl) (fun _ _ _ h => h) (Or.inl ⟨by rfl, ?_⟩) ?_ ?_
  rotate_left
  · intro w'
    go_simp
    with_reducible rfl
  rotate_left
  · simp only [Act.put, List.setIfInBounds_toArray, List.set_cons_zero, List.set_cons_succ, i64_w, i32_w]
    rfl
  refine done_ (by kernel_rfl) ?_
  clear ea eb ed eb2 ed2 eb3 ed3 ep eq c0 c1 c2'
  have HB3d := Aside0.mk (below_drew HB3.out)
  have HL3d := Aside0.mk (Kd.R_drew HL3.out)
  go_wp2_with fail
  have hn60 : l2.length ≤ 1000 := by have h3 := HLN.out; omega
  have hno := new_ok A2 c2 l2 st p q w3.drew (by rw [HLN.out]; have h4 := (Kd.R_reads' HL3d.out).2.2; rw [HLN.out] at h4; exact h4) hn60 (by have := HST.out; omega) HSP.out HLR.out
  rw [HLN.out] at hno
  refine hno.mono ?_
  rintro e w4 ⟨g, A4, c4, rfl, hgw, hp, hr, hb⟩
  have HB4 := Aside0.mk (below_kept HB3d.out hb)
  have HG := Aside0.mk hgw
  have HP4 := Aside0.mk hp
  have HR4 := Aside0.mk (Kd.R_lower hr HB3d.out.size)
  have HL4 := Aside0.mk (Kd.R_mono (ok' := fun k => k < g) (Kd.R_below (Kd.R_mono (ok' := fun k => k < g) (Kd.R_bound HL3d.out) (fun k hk => by have := hk.2.2.1; omega)) hb) (fun k hk => hk))
  clear hno hgw hp hr hb hn60
  go_wp2_with fail
  have hru := runtil_c A2 c2 l2 (st : Int) w4 (Kd.R_reads' (by rw [← HLN.out] at HL4; exact HL4.out)).2.2 (by have h3 := HLN.out; omega)
  rw [HLN.out] at hru
  refine hru.mono ?_
  rintro e w5 ⟨rfl, hb⟩
  have HB5 := Aside0.mk (below_kept HB4.out hb)
  have HP5 := Aside0.mk (show PC w5 g (.slice A4 n c4) st p q 0 (countT (st : Int) l2) false from blk_below HP4.out hb)
  have HR5 := Aside0.mk (Kd.R_below HR4.out hb)
  have HL5 := Aside0.mk (Kd.R_below HL4.out hb)
  clear hru hb
  go_wp2_with fail
  go_loopg [12, 13, 62] m (fun gk v12 v13 v62 W => ∃ (i wl : Nat) (pz : Bool), v12 = .int .i64 (wl : Int) ∧ v13 = .int .i64 (countT (nowN st p q wl : Int) l2 : Int) ∧ v62 = .int .i64 (i : Int) ∧ Aside0 (gk + i = m) ∧ Aside0 (wl ≤ i * 16777215) ∧ Aside0 (PC W g (.slice A4 n c4) st p q wl (countT (nowN st p q wl : Int) l2) pz) ∧ Aside0 (Kd.R k54 54 W w.heap.size (fun k => k ≠ g) (.slice A4 n c4) l2) ∧ Aside0 (Kd.R k54 54 W w.heap.size (fun k => k < g) (.slice A2 n c2) l2) ∧ Aside0 (Below w.heap.size w W))
  case atStart => exact ⟨0, 0, false, rfl, by rw [HN0.out], rfl, ⟨by omega⟩, ⟨by omega⟩, ⟨by rw [HN0.out]; exact HP5.out⟩, HR5, HL5, HB5⟩
  case round =>
    obtain ⟨i, wl, pz, rfl, rfl, rfl, HGK, HWL, HP, HR, HL, HB⟩ := hrel
    have hgi := HGK.out
    by_cases hi : i < m
    · obtain ⟨g0, rfl⟩ : ∃ g0, gk = g0 + 1 := ⟨gk - 1, by omega⟩
      obtain ⟨ad, ead, hc0⟩ := (HT.out.below HB.out).at_ (i : Int) (by omega) (by omega)
      obtain ⟨x, hx⟩ : ∃ x, x = rd ts (i : Int) := ⟨_, rfl⟩
      rw [← hx, Int.toNat_natCast] at hc0
      subst ead
      have him : (i : Int) < m := by omega
      have hwl := wl_le HWL.out hi (by have := HM.out; have := HBT.out; omega)
      obtain ⟨k, hk, ek, hpar⟩ := tick_facts x
      have HPAR := Aside0.mk hpar
      have HKL := Aside0.mk hk
      have HWB := Aside0.mk hwl
      clear hx hgi hi hpar hk hwl
      rcases HPAR.out with ⟨e1, e2⟩ | ⟨e1, e2⟩
      · have hps := pause_c g A4 c4 l2 st p q wl (countT (nowN st p q wl : Int) l2) pz false wr w.heap.size (by rw [HLN.out]; exact HP.out) (by rw [HLN.out]; exact HR.out)
        rw [HLN.out] at hps
        have HPS := Aside0.mk hps
        clear hps
        go_wp2_with fail
        refine HPS.out.mono ?_
        rintro e w6 ⟨⟨vv, rfl⟩, hp, hr, hbb⟩
        have hgw : w.heap.size ≤ g := Nat.le_trans HB3d.out.size HG.out
        have HB6 := Aside0.mk (HB.out.trans (hbb _ hgw))
        have HL6 := Aside0.mk (Kd.R_step HL.out (fun j hj hlt => (hbb g (Nat.le_refl g)).block j hj))
        obtain ⟨u, hu2⟩ : ∃ u, u = wl + k := ⟨_, rfl⟩
        have hub : u ≤ 1600000000 := by have := HWB.out; have := HKL.out; omega
        have htk := tick_c g A4 c4 l2 (k : Int) st p q wl u (countT (nowN st p q wl : Int) l2) w6 w.heap.size (by rw [HLN.out]; exact hp) (by rw [HLN.out]; exact hr) HRI.out (by have := HLN.out; omega) (by rw [dN_small (by have := HKL.out; omega) (by have := HWB.out; omega), hu2]) (by have := HWB.out; omega) (HF.out u (by omega)) (countT_le _ _)
        rw [to_mono (by omega), HLN.out] at htk
        have HTK := Aside0.mk htk
        have hns := HNS.out u (Nat.le_trans hub (by decide))
        have hwk := wall_facts HWB.out HKL.out
        rw [← hu2] at hwk
        obtain ⟨P, D, N, f1, f2, f3, f4, f5, f6, f7, f8⟩ := due_facts HST.out HP1.out.2 HQ1.out.1 hub
        have hnn : nowN st p q u = N := by rw [hns, f8]
        have HNN := Aside0.mk hnn
        have HUB := Aside0.mk hub
        have HU2 := Aside0.mk hu2
        clear hp hr hbb hgw hu2 hub htk hnn hns f8 hc0 HPS
        go_wp2_with fail
        refine HTK.out.mono ?_
        rintro e w7 ⟨v, rfl, hv, hp, hr, hbb⟩
        have hgw : w.heap.size ≤ g := Nat.le_trans HB3d.out.size HG.out
        have HB7 := Aside0.mk (HB6.out.trans (hbb _ hgw))
        have HL7 := Aside0.mk (Kd.R_step HL6.out (fun j hj hlt => (hbb g (Nat.le_refl g)).block j hj))
        have HP7 := Aside0.mk hp
        have HR7 := Aside0.mk hr
        rw [HNN.out] at hv
        obtain ⟨lm, hlm⟩ : ∃ lm, lm = (l2.take (countT (N : Int) l2)).drop (countT (nowN st p q wl : Int) l2) := ⟨_, rfl⟩
        rw [← hlm] at hv
        have HLM := Aside0.mk hlm
        clear hlm
        obtain ⟨A7, c7, rfl⟩ := Kd.R_slice hv
        have HV7 := Aside0.mk (Kd.R_reads' hv).2.2
        have hru := runtil_c A2 c2 l2 (N : Int) w7 (Kd.R_reads' (by rw [← HLN.out] at HL7; exact HL7.out)).2.2 (lt_big HLN.out HBN.out)
        rw [HLN.out] at hru
        have HRU := Aside0.mk hru
        clear hv hp hr hbb hgw hru HTK
        go_wp2_with fail
        refine HRU.out.mono ?_
        rintro e w8 ⟨rfl, hb⟩
        have HB8 := Aside0.mk (below_kept HB7.out hb)
        have HL8 := Aside0.mk (Kd.R_below HL7.out hb)
        have HR8 := Aside0.mk (Kd.R_below HR7.out hb)
        have HP8 := Aside0.mk (show PC w8 g (.slice A4 n c4) st p q u (countT (nowN st p q u : Int) l2) false from blk_below HP7.out hb)
        have HV8 := Aside0.mk (Kd.C_below HV7.out hb)
        have hmo : countT (nowN st p q wl : Int) l2 ≤ countT (N : Int) l2 := by rw [← HNN.out]; exact countT_mono (Int.ofNat_le.2 (now_mono (by rw [HU2.out]; exact Nat.le_add_right _ _))) l2
        obtain ⟨Ax, cx, hcut, hcx, hCx⟩ := cut_mid_ex (P := Try.prog) k54 22 54 (.agg #[(.int .i64 0), (.int .i64 0), (.string ⟨#[]⟩), (.int .i64 0), (.int .i64 0)]) 48 Try.underlying22 info54 A2 c2 l2 (countT (nowN st p q wl : Int) l2 : Int) (countT (N : Int) l2 : Int) (Int.natCast_nonneg _) (Int.ofNat_le.2 hmo) (Int.ofNat_le.2 (countT_le _ _)) (by rw [← HLN.out] at HL8; exact (Kd.R_reads' HL8.out).2.1)
        simp only [Int.toNat_natCast, HLN.out] at hcut hcx hCx
        have hCl := (Kd.R_reads' (by rw [← HLN.out] at HL8; exact HL8.out)).2.2
        rw [HLN.out] at hCl
        rw [← HLM.out] at hcut hCx
        have hsm := same_c A7 Ax c7 cx _ w8 HV8.out (hCx w8 hCl) (by rw [HLM.out]; exact len_small _ _ (lt_big HLN.out HBN.out))
        have HSM := Aside0.mk hsm
        clear hb hmo hcx hCx hCl hsm
        go_wp2_with fail
        refine HSM.out.mono ?_
        rintro e w9 ⟨rfl, hb⟩
        have HB9 := Aside0.mk (below_kept HB8.out hb)
        have HL9 := Aside0.mk (Kd.R_below HL8.out hb)
        have HR9 := Aside0.mk (Kd.R_below HR8.out hb)
        have HP9 := Aside0.mk (show PC w9 g (.slice A4 n c4) st p q u (countT (nowN st p q u : Int) l2) false from blk_below HP8.out hb)
        clear hb hcut f1 f2 f3 f4 f5 f6 f7 hwk
        go_wp2_with fail
        go_roundg g0
        case measure => omega
        case rel => exact ⟨i + 1, u, false, rfl, by rw [HNN.out], by first | go_num | (congr 1; unfold wrap64; omega), ⟨by have := HGK.out; omega⟩, ⟨by have := HU2.out; have := HWL.out; have := HKL.out; omega⟩, HP9, HR9, HL9, HB9⟩
      · have hps := pause_c g A4 c4 l2 st p q wl (countT (nowN st p q wl : Int) l2) pz true wr w.heap.size (by rw [HLN.out]; exact HP.out) (by rw [HLN.out]; exact HR.out)
        rw [HLN.out] at hps
        have HPS := Aside0.mk hps
        clear hps
        go_wp2_with fail
        refine HPS.out.mono ?_
        rintro e w6 ⟨⟨vv, rfl⟩, hp, hr, hbb⟩
        have hgw : w.heap.size ≤ g := Nat.le_trans HB3d.out.size HG.out
        have HB6 := Aside0.mk (HB.out.trans (hbb _ hgw))
        have HL6 := Aside0.mk (Kd.R_step HL.out (fun j hj hlt => (hbb g (Nat.le_refl g)).block j hj))
        obtain ⟨u, hu2⟩ : ∃ u, u = wl := ⟨_, rfl⟩
        have hub : u ≤ 1600000000 := by have := HWB.out; omega
        have htk := tickp_c g A4 c4 l2 (k : Int) st p q wl (countT (nowN st p q wl : Int) l2) w6 w.heap.size (by rw [HLN.out]; exact hp) (by rw [HLN.out]; exact hr) HRI.out (by have := HLN.out; omega) (HF.out wl (by have := HWB.out; omega)) (countT_le _ _)
        rw [to_mono (Nat.le_refl _), HLN.out] at htk
        have HTK := Aside0.mk htk
        have hns := HNS.out u (Nat.le_trans hub (by decide))
        obtain ⟨P, D, N, f1, f2, f3, f4, f5, f6, f7, f8⟩ := due_facts HST.out HP1.out.2 HQ1.out.1 hub
        have hnn : nowN st p q u = N := by rw [hns, f8]
        have HNN := Aside0.mk hnn
        have HUB := Aside0.mk hub
        have HU2 := Aside0.mk hu2
        rw [hu2] at f1
        clear hp hr hbb hgw hu2 hub htk hnn hns f8 hc0 HPS
        go_wp2_with fail
        refine HTK.out.mono ?_
        rintro e w7 ⟨v, rfl, hv, hp, hr, hbb⟩
        have hgw : w.heap.size ≤ g := Nat.le_trans HB3d.out.size HG.out
        have HB7 := Aside0.mk (HB6.out.trans (hbb _ hgw))
        have HL7 := Aside0.mk (Kd.R_step HL6.out (fun j hj hlt => (hbb g (Nat.le_refl g)).block j hj))
        have HP7 := Aside0.mk hp
        have HR7 := Aside0.mk hr
        rw [show l2.take (countT (nowN st p q wl : Int) l2) = l2.take (countT (N : Int) l2) from by rw [← HNN.out, HU2.out]] at hv
        obtain ⟨lm, hlm⟩ : ∃ lm, lm = (l2.take (countT (N : Int) l2)).drop (countT (nowN st p q wl : Int) l2) := ⟨_, rfl⟩
        rw [← hlm] at hv
        have HLM := Aside0.mk hlm
        clear hlm
        obtain ⟨A7, c7, rfl⟩ := Kd.R_slice hv
        have HV7 := Aside0.mk (Kd.R_reads' hv).2.2
        have hru := runtil_c A2 c2 l2 (N : Int) w7 (Kd.R_reads' (by rw [← HLN.out] at HL7; exact HL7.out)).2.2 (lt_big HLN.out HBN.out)
        rw [HLN.out] at hru
        have HRU := Aside0.mk hru
        clear hv hp hr hbb hgw hru HTK
        go_wp2_with fail
        refine HRU.out.mono ?_
        rintro e w8 ⟨rfl, hb⟩
        have HB8 := Aside0.mk (below_kept HB7.out hb)
        have HL8 := Aside0.mk (Kd.R_below HL7.out hb)
        have HR8 := Aside0.mk (Kd.R_below HR7.out hb)
        have HP8 := Aside0.mk (show PC w8 g (.slice A4 n c4) st p q wl (countT (nowN st p q wl : Int) l2) true from blk_below HP7.out hb)
        have HV8 := Aside0.mk (Kd.C_below HV7.out hb)
        have hmo : countT (nowN st p q wl : Int) l2 ≤ countT (N : Int) l2 := by rw [← HNN.out]; exact countT_mono (Int.ofNat_le.2 (now_mono (by rw [HU2.out]; exact Nat.le_refl _))) l2
        obtain ⟨Ax, cx, hcut, hcx, hCx⟩ := cut_mid_ex (P := Try.prog) k54 22 54 (.agg #[(.int .i64 0), (.int .i64 0), (.string ⟨#[]⟩), (.int .i64 0), (.int .i64 0)]) 48 Try.underlying22 info54 A2 c2 l2 (countT (nowN st p q wl : Int) l2 : Int) (countT (N : Int) l2 : Int) (Int.natCast_nonneg _) (Int.ofNat_le.2 hmo) (Int.ofNat_le.2 (countT_le _ _)) (by rw [← HLN.out] at HL8; exact (Kd.R_reads' HL8.out).2.1)
        simp only [Int.toNat_natCast, HLN.out] at hcut hcx hCx
        have hCl := (Kd.R_reads' (by rw [← HLN.out] at HL8; exact HL8.out)).2.2
        rw [HLN.out] at hCl
        rw [← HLM.out] at hcut hCx
        have hsm := same_c A7 Ax c7 cx _ w8 HV8.out (hCx w8 hCl) (by rw [HLM.out]; exact len_small _ _ (lt_big HLN.out HBN.out))
        have HSM := Aside0.mk hsm
        clear hb hmo hcx hCx hCl hsm
        go_wp2_with fail
        refine HSM.out.mono ?_
        rintro e w9 ⟨rfl, hb⟩
        have HB9 := Aside0.mk (below_kept HB8.out hb)
        have HL9 := Aside0.mk (Kd.R_below HL8.out hb)
        have HR9 := Aside0.mk (Kd.R_below HR8.out hb)
        have HP9 := Aside0.mk (show PC w9 g (.slice A4 n c4) st p q wl (countT (nowN st p q wl : Int) l2) true from blk_below HP8.out hb)
        clear hb hcut f1 f2 f3 f4 f5 f6 f7
        go_wp2_with fail
        go_roundg g0
        case measure => omega
        case rel => exact ⟨i + 1, wl, true, rfl, by rw [← HNN.out, HU2.out], by first | go_num | (congr 1; unfold wrap64; omega), ⟨by have := HGK.out; omega⟩, ⟨wl_up HWL.out⟩, HP9, HR9, HL9, HB9⟩
    · have him : (m : Int) ≤ i := by omega
      have hcl := countT_le (nowN st p q wl : Int) l2
      rw [HLN.out] at hcl
      obtain ⟨k, hk⟩ : ∃ k, k = countT (nowN st p q wl : Int) l2 := ⟨_, rfl⟩
      rw [← hk] at hcl
      have hp := HP.out
      rw [← hk] at hp
      rw [← hk]
      have hlf := left_c g A4 n c4 st p q wl k pz wr hp hcl (by omega)
      have HLF := Aside0.mk hlf
      have hsub3 := left_facts hcl (show n ≤ 60 by omega)
      obtain ⟨hs1, hs2, hs3⟩ := hsub3
      clear hgi hi hcl hk hp hlf
      go_wp2_with fail
      refine HLF.out.mono ?_
      rintro e w6 ⟨rfl, hb⟩
      have HB6 := Aside0.mk (below_kept HB.out hb)
      clear hb
      go_wp2
      go_ret
      exact ⟨by first | rfl | simp, HB6.out⟩
set_option maxHeartbeats 3200000 in
set_option maxRecDepth 100000 in
theorem times_big (A B : Option Addr) (c cb n m : Nat) (a b d : Int) (w : World) (hn : n ≤ maxLen) (hm : m ≤ maxLen) (hbig : 60 < n ∨ (n ≤ 60 ∧ 60 < m)) :
    Calls Try.prog 4 #[.slice A n c, .agg #[.int .i64 a, .int .i64 b, .int .i64 d], .slice B m cb] w fun e w' => e = .returned (.bool true) ∧ Below w.heap.size w w' := by
  have hbi : (60 : Int) < n ∨ ((n : Int) ≤ 60 ∧ (60 : Int) < m) := by omega
  have h2 : (n : Int) ≤ 9223372036854775807 := by unfold maxLen at hn; omega
  have h3 : (m : Int) ≤ 9223372036854775807 := by unfold maxLen at hm; omega
  clear hbig hn hm
  go_enter Try.func4, Try.ntmps4
  go_wp2_with fail
  have hb0 := below_alloc (Below.refl w.heap.size w) (.cells #[.int .i64 a, .int .i64 b, .int .i64 d] 23)
  refine (fit_c _).mono ?_
  rintro e w1 ⟨rfl, hb⟩
  have HB := Aside0.mk (below_then hb0 (Nat.le_trans (Nat.le_refl _) hb0.size) hb)
  clear hb hb0
  rcases hbi with h | ⟨h, h4⟩
  · go_wp2
    go_ret
    exact ⟨rfl, HB.out⟩
  · go_wp2
    go_ret
    exact ⟨rfl, HB.out⟩
theorem row {w : World} (A : Option Addr) (c : Nat) (l : List S54) (hC : Kd.C k54 w A l.length l) (_ : l.length ≤ c) (_ : ∀ x ∈ l, EvOpen.evwf x) (a b d : Int) (_ : (Lit.int .i64 a).wf = true) (_ : (Lit.int .i64 b).wf = true) (_ : (Lit.int .i64 d).wf = true) (B : Option Addr) (cb : Nat) (ts : List Int) (hT : ReadsInt w .i64 B ts.length ts) (_ : ts.length ≤ cb) (_ : ∀ x ∈ ts, (Lit.int .i64 x).wf = true) (_ : ts.length * 8 ≤ 140737488351232) :
    Calls Try.prog 4 #[.slice A l.length c, .agg #[.int .i64 a, .int .i64 b, .int .i64 d], .slice B ts.length cb] w fun e w' => e = .returned (.bool true) ∧ Below w.heap.size w w' := by
  by_cases h1 : 60 < l.length
  · exact times_big A B c cb _ _ a b d w (by have := hC.2.1; unfold maxLen; omega) (by have := hT.2.1; unfold maxLen; omega) (.inl h1)
  · by_cases h2 : 60 < ts.length
    · exact times_big A B c cb _ _ a b d w (by have := hC.2.1; unfold maxLen; omega) (by have := hT.2.1; unfold maxLen; omega) (.inr ⟨by omega, h2⟩)
    · exact times_small A B c cb l ts a b d w hC hT (by omega) (by omega)
end Go.Proofs.Ytmongghhagbokaa.PlTimes
