/- The law EventShifts returns true: a walk through its text; no condition but that the list can be read. -/
import Derived.Test.YtbofeaclgnekkaaEvFit
import Derived.Test.YtbofeaclgnekkaaEvOpen
import Derived.Test.YtbofeaclgnekkaaEvUntil
import Derived.Test.YtbofeaclgnekkaaEvShift
namespace Go.Proofs.Ytbofeaclgnekkaa.EvShifts
open Go.RowKit Go.Proofs.Ytbofeaclgnekkaa.Kit Go.Proofs.Ytbofeaclgnekkaa.Plain Go.Proofs.Ytbofeaclgnekkaa.Mine Go.Proofs.Ytbofeaclgnekkaa.Vary Go.Proofs.Ytbofeaclgnekkaa.Reader Go.Proofs.Ytbofeaclgnekkaa.Event Go.Proofs.Ytbofeaclgnekkaa.EventRef Go.Proofs.Ytbofeaclgnekkaa.EventList Go.Proofs.Ytbofeaclgnekkaa.EventListR Go.Proofs.Ytbofeaclgnekkaa.Tame Go.Proofs.Ytbofeaclgnekkaa.EvFit Go.Proofs.Ytbofeaclgnekkaa.EvUntil Go.Proofs.Ytbofeaclgnekkaa.EvShift Go.Proofs.YtbofeaclgnekkaaW.PrintWords Go.Proofs.YtbofeaclgnekkaaW.PrintLast Go.Proofs.YtbofeaclgnekkaaW.PrintMore
open Go.Proofs.Ytbofeaclgnekkaa.PEventRights (S25 z25 k25 k25_open k25_mk k25_mkM rd_T25 at_T25 info25)
set_option linter.unusedVariables false
set_option linter.unusedSimpArgs false
theorem low62 (n : Int) : Go.bits .and .i64 n 4611686018427387903 = n % 4611686018427387904 := by
  have h127 : (BitVec.ofInt 64 4611686018427387903).toNat = 2 ^ 62 - 1 := by decide
  have key : (BitVec.ofInt 64 n &&& BitVec.ofInt 64 4611686018427387903).toNat = (n % ((2 ^ 64 : Nat) : Int)).toNat % 2 ^ 62 := by
    rw [BitVec.toNat_and, BitVec.toNat_ofInt, h127, Nat.and_two_pow_sub_one_eq_mod]
  show IntKind.i64.wrap ((BitVec.ofInt 64 n &&& BitVec.ofInt 64 4611686018427387903).toNat : Nat) = n % 4611686018427387904
  rw [key, IntKind.wrap_i64]
  omega
theorem listR_right (l : List S25) : ∀ t, listR t l = true → ∀ x ∈ l, right x = true := by
  induction l with
  | nil => intro t _ x hx; simp at hx
  | cons y l ih =>
    intro t h x hx
    rw [listR_cons, Bool.and_eq_true, Bool.and_eq_true] at h
    rcases List.mem_cons.1 hx with rfl | hx
    · exact h.1.1
    · exact ih _ h.2 x hx
theorem right_time {x : S25} (h : right x = true) : 0 ≤ x.f0 ∧ x.f0 < 4611686018427387904 := by
  unfold right rightB at h
  exact ⟨(of_decide_eq_true h).1, (of_decide_eq_true h).2.1⟩
theorem no_wrap {x d : Int} (h0 : 0 ≤ x) (h1 : x < 4611686018427387904) (d0 : 0 ≤ d) (d1 : d < 4611686018427387904) : wrap64 (x + d) = x + d ∧ wrap64 (wrap64 (x + d) + -d) = x ∧ wrap64 (wrap64 (x + d) - d) = x := by unfold wrap64; omega
theorem shift_back (d : Int) (l : List S25) (d0 : 0 ≤ d) (d1 : d < 4611686018427387904) (h : ∀ x ∈ l, right x = true) : shift (-d) (shift d l) = l := by
  unfold shift
  rw [List.map_map]
  refine (List.map_congr_left (g := id) (fun x hx => ?_)).trans (List.map_id _)
  have h1 := right_time (h x hx)
  have h2 := no_wrap h1.1 h1.2 d0 d1
  show (⟨wrap64 (wrap64 (x.f0 + d) + -d), x.f1, x.f2, x.f3, x.f4⟩ : S25) = x
  rw [h2.2.1]
theorem right_shift {x : S25} (d : Int) (d0 : 0 ≤ d) (h : right x = true) : right ⟨x.f0 + d, x.f1, x.f2, x.f3, x.f4⟩ = decide (x.f0 + d < 4611686018427387904) := by
  unfold right rightB at h ⊢
  have h2 := of_decide_eq_true h
  rw [decide_eq_decide]
  constructor
  · intro h3; exact h3.2.1
  · intro h3; exact ⟨by have := h2.1; show 0 ≤ x.f0 + d; omega, h3, h2.2.2.1, h2.2.2.2⟩
theorem list_shift (d : Int) (d0 : 0 ≤ d) (d1 : d < 4611686018427387904) (l : List S25) : ∀ t u : Int, listR t l = true → u ≤ t + d → listR u (shift d l) = decide (∀ x ∈ l, x.f0 + d < 4611686018427387904) := by
  induction l with
  | nil => intro t u _ _; simp [shift, listR]
  | cons y l ih =>
    intro t u h hu
    rw [listR_cons, Bool.and_eq_true, Bool.and_eq_true] at h
    have h1 := of_decide_eq_true h.1.2
    have ht := right_time h.1.1
    have hw := (no_wrap ht.1 ht.2 d0 d1).1
    have e : shift d (y :: l) = ⟨wrap64 (y.f0 + d), y.f1, y.f2, y.f3, y.f4⟩ :: shift d l := rfl
    rw [e, hw, listR_cons, right_shift d d0 h.1.1, ih y.f0 (y.f0 + d) h.2 (Int.le_refl _), decide_eq_true (show u ≤ y.f0 + d by omega), Bool.and_true]
    by_cases ha : y.f0 + d < 4611686018427387904
    · rw [decide_eq_true ha, Bool.true_and, decide_eq_decide]
      exact ⟨fun h3 x hx => (List.mem_cons.1 hx).elim (fun h4 => by rw [h4]; exact ha) (h3 x), fun h3 x hx => h3 x (by simp [hx])⟩
    · rw [decide_eq_false ha, Bool.false_and]
      exact (decide_eq_false (fun h3 => ha (h3 y (by simp)))).symm
theorem list_shift_last (d : Int) (d0 : 0 ≤ d) (d1 : d < 4611686018427387904) (l : List S25) (h : listR 0 l = true) (hn : 0 < l.length) : listR 0 (shift d l) = decide (l[l.length - 1].f0 + d < 4611686018427387904) := by
  rw [list_shift d d0 d1 l 0 0 h (by omega), decide_eq_decide]
  constructor
  · intro h3; exact h3 _ (List.getElem_mem _)
  · intro h3 x hx
    obtain ⟨i, hi, rfl⟩ := List.mem_iff_getElem.1 hx
    have := listR_rising l 0 h i (l.length - 1) hi (by omega) (by omega)
    omega
theorem list_shift_nil (d : Int) (l : List S25) (hn : l.length = 0) : listR 0 (shift d l) = true := by
  rw [List.eq_nil_of_length_eq_zero hn]; rfl
theorem shift_get (d : Int) (l : List S25) (i : Nat) (hi : i < l.length) (hi2 : i < (shift d l).length) : (shift d l)[i] = ⟨wrap64 (l[i].f0 + d), l[i].f1, l[i].f2, l[i].f3, l[i].f4⟩ := by
  simp [shift]
set_option maxHeartbeats 800000 in
set_option maxRecDepth 100000 in
theorem shifts_big (A : Option Addr) (c : Nat) (l : List S25) (t : Int) (w : World) (h : 100 < l.length) :
    Calls Try.prog 4 #[.slice A l.length c, .int .i64 t] w fun e w' => e = .returned (.bool true) ∧ Below w.heap.size w w' := by
  have h2 : 100 < (l.length : Int) := by omega
  clear h
  go_enter Try.func4, Try.ntmps4
  go_wp2_with (go_at_call 8; refine (fit_c _).mono ?_; rintro e w1 ⟨rfl, hb⟩; have HB := Aside0.mk hb; clear hb)
  go_ret
  exact ⟨rfl, HB.out⟩
set_option maxHeartbeats 3200000 in
set_option maxRecDepth 100000 in
theorem shifts_small (A : Option Addr) (c : Nat) (l : List S25) (t : Int) (w : World) (hr : Kd.C k25 w A l.length l) (hl : l.length ≤ 100) :
    Calls Try.prog 4 #[.slice A l.length c, .int .i64 t] w fun e w' => e = .returned (.bool true) ∧ Below w.heap.size w w' := by
  have hu := Try.underlying25
  have h2 : (l.length : Int) ≤ 100 := by omega
  have htr := tame_right l 0 (by omega) (by omega)
  have htl := tame_len l 0
  have HTM := Aside0.mk (fun W (h : Below w.heap.size w W) => tame_c A c l W (Kd.C_below hr h) (by omega))
  obtain ⟨lt, hlt⟩ : ∃ lt, lt = tame 0 l := ⟨_, rfl⟩
  rw [← hlt] at HTM htr htl
  obtain ⟨n, hn⟩ : ∃ n, n = lt.length := ⟨_, rfl⟩
  have hnl : n ≤ 100 := by omega
  have hd := low62 t
  obtain ⟨d, hd2⟩ : ∃ d, Go.bits .and .i64 t 4611686018427387903 = d := ⟨_, rfl⟩
  have d0 : 0 ≤ d := by omega
  have d1 : d < 4611686018427387904 := by omega
  obtain ⟨m, hm⟩ : ∃ m, m = shift d lt := ⟨_, rfl⟩
  have hml : m.length = n := by rw [hm, shift_len, hn]
  have HS := Aside0.mk (fun A c W h => shift_c A c lt d W h (by omega))
  have hsb := shift_back d lt d0 d1 (listR_right lt 0 htr)
  rw [← hm] at HS hsb
  have hS2 := fun A c W h => shift_c A c m (-d) W h (by omega)
  rw [hsb] at hS2
  have HS2 := Aside0.mk hS2
  have HSA := Aside0.mk (fun A B c c2 W h h2 => same_c A B c c2 lt W h h2 (by omega))
  have HLM := Aside0.mk (fun A c W h => list_c A c m W h)
  have HGET := Aside0.mk (show ∀ (i : Nat) (hi : i < lt.length) (hi2 : i < m.length), ∃ s : Int, m[i] = ⟨s, lt[i].f1, lt[i].f2, lt[i].f3, lt[i].f4⟩ ∧ wrap64 (s - d) = lt[i].f0 from fun i hi hi2 => ⟨wrap64 (lt[i].f0 + d), by
    subst hm
    exact shift_get d lt i hi hi2, by
    have h1 := right_time (listR_right lt 0 htr lt[i] (List.getElem_mem hi))
    exact (no_wrap h1.1 h1.2 d0 d1).2.2⟩)
  have HLAST := Aside0.mk (show ∀ (hn : 0 < m.length), ∃ (hi : m.length - 1 < m.length), listR 0 m = decide (m[m.length - 1].f0 < 4611686018427387904) from fun hn0 => ⟨by omega, by
    subst hm
    have hn1 : 0 < lt.length := by rw [shift_len] at hn0; exact hn0
    have h1 := list_shift_last d d0 d1 lt htr hn1
    have h3 := right_time (listR_right lt 0 htr lt[lt.length - 1] (List.getElem_mem _))
    rw [h1]
    congr 1
    rw [shift_get d lt _ (by rw [shift_len]; omega)]
    show _ = (wrap64 (_ + d) < _)
    simp only [shift_len]
    rw [(no_wrap h3.1 h3.2 d0 d1).1]⟩)
  have HNIL := Aside0.mk (show n = 0 → listR 0 m = true from fun h => by rw [hm]; exact list_shift_nil d lt (by omega))
  have hneg : wrap64 (-d) = -d := by unfold wrap64; omega
  have HLT := Aside0.mk hn.symm
  have HML := Aside0.mk hml
  have HN := Aside0.mk hnl
  have hni : (n : Int) ≤ 100 := by omega
  have HD0 := Aside0.mk d0
  have HD1 := Aside0.mk d1
  clear hr hl htr htl hlt hd hn hnl hm hml hsb hS2 d0 d1
  go_enter Try.func4, Try.ntmps4
  go_wp2_with (go_at_call 8; refine (fit_c _).mono ?_; rintro e w1 ⟨rfl, hb⟩; have HB0 := Aside0.mk hb; clear hb)
  refine (HTM.out _ HB0.out).mono ?_
  rintro e w5 ⟨v5, rfl, ho, hb⟩
  have HB5 := Aside0.mk (below_kept HB0.out hb)
  obtain ⟨A5, c5, rfl⟩ := Kd.R_slice ho
  have HC5 := Aside0.mk (Kd.R_reads' ho).2.2
  have hs := HS.out A5 c5 _ HC5.out
  rw [HLT.out] at hs ⊢
  have HS5 := Aside0.mk hs
  clear hb ho HTM hs HS
  go_wp2_with fail
  refine HS5.out.mono ?_
  rintro e w6 ⟨v6, rfl, ho, hb⟩
  have HB6 := Aside0.mk (below_kept HB5.out hb)
  have HC6 := Aside0.mk (Kd.C_below HC5.out hb)
  obtain ⟨A6, c6, rfl⟩ := Kd.R_slice ho
  have HM6 := Aside0.mk (Kd.R_reads' ho).2.2
  rw [HML.out]
  clear hb ho HC5 HS5
  go_wp2_with fail
  go_loopg [23] n (fun g v23 W => ∃ i : Nat, v23 = .int .i64 (i : Int) ∧ Aside0 (g + i = n) ∧ Aside0 (Below w6.heap.size w6 W))
  case atStart => exact ⟨0, rfl, ⟨by omega⟩, ⟨Below.refl _ _⟩⟩
  case round =>
    obtain ⟨i, rfl, HG, HB⟩ := hrel
    have hgi := HG.out
    by_cases hi : i < n
    · obtain ⟨g0, rfl⟩ : ∃ g0, gk = g0 + 1 := ⟨gk - 1, by omega⟩
      have hi1 : i < lt.length := by rw [HLT.out]; exact hi
      have hi2 : i < m.length := by rw [HML.out]; exact hi
      obtain ⟨s, hmi, hsd⟩ := HGET.out i hi1 hi2
      obtain ⟨ad, ead, hc0, hc1, hc2, hc3, hc4⟩ := at_ev (Kd.C_below HM6.out HB.out) i hi2
      rw [hmi] at hc0 hc1 hc2 hc3 hc4
      obtain ⟨x, hx⟩ : ∃ x, x = lt[i] := ⟨_, rfl⟩
      have HLX := Aside0.mk (show ∀ W, Below w6.heap.size w6 W → ∃ ad, A5 = some ad ∧ W.cell? (ad.add (i * 5)) = some (.int .i64 x.f0) ∧ W.cell? ⟨(ad.add (i * 5)).block, (ad.add (i * 5)).off + 1, none⟩ = some (.int .i64 x.f1) ∧ W.cell? ⟨(ad.add (i * 5)).block, (ad.add (i * 5)).off + 2, none⟩ = some (.string x.f2) ∧
        W.cell? ⟨(ad.add (i * 5)).block, (ad.add (i * 5)).off + 3, none⟩ = some (.int .i64 x.f3) ∧ W.cell? ⟨(ad.add (i * 5)).block, (ad.add (i * 5)).off + 4, none⟩ = some (.int .i64 x.f4) from fun W hW => by rw [hx]; exact at_ev (Kd.C_below HC6.out hW) i hi1)
      rw [← hx] at hc0 hc1 hc2 hc3 hc4 hsd
      have hil : (i : Int) < n := by omega
      have HI := Aside0.mk hi
      obtain ⟨xt, xk, xd, xw, xh⟩ := x
      dsimp only at hc0 hc1 hc2 hc3 hc4 hsd
      have HSD := Aside0.mk hsd
      subst ead
      clear hx hgi hi hmi hi1 hi2 hsd
      go_upto_region 10 with fail
      go_cut [6, 7] (fun v6 v7 W => v6 = .int .i64 (i : Int) ∧ ∃ g : Nat, v7 = .pointer (some ⟨g, 0, none⟩) ∧ Aside0 (W.heap[g]? = some (.cells #[.int .i64 s, .int .i64 xk, .string xd, .int .i64 xw, .int .i64 xh] 25 (0, 0))) ∧ Aside0 (Below w6.heap.size w6 W))
      case first =>
        go_wp2_with fail
        go_meet
        case rel => exact ⟨rfl, wr.heap.size, rfl, ⟨blk_new wr _⟩, ⟨below_alloc HB.out _⟩⟩
      case rest =>
        obtain ⟨rfl, g, rfl, BK, HBC⟩ := hcut
        clear hc0 hc1 hc2 hc3 hc4 HB
        have hg0 := (blk_cell (blk_drew BK.out) 0).trans rfl
        have hg1 := (blk_cell (blk_drew BK.out) 1).trans rfl
        have hg2 := (blk_cell (blk_drew BK.out) 2).trans rfl
        have hg3 := (blk_cell (blk_drew BK.out) 3).trans rfl
        have hg4 := (blk_cell (blk_drew BK.out) 4).trans rfl
        obtain ⟨ad5, ead5, hl0, hl1, hl2, hl3, hl4⟩ := HLX.out _ (below_drew HBC.out)
        subst ead5
        have hsd := HSD.out
        have hsd2 : IntKind.i64.wrap (s - d) = xt := (i64_w _).trans hsd
        have hge : decide ((n : Int) ≤ i) = false := decide_eq_false (by omega)
        have hge2 : decide (n ≤ i) = false := decide_eq_false (by omega)
        clear HLX
        go_upto_region 11 with fail
        go_cut [83] (fun v83 W => v83 = .bool false ∧ Aside0 (Below w6.heap.size w6 W))
        case first =>
          refine start_ (n := 56) (S := fun w' => w'.cell? ⟨g, 0, none⟩ = some (.int .i64 s) ∧ w'.cell? ⟨g, 1, none⟩ = some (.int .i64 xk) ∧ w'.cell? ⟨g, 2, none⟩ = some (.string xd) ∧ w'.cell? ⟨g, 3, none⟩ = some (.int .i64 xw) ∧ w'.cell? ⟨g, 4, none⟩ = some (.int .i64 xh) ∧ w'.cell? (ad5.add (i * 5)) = some (.int .i64 xt) ∧ w'.cell? ⟨(ad5.add (i * 5)).block, (ad5.add (i * 5)).off + 1, none⟩ = some (.int .i64 xk) ∧ w'.cell? ⟨(ad5.add (i * 5)).block, (ad5.add (i * 5)).off + 2, none⟩ = some (.string xd) ∧ w'.cell? ⟨(ad5.add (i * 5)).block, (ad5.add (i * 5)).off + 3, none⟩ = some (.int .i64 xw) ∧ w'.cell? ⟨(ad5.add (i * 5)).block, (ad5.add (i * 5)).off + 4, none⟩ = some (.int .i64 xh)) (ds := []) #[false, false, false, false, false, false, false, false, false, false, false, false, false, false, false, false, false, false, false, false, false, false, false, false, false, false, false, false, false, false, false, false, false, false, false, false, false, false, false, false, false, false, false, false, false, false, false, false, false, false, false, false, false, false, false, false] (by kernel_rfl) rfl rfl ⟨hg0, hg1, hg2, hg3, hg4, hl0, hl1, hl2, hl3, hl4⟩ (fun hHeld => ?_)
          refine pure_ (i := 0) (N := some 28) (v := ?_) (a' := ?_) #[true, false, false, false, false, false, false, false, false, false, false, false, false, false, false, false, false, false, false, false, false, false, false, false, false, false, false, false, false, false, false, false, false, false, false, false, false, false, false, false, false, false, false, false, false, false, false, false, false, false, false, false, false, false, false, false] rfl rfl (by kernel_rfl) (fun _ _ _ h => h) (Or.inl ⟨by rfl, ?_⟩) ?_ ?_
          rotate_left
          · intro w'
            go_simp
            with_reducible rfl
          rotate_left
          · simp only [Act.put, List.setIfInBounds_toArray, List.set_cons_zero, List.set_cons_succ, i64_w, i32_w]
            rfl
          refine pure_ (i := 1) (N := some 29) (v := ?_) (a' := ?_) #[true, true, false, false, false, false, false, false, false, false, false, false, false, false, false, false, false, false, false, false, false, false, false, false, false, false, false, false, false, false, false, false, false, false, false, false, false, false, false, false, false, false, false, false, false, false, false, false, false, false, false, false, false, false, false, false] rfl rfl (by kernel_rfl) (fun _ _ _ h => h) (Or.inl ⟨by rfl, ?_⟩) ?_ ?_
          rotate_left
          · intro w'
            go_simp
            with_reducible rfl
          rotate_left
          · simp only [Act.put, List.setIfInBounds_toArray, List.set_cons_zero, List.set_cons_succ, i64_w, i32_w]
            rfl
          refine pure_ (i := 2) (N := some 30) (v := ?_) (a' := ?_) #[true, true, true, false, false, false, false, false, false, false, false, false, false, false, false, false, false, false, false, false, false, false, false, false, false, false, false, false, false, false, false, false, false, false, false, false, false, false, false, false, false, false, false, false, false, false, false, false, false, false, false, false, false, false, false, false] rfl rfl (by kernel_rfl) (fun _ _ _ h => h) (Or.inl ⟨by rfl, ?_⟩) ?_ ?_
          rotate_left
          · intro w'
            go_simp
            with_reducible rfl
          rotate_left
          · simp only [Act.put, List.setIfInBounds_toArray, List.set_cons_zero, List.set_cons_succ, i64_w, i32_w]
            rfl
          refine pure_ (i := 3) (N := some 31) (v := ?_) (a' := ?_) #[true, true, true, true, false, false, false, false, false, false, false, false, false, false, false, false, false, false, false, false, false, false, false, false, false, false, false, false, false, false, false, false, false, false, false, false, false, false, false, false, false, false, false, false, false, false, false, false, false, false, false, false, false, false, false, false] rfl rfl (by kernel_rfl) (fun _ _ _ h => h) (Or.inl ⟨by rfl, ?_⟩) ?_ ?_
          rotate_left
          · intro w'
            go_simp
            with_reducible rfl
          rotate_left
          · simp only [Act.put, List.setIfInBounds_toArray, List.set_cons_zero, List.set_cons_succ, i64_w, i32_w]
            rfl
          refine pure_ (i := 4) (N := some 32) (v := ?_) (a' := ?_) #[true, true, true, true, true, false, false, false, false, false, false, false, false, false, false, false, false, false, false, false, false, false, false, false, false, false, false, false, false, false, false, false, false, false, false, false, false, false, false, false, false, false, false, false, false, false, false, false, false, false, false, false, false, false, false, false] rfl rfl (by kernel_rfl) (fun _ _ _ h => h) (Or.inl ⟨by rfl, ?_⟩) ?_ ?_
          rotate_left
          · intro w'
            go_simp
            with_reducible rfl
          rotate_left
          · simp only [Act.put, List.setIfInBounds_toArray, List.set_cons_zero, List.set_cons_succ, i64_w, i32_w]
            rfl
          refine pure_ (i := 5) (N := some 33) (v := ?_) (a' := ?_) #[true, true, true, true, true, true, false, false, false, false, false, false, false, false, false, false, false, false, false, false, false, false, false, false, false, false, false, false, false, false, false, false, false, false, false, false, false, false, false, false, false, false, false, false, false, false, false, false, false, false, false, false, false, false, false, false] rfl rfl (by kernel_rfl) (fun _ _ _ h => h) (Or.inl ⟨by rfl, ?_⟩) ?_ ?_
          rotate_left
          · intro w'
            go_simp
            with_reducible rfl
          rotate_left
          · simp only [Act.put, List.setIfInBounds_toArray, List.set_cons_zero, List.set_cons_succ, i64_w, i32_w]
            rfl
          refine pure_ (i := 7) (N := some 35) (v := ?_) (a' := ?_) #[true, true, true, true, true, true, false, true, false, false, false, false, false, false, false, false, false, false, false, false, false, false, false, false, false, false, false, false, false, false, false, false, false, false, false, false, false, false, false, false, false, false, false, false, false, false, false, false, false, false, false, false, false, false, false, false] rfl rfl (by kernel_rfl) (fun _ _ _ h => h) (Or.inl ⟨by rfl, ?_⟩) ?_ ?_
          rotate_left
          · intro w'
            go_simp
            with_reducible rfl
          rotate_left
          · simp only [Act.put, List.setIfInBounds_toArray, List.set_cons_zero, List.set_cons_succ, i64_w, i32_w]
            rfl
          refine pure_ (i := 9) (N := some 37) (v := ?_) (a' := ?_) #[true, true, true, true, true, true, false, true, false, true, false, false, false, false, false, false, false, false, false, false, false, false, false, false, false, false, false, false, false, false, false, false, false, false, false, false, false, false, false, false, false, false, false, false, false, false, false, false, false, false, false, false, false, false, false, false] rfl rfl (by kernel_rfl) (fun _ _ _ h => h) (Or.inl ⟨by rfl, ?_⟩) ?_ ?_
          rotate_left
          · intro w'
            go_simp
            with_reducible rfl
          rotate_left
          · simp only [Act.put, List.setIfInBounds_toArray, List.set_cons_zero, List.set_cons_succ, i64_w, i32_w]
            rfl
          refine pure_ (i := 10) (N := some 38) (v := ?_) (a' := ?_) #[true, true, true, true, true, true, false, true, false, true, true, false, false, false, false, false, false, false, false, false, false, false, false, false, false, false, false, false, false, false, false, false, false, false, false, false, false, false, false, false, false, false, false, false, false, false, false, false, false, false, false, false, false, false, false, false] rfl rfl (by kernel_rfl) (fun _ _ _ h => h) (Or.inl ⟨by rfl, ?_⟩) ?_ ?_
          rotate_left
          · intro w'
            go_simp
            with_reducible rfl
          rotate_left
          · simp only [Act.put, List.setIfInBounds_toArray, List.set_cons_zero, List.set_cons_succ, i64_w, i32_w]
            rfl
          refine pure_ (i := 11) (N := some 39) (v := ?_) (a' := ?_) #[true, true, true, true, true, true, false, true, false, true, true, true, false, false, false, false, false, false, false, false, false, false, false, false, false, false, false, false, false, false, false, false, false, false, false, false, false, false, false, false, false, false, false, false, false, false, false, false, false, false, false, false, false, false, false, false] rfl rfl (by kernel_rfl) (fun _ _ _ h => h) (Or.inl ⟨by rfl, ?_⟩) ?_ ?_
          rotate_left
          · intro w'
            go_simp
            with_reducible rfl
          rotate_left
          · simp only [Act.put, List.setIfInBounds_toArray, List.set_cons_zero, List.set_cons_succ, i64_w, i32_w]
            rfl
          refine pure_ (i := 12) (N := some 40) (v := ?_) (a' := ?_) #[true, true, true, true, true, true, false, true, false, true, true, true, true, false, false, false, false, false, false, false, false, false, false, false, false, false, false, false, false, false, false, false, false, false, false, false, false, false, false, false, false, false, false, false, false, false, false, false, false, false, false, false, false, false, false, false] rfl rfl (by kernel_rfl) (fun _ _ _ h => h) (Or.inl ⟨by rfl, ?_⟩) ?_ ?_
          rotate_left
          · intro w'
            go_simp
            with_reducible rfl
          rotate_left
          · simp only [Act.put, List.setIfInBounds_toArray, List.set_cons_zero, List.set_cons_succ, i64_w, i32_w]
            rfl
          refine take_ (i := 6) (N := some 34) (v := ?_) (a' := ?_) #[true, true, true, true, true, true, true, true, false, true, true, true, true, false, false, false, false, false, false, false, false, false, false, false, false, false, false, false, false, false, false, false, false, false, false, false, false, false, false, false, false, false, false, false, false, false, false, false, false, false, false, false, false, false, false, false] rfl rfl (by kernel_rfl) (fun _ _ _ h => h) (Or.inl ⟨by rfl, ?_⟩) hHeld ?_ ?_
          rotate_left
          · rintro w' ⟨s0, s1, s2, s3, s4, s5, s6, s7, s8, s9⟩
            go_simp
            with_reducible rfl
          rotate_left
          · simp only [Act.put, List.setIfInBounds_toArray, List.set_cons_zero, List.set_cons_succ, i64_w, i32_w]
            rfl
          refine pure_ (i := 8) (N := some 36) (v := ?_) (a' := ?_) #[true, true, true, true, true, true, true, true, true, true, true, true, true, false, false, false, false, false, false, false, false, false, false, false, false, false, false, false, false, false, false, false, false, false, false, false, false, false, false, false, false, false, false, false, false, false, false, false, false, false, false, false, false, false, false, false] rfl rfl (by kernel_rfl) (fun _ _ _ h => h) (Or.inl ⟨by rfl, ?_⟩) ?_ ?_
          rotate_left
          · intro w'
            go_simp
            with_reducible rfl
          rotate_left
          · simp only [Act.put, List.setIfInBounds_toArray, List.set_cons_zero, List.set_cons_succ, i64_w, i32_w]
            rfl
          refine take_ (i := 13) (N := some 41) (v := ?_) (a' := ?_) #[true, true, true, true, true, true, true, true, true, true, true, true, true, true, false, false, false, false, false, false, false, false, false, false, false, false, false, false, false, false, false, false, false, false, false, false, false, false, false, false, false, false, false, false, false, false, false, false, false, false, false, false, false, false, false, false] rfl rfl (by kernel_rfl) (fun _ _ _ h => h) (Or.inl ⟨by rfl, ?_⟩) hHeld ?_ ?_
          rotate_left
          · rintro w' ⟨s0, s1, s2, s3, s4, s5, s6, s7, s8, s9⟩
            go_simp
            with_reducible rfl
          rotate_left
          · simp only [Act.put, List.setIfInBounds_toArray, List.set_cons_zero, List.set_cons_succ, i64_w, i32_w]
            rfl
          refine pure_ (i := 14) (N := some 42) (v := ?_) (a' := ?_) #[true, true, true, true, true, true, true, true, true, true, true, true, true, true, true, false, false, false, false, false, false, false, false, false, false, false, false, false, false, false, false, false, false, false, false, false, false, false, false, false, false, false, false, false, false, false, false, false, false, false, false, false, false, false, false, false] rfl rfl (by kernel_rfl) (fun _ _ _ h => h) (Or.inl ⟨by rfl, ?_⟩) ?_ ?_
          rotate_left
          · intro w'
            go_simp
            with_reducible rfl
          rotate_left
          · simp only [Act.put, List.setIfInBounds_toArray, List.set_cons_zero, List.set_cons_succ, i64_w, i32_w]
            rfl
          refine pure_ (i := 15) (N := some 43) (v := ?_) (a' := ?_) #[true, true, true, true, true, true, true, true, true, true, true, true, true, true, true, true, false, false, false, false, false, false, false, false, false, false, false, false, false, false, false, false, false, false, false, false, false, false, false, false, false, false, false, false, false, false, false, false, false, false, false, false, false, false, false, false] rfl rfl (by kernel_rfl) (fun _ _ _ h => h) (Or.inl ⟨by rfl, ?_⟩) ?_ ?_
          rotate_left
          · intro w'
            go_simp
            with_reducible rfl
          rotate_left
          · simp only [Act.put, List.setIfInBounds_toArray, List.set_cons_zero, List.set_cons_succ, i64_w, i32_w]
            rfl
          refine pure_ (i := 16) (N := some 44) (v := ?_) (a' := ?_) #[true, true, true, true, true, true, true, true, true, true, true, true, true, true, true, true, true, false, false, false, false, false, false, false, false, false, false, false, false, false, false, false, false, false, false, false, false, false, false, false, false, false, false, false, false, false, false, false, false, false, false, false, false, false, false, false] rfl rfl (by kernel_rfl) (fun _ _ _ h => h) (Or.inl ⟨by rfl, ?_⟩) ?_ ?_
          rotate_left
          · intro w'
            go_simp
            with_reducible rfl
          rotate_left
          · simp only [Act.put, List.setIfInBounds_toArray, List.set_cons_zero, List.set_cons_succ, i64_w, i32_w]
            rfl
          refine pure_ (i := 17) (N := some 45) (v := ?_) (a' := ?_) #[true, true, true, true, true, true, true, true, true, true, true, true, true, true, true, true, true, true, false, false, false, false, false, false, false, false, false, false, false, false, false, false, false, false, false, false, false, false, false, false, false, false, false, false, false, false, false, false, false, false, false, false, false, false, false, false] rfl rfl (by kernel_rfl) (fun _ _ _ h => h) (Or.inl ⟨by rfl, ?_⟩) ?_ ?_
          rotate_left
          · intro w'
            go_simp
            with_reducible rfl
          rotate_left
          · simp only [Act.put, List.setIfInBounds_toArray, List.set_cons_zero, List.set_cons_succ, i64_w, i32_w]
            rfl
          refine pure_ (i := 19) (N := some 47) (v := ?_) (a' := ?_) #[true, true, true, true, true, true, true, true, true, true, true, true, true, true, true, true, true, true, false, true, false, false, false, false, false, false, false, false, false, false, false, false, false, false, false, false, false, false, false, false, false, false, false, false, false, false, false, false, false, false, false, false, false, false, false, false] rfl rfl (by kernel_rfl) (fun _ _ _ h => h) (Or.inl ⟨by rfl, ?_⟩) ?_ ?_
          rotate_left
          · intro w'
            go_simp
            with_reducible rfl
          rotate_left
          · simp only [Act.put, List.setIfInBounds_toArray, List.set_cons_zero, List.set_cons_succ, i64_w, i32_w]
            rfl
          refine pure_ (i := 20) (N := some 48) (v := ?_) (a' := ?_) #[true, true, true, true, true, true, true, true, true, true, true, true, true, true, true, true, true, true, false, true, true, false, false, false, false, false, false, false, false, false, false, false, false, false, false, false, false, false, false, false, false, false, false, false, false, false, false, false, false, false, false, false, false, false, false, false] rfl rfl (by kernel_rfl) (fun _ _ _ h => h) (Or.inl ⟨by rfl, ?_⟩) ?_ ?_
          rotate_left
          · intro w'
            go_simp
            with_reducible rfl
          rotate_left
          · simp only [Act.put, List.setIfInBounds_toArray, List.set_cons_zero, List.set_cons_succ, i64_w, i32_w]
            rfl
          refine pure_ (i := 21) (N := some 49) (v := ?_) (a' := ?_) #[true, true, true, true, true, true, true, true, true, true, true, true, true, true, true, true, true, true, false, true, true, true, false, false, false, false, false, false, false, false, false, false, false, false, false, false, false, false, false, false, false, false, false, false, false, false, false, false, false, false, false, false, false, false, false, false] rfl rfl (by kernel_rfl) (fun _ _ _ h => h) (Or.inl ⟨by rfl, ?_⟩) ?_ ?_
          rotate_left
          · intro w'
            go_simp
            with_reducible rfl
          rotate_left
          · simp only [Act.put, List.setIfInBounds_toArray, List.set_cons_zero, List.set_cons_succ, i64_w, i32_w]
            rfl
          refine pure_ (i := 22) (N := some 50) (v := ?_) (a' := ?_) #[true, true, true, true, true, true, true, true, true, true, true, true, true, true, true, true, true, true, false, true, true, true, true, false, false, false, false, false, false, false, false, false, false, false, false, false, false, false, false, false, false, false, false, false, false, false, false, false, false, false, false, false, false, false, false, false] rfl rfl (by kernel_rfl) (fun _ _ _ h => h) (Or.inl ⟨by rfl, ?_⟩) ?_ ?_
          rotate_left
          · intro w'
            go_simp
            with_reducible rfl
          rotate_left
          · simp only [Act.put, List.setIfInBounds_toArray, List.set_cons_zero, List.set_cons_succ, i64_w, i32_w]
            rfl
          refine take_ (i := 18) (N := some 46) (v := ?_) (a' := ?_) #[true, true, true, true, true, true, true, true, true, true, true, true, true, true, true, true, true, true, true, true, true, true, true, false, false, false, false, false, false, false, false, false, false, false, false, false, false, false, false, false, false, false, false, false, false, false, false, false, false, false, false, false, false, false, false, false] rfl rfl (by kernel_rfl) (fun _ _ _ h => h) (Or.inl ⟨by rfl, ?_⟩) hHeld ?_ ?_
          rotate_left
          · rintro w' ⟨s0, s1, s2, s3, s4, s5, s6, s7, s8, s9⟩
            go_simp
            with_reducible rfl
          rotate_left
          · simp only [Act.put, List.setIfInBounds_toArray, List.set_cons_zero, List.set_cons_succ, i64_w, i32_w]
            rfl
          refine take_ (i := 23) (N := some 51) (v := ?_) (a' := ?_) #[true, true, true, true, true, true, true, true, true, true, true, true, true, true, true, true, true, true, true, true, true, true, true, true, false, false, false, false, false, false, false, false, false, false, false, false, false, false, false, false, false, false, false, false, false, false, false, false, false, false, false, false, false, false, false, false] rfl rfl (by kernel_rfl) (fun _ _ _ h => h) (Or.inl ⟨by rfl, ?_⟩) hHeld ?_ ?_
          rotate_left
          · rintro w' ⟨s0, s1, s2, s3, s4, s5, s6, s7, s8, s9⟩
            go_simp
            with_reducible rfl
          rotate_left
          · simp only [Act.put, List.setIfInBounds_toArray, List.set_cons_zero, List.set_cons_succ, i64_w, i32_w]
            rfl
          refine pure_ (i := 24) (N := some 52) (v := ?_) (a' := ?_) #[true, true, true, true, true, true, true, true, true, true, true, true, true, true, true, true, true, true, true, true, true, true, true, true, true, false, false, false, false, false, false, false, false, false, false, false, false, false, false, false, false, false, false, false, false, false, false, false, false, false, false, false, false, false, false, false] rfl rfl (by kernel_rfl) (fun _ _ _ h => h) (Or.inl ⟨by rfl, ?_⟩) ?_ ?_
          rotate_left
          · intro w'
            go_simp
            with_reducible rfl
          rotate_left
          · simp only [Act.put, List.setIfInBounds_toArray, List.set_cons_zero, List.set_cons_succ, i64_w, i32_w]
            rfl
          refine pure_ (i := 25) (N := some 53) (v := ?_) (a' := ?_) #[true, true, true, true, true, true, true, true, true, true, true, true, true, true, true, true, true, true, true, true, true, true, true, true, true, true, false, false, false, false, false, false, false, false, false, false, false, false, false, false, false, false, false, false, false, false, false, false, false, false, false, false, false, false, false, false] rfl rfl (by kernel_rfl) (fun _ _ _ h => h) (Or.inl ⟨by rfl, ?_⟩) ?_ ?_
          rotate_left
          · intro w'
            go_simp
            with_reducible rfl
          rotate_left
          · simp only [Act.put, List.setIfInBounds_toArray, List.set_cons_zero, List.set_cons_succ, i64_w, i32_w]
            rfl
          refine pure_ (i := 26) (N := some 54) (v := ?_) (a' := ?_) #[true, true, true, true, true, true, true, true, true, true, true, true, true, true, true, true, true, true, true, true, true, true, true, true, true, true, true, false, false, false, false, false, false, false, false, false, false, false, false, false, false, false, false, false, false, false, false, false, false, false, false, false, false, false, false, false] rfl rfl (by kernel_rfl) (fun _ _ _ h => h) (Or.inl ⟨by rfl, ?_⟩) ?_ ?_
          rotate_left
          · intro w'
            go_simp
            with_reducible rfl
          rotate_left
          · simp only [Act.put, List.setIfInBounds_toArray, List.set_cons_zero, List.set_cons_succ, i64_w, i32_w]
            rfl
          refine pure_ (i := 27) (N := some 55) (v := ?_) (a' := ?_) #[true, true, true, true, true, true, true, true, true, true, true, true, true, true, true, true, true, true, true, true, true, true, true, true, true, true, true, true, false, false, false, false, false, false, false, false, false, false, false, false, false, false, false, false, false, false, false, false, false, false, false, false, false, false, false, false] rfl rfl (by kernel_rfl) (fun _ _ _ h => h) (Or.inl ⟨by rfl, ?_⟩) ?_ ?_
          rotate_left
          · intro w'
            go_simp
            with_reducible rfl
          rotate_left
          · simp only [Act.put, List.setIfInBounds_toArray, List.set_cons_zero, List.set_cons_succ, i64_w, i32_w]
            rfl
          refine pure_ (i := 29) (N := some 57) (v := ?_) (a' := ?_) #[true, true, true, true, true, true, true, true, true, true, true, true, true, true, true, true, true, true, true, true, true, true, true, true, true, true, true, true, false, true, false, false, false, false, false, false, false, false, false, false, false, false, false, false, false, false, false, false, false, false, false, false, false, false, false, false] rfl rfl (by kernel_rfl) (fun _ _ _ h => h) (Or.inl ⟨by rfl, ?_⟩) ?_ ?_
          rotate_left
          · intro w'
            go_simp
            with_reducible rfl
          rotate_left
          · simp only [Act.put, List.setIfInBounds_toArray, List.set_cons_zero, List.set_cons_succ, i64_w, i32_w]
            rfl
          refine pure_ (i := 30) (N := some 58) (v := ?_) (a' := ?_) #[true, true, true, true, true, true, true, true, true, true, true, true, true, true, true, true, true, true, true, true, true, true, true, true, true, true, true, true, false, true, true, false, false, false, false, false, false, false, false, false, false, false, false, false, false, false, false, false, false, false, false, false, false, false, false, false] rfl rfl (by kernel_rfl) (fun _ _ _ h => h) (Or.inl ⟨by rfl, ?_⟩) ?_ ?_
          rotate_left
          · intro w'
            go_simp
            with_reducible rfl
          rotate_left
          · simp only [Act.put, List.setIfInBounds_toArray, List.set_cons_zero, List.set_cons_succ, i64_w, i32_w]
            rfl
          refine pure_ (i := 31) (N := some 59) (v := ?_) (a' := ?_) #[true, true, true, true, true, true, true, true, true, true, true, true, true, true, true, true, true, true, true, true, true, true, true, true, true, true, true, true, false, true, true, true, false, false, false, false, false, false, false, false, false, false, false, false, false, false, false, false, false, false, false, false, false, false, false, false] rfl rfl (by kernel_rfl) (fun _ _ _ h => h) (Or.inl ⟨by rfl, ?_⟩) ?_ ?_
          rotate_left
          · intro w'
            go_simp
            with_reducible rfl
          rotate_left
          · simp only [Act.put, List.setIfInBounds_toArray, List.set_cons_zero, List.set_cons_succ, i64_w, i32_w]
            rfl
          refine pure_ (i := 32) (N := some 60) (v := ?_) (a' := ?_) #[true, true, true, true, true, true, true, true, true, true, true, true, true, true, true, true, true, true, true, true, true, true, true, true, true, true, true, true, false, true, true, true, true, false, false, false, false, false, false, false, false, false, false, false, false, false, false, false, false, false, false, false, false, false, false, false] rfl rfl (by kernel_rfl) (fun _ _ _ h => h) (Or.inl ⟨by rfl, ?_⟩) ?_ ?_
          rotate_left
          · intro w'
            go_simp
            with_reducible rfl
          rotate_left
          · simp only [Act.put, List.setIfInBounds_toArray, List.set_cons_zero, List.set_cons_succ, i64_w, i32_w]
            rfl
          refine take_ (i := 28) (N := some 56) (v := ?_) (a' := ?_) #[true, true, true, true, true, true, true, true, true, true, true, true, true, true, true, true, true, true, true, true, true, true, true, true, true, true, true, true, true, true, true, true, true, false, false, false, false, false, false, false, false, false, false, false, false, false, false, false, false, false, false, false, false, false, false, false] rfl rfl (by kernel_rfl) (fun _ _ _ h => h) (Or.inl ⟨by rfl, ?_⟩) hHeld ?_ ?_
          rotate_left
          · rintro w' ⟨s0, s1, s2, s3, s4, s5, s6, s7, s8, s9⟩
            go_simp
            with_reducible rfl
          rotate_left
          · simp only [Act.put, List.setIfInBounds_toArray, List.set_cons_zero, List.set_cons_succ, i64_w, i32_w]
            rfl
          refine take_ (i := 33) (N := some 61) (v := ?_) (a' := ?_) #[true, true, true, true, true, true, true, true, true, true, true, true, true, true, true, true, true, true, true, true, true, true, true, true, true, true, true, true, true, true, true, true, true, true, false, false, false, false, false, false, false, false, false, false, false, false, false, false, false, false, false, false, false, false, false, false] rfl rfl (by kernel_rfl) (fun _ _ _ h => h) (Or.inl ⟨by rfl, ?_⟩) hHeld ?_ ?_
          rotate_left
          · rintro w' ⟨s0, s1, s2, s3, s4, s5, s6, s7, s8, s9⟩
            go_simp
            with_reducible rfl
          rotate_left
          · simp only [Act.put, List.setIfInBounds_toArray, List.set_cons_zero, List.set_cons_succ, i64_w, i32_w]
            rfl
          refine pure_ (i := 34) (N := some 62) (v := ?_) (a' := ?_) #[true, true, true, true, true, true, true, true, true, true, true, true, true, true, true, true, true, true, true, true, true, true, true, true, true, true, true, true, true, true, true, true, true, true, true, false, false, false, false, false, false, false, false, false, false, false, false, false, false, false, false, false, false, false, false, false] rfl rfl (by kernel_rfl) (fun _ _ _ h => h) (Or.inl ⟨by rfl, ?_⟩) ?_ ?_
          rotate_left
          · intro w'
            go_simp
            with_reducible rfl
          rotate_left
          · simp only [Act.put, List.setIfInBounds_toArray, List.set_cons_zero, List.set_cons_succ, i64_w, i32_w]
            rfl
          refine pure_ (i := 35) (N := some 63) (v := ?_) (a' := ?_) #[true, true, true, true, true, true, true, true, true, true, true, true, true, true, true, true, true, true, true, true, true, true, true, true, true, true, true, true, true, true, true, true, true, true, true, true, false, false, false, false, false, false, false, false, false, false, false, false, false, false, false, false, false, false, false, false] rfl rfl (by kernel_rfl) (fun _ _ _ h => h) (Or.inl ⟨by rfl, ?_⟩) ?_ ?_
          rotate_left
          · intro w'
            go_simp
            with_reducible rfl
          rotate_left
          · simp only [Act.put, List.setIfInBounds_toArray, List.set_cons_zero, List.set_cons_succ, i64_w, i32_w]
            rfl
          refine pure_ (i := 36) (N := some 64) (v := ?_) (a' := ?_) #[true, true, true, true, true, true, true, true, true, true, true, true, true, true, true, true, true, true, true, true, true, true, true, true, true, true, true, true, true, true, true, true, true, true, true, true, true, false, false, false, false, false, false, false, false, false, false, false, false, false, false, false, false, false, false, false] rfl rfl (by kernel_rfl) (fun _ _ _ h => h) (Or.inl ⟨by rfl, ?_⟩) ?_ ?_
          rotate_left
          · intro w'
            go_simp
            with_reducible rfl
          rotate_left
          · simp only [Act.put, List.setIfInBounds_toArray, List.set_cons_zero, List.set_cons_succ, i64_w, i32_w]
            rfl
          refine pure_ (i := 37) (N := some 65) (v := ?_) (a' := ?_) #[true, true, true, true, true, true, true, true, true, true, true, true, true, true, true, true, true, true, true, true, true, true, true, true, true, true, true, true, true, true, true, true, true, true, true, true, true, true, false, false, false, false, false, false, false, false, false, false, false, false, false, false, false, false, false, false] rfl rfl (by kernel_rfl) (fun _ _ _ h => h) (Or.inl ⟨by rfl, ?_⟩) ?_ ?_
          rotate_left
          · intro w'
            go_simp
            with_reducible rfl
          rotate_left
          · simp only [Act.put, List.setIfInBounds_toArray, List.set_cons_zero, List.set_cons_succ, i64_w, i32_w]
            rfl
          refine pure_ (i := 39) (N := some 67) (v := ?_) (a' := ?_) #[true, true, true, true, true, true, true, true, true, true, true, true, true, true, true, true, true, true, true, true, true, true, true, true, true, true, true, true, true, true, true, true, true, true, true, true, true, true, false, true, false, false, false, false, false, false, false, false, false, false, false, false, false, false, false, false] rfl rfl (by kernel_rfl) (fun _ _ _ h => h) (Or.inl ⟨by rfl, ?_⟩) ?_ ?_
          rotate_left
          · intro w'
            go_simp
            with_reducible rfl
          rotate_left
          · simp only [Act.put, List.setIfInBounds_toArray, List.set_cons_zero, List.set_cons_succ, i64_w, i32_w]
            rfl
          refine pure_ (i := 40) (N := some 68) (v := ?_) (a' := ?_) #[true, true, true, true, true, true, true, true, true, true, true, true, true, true, true, true, true, true, true, true, true, true, true, true, true, true, true, true, true, true, true, true, true, true, true, true, true, true, false, true, true, false, false, false, false, false, false, false, false, false, false, false, false, false, false, false] rfl rfl (by kernel_rfl) (fun _ _ _ h => h) (Or.inl ⟨by rfl, ?_⟩) ?_ ?_
          rotate_left
          · intro w'
            go_simp
            with_reducible rfl
          rotate_left
          · simp only [Act.put, List.setIfInBounds_toArray, List.set_cons_zero, List.set_cons_succ, i64_w, i32_w]
            rfl
          refine pure_ (i := 41) (N := some 69) (v := ?_) (a' := ?_) #[true, true, true, true, true, true, true, true, true, true, true, true, true, true, true, true, true, true, true, true, true, true, true, true, true, true, true, true, true, true, true, true, true, true, true, true, true, true, false, true, true, true, false, false, false, false, false, false, false, false, false, false, false, false, false, false] rfl rfl (by kernel_rfl) (fun _ _ _ h => h) (Or.inl ⟨by rfl, ?_⟩) ?_ ?_
          rotate_left
          · intro w'
            go_simp
            with_reducible rfl
          rotate_left
          · simp only [Act.put, List.setIfInBounds_toArray, List.set_cons_zero, List.set_cons_succ, i64_w, i32_w]
            rfl
          refine pure_ (i := 42) (N := some 70) (v := ?_) (a' := ?_) #[true, true, true, true, true, true, true, true, true, true, true, true, true, true, true, true, true, true, true, true, true, true, true, true, true, true, true, true, true, true, true, true, true, true, true, true, true, true, false, true, true, true, true, false, false, false, false, false, false, false, false, false, false, false, false, false] rfl rfl (by kernel_rfl) (fun _ _ _ h => h) (Or.inl ⟨by rfl, ?_⟩) ?_ ?_
          rotate_left
          · intro w'
            go_simp
            with_reducible rfl
          rotate_left
          · simp only [Act.put, List.setIfInBounds_toArray, List.set_cons_zero, List.set_cons_succ, i64_w, i32_w]
            rfl
          refine take_ (i := 38) (N := some 66) (v := ?_) (a' := ?_) #[true, true, true, true, true, true, true, true, true, true, true, true, true, true, true, true, true, true, true, true, true, true, true, true, true, true, true, true, true, true, true, true, true, true, true, true, true, true, true, true, true, true, true, false, false, false, false, false, false, false, false, false, false, false, false, false] rfl rfl (by kernel_rfl) (fun _ _ _ h => h) (Or.inl ⟨by rfl, ?_⟩) hHeld ?_ ?_
          rotate_left
          · rintro w' ⟨s0, s1, s2, s3, s4, s5, s6, s7, s8, s9⟩
            go_simp
            with_reducible rfl
          rotate_left
          · simp only [Act.put, List.setIfInBounds_toArray, List.set_cons_zero, List.set_cons_succ, i64_w, i32_w]
            rfl
          refine take_ (i := 43) (N := some 71) (v := ?_) (a' := ?_) #[true, true, true, true, true, true, true, true, true, true, true, true, true, true, true, true, true, true, true, true, true, true, true, true, true, true, true, true, true, true, true, true, true, true, true, true, true, true, true, true, true, true, true, true, false, false, false, false, false, false, false, false, false, false, false, false] rfl rfl (by kernel_rfl) (fun _ _ _ h => h) (Or.inl ⟨by rfl, ?_⟩) hHeld ?_ ?_
          rotate_left
          · rintro w' ⟨s0, s1, s2, s3, s4, s5, s6, s7, s8, s9⟩
            go_simp
            with_reducible rfl
          rotate_left
          · simp only [Act.put, List.setIfInBounds_toArray, List.set_cons_zero, List.set_cons_succ, i64_w, i32_w]
            rfl
          refine pure_ (i := 44) (N := some 72) (v := ?_) (a' := ?_) #[true, true, true, true, true, true, true, true, true, true, true, true, true, true, true, true, true, true, true, true, true, true, true, true, true, true, true, true, true, true, true, true, true, true, true, true, true, true, true, true, true, true, true, true, true, false, false, false, false, false, false, false, false, false, false, false] rfl rfl (by kernel_rfl) (fun _ _ _ h => h) (Or.inl ⟨by rfl, ?_⟩) ?_ ?_
          rotate_left
          · intro w'
            go_simp
            with_reducible rfl
          rotate_left
          · simp only [Act.put, List.setIfInBounds_toArray, List.set_cons_zero, List.set_cons_succ, i64_w, i32_w]
            rfl
          refine pure_ (i := 45) (N := some 73) (v := ?_) (a' := ?_) #[true, true, true, true, true, true, true, true, true, true, true, true, true, true, true, true, true, true, true, true, true, true, true, true, true, true, true, true, true, true, true, true, true, true, true, true, true, true, true, true, true, true, true, true, true, true, false, false, false, false, false, false, false, false, false, false] rfl rfl (by kernel_rfl) (fun _ _ _ h => h) (Or.inl ⟨by rfl, ?_⟩) ?_ ?_
          rotate_left
          · intro w'
            go_simp
            with_reducible rfl
          rotate_left
          · simp only [Act.put, List.setIfInBounds_toArray, List.set_cons_zero, List.set_cons_succ, i64_w, i32_w]
            rfl
          refine pure_ (i := 46) (N := some 74) (v := ?_) (a' := ?_) #[true, true, true, true, true, true, true, true, true, true, true, true, true, true, true, true, true, true, true, true, true, true, true, true, true, true, true, true, true, true, true, true, true, true, true, true, true, true, true, true, true, true, true, true, true, true, true, false, false, false, false, false, false, false, false, false] rfl rfl (by kernel_rfl) (fun _ _ _ h => h) (Or.inl ⟨by rfl, ?_⟩) ?_ ?_
          rotate_left
          · intro w'
            go_simp
            with_reducible rfl
          rotate_left
          · simp only [Act.put, List.setIfInBounds_toArray, List.set_cons_zero, List.set_cons_succ, i64_w, i32_w]
            rfl
          refine pure_ (i := 47) (N := some 75) (v := ?_) (a' := ?_) #[true, true, true, true, true, true, true, true, true, true, true, true, true, true, true, true, true, true, true, true, true, true, true, true, true, true, true, true, true, true, true, true, true, true, true, true, true, true, true, true, true, true, true, true, true, true, true, true, false, false, false, false, false, false, false, false] rfl rfl (by kernel_rfl) (fun _ _ _ h => h) (Or.inl ⟨by rfl, ?_⟩) ?_ ?_
          rotate_left
          · intro w'
            go_simp
            with_reducible rfl
          rotate_left
          · simp only [Act.put, List.setIfInBounds_toArray, List.set_cons_zero, List.set_cons_succ, i64_w, i32_w]
            rfl
          refine pure_ (i := 49) (N := some 77) (v := ?_) (a' := ?_) #[true, true, true, true, true, true, true, true, true, true, true, true, true, true, true, true, true, true, true, true, true, true, true, true, true, true, true, true, true, true, true, true, true, true, true, true, true, true, true, true, true, true, true, true, true, true, true, true, false, true, false, false, false, false, false, false] rfl rfl (by kernel_rfl) (fun _ _ _ h => h) (Or.inl ⟨by rfl, ?_⟩) ?_ ?_
          rotate_left
          · intro w'
            go_simp
            with_reducible rfl
          rotate_left
          · simp only [Act.put, List.setIfInBounds_toArray, List.set_cons_zero, List.set_cons_succ, i64_w, i32_w]
            rfl
          refine pure_ (i := 50) (N := some 78) (v := ?_) (a' := ?_) #[true, true, true, true, true, true, true, true, true, true, true, true, true, true, true, true, true, true, true, true, true, true, true, true, true, true, true, true, true, true, true, true, true, true, true, true, true, true, true, true, true, true, true, true, true, true, true, true, false, true, true, false, false, false, false, false] rfl rfl (by kernel_rfl) (fun _ _ _ h => h) (Or.inl ⟨by rfl, ?_⟩) ?_ ?_
          rotate_left
          · intro w'
            go_simp
            with_reducible rfl
          rotate_left
          · simp only [Act.put, List.setIfInBounds_toArray, List.set_cons_zero, List.set_cons_succ, i64_w, i32_w]
            rfl
          refine pure_ (i := 51) (N := some 79) (v := ?_) (a' := ?_) #[true, true, true, true, true, true, true, true, true, true, true, true, true, true, true, true, true, true, true, true, true, true, true, true, true, true, true, true, true, true, true, true, true, true, true, true, true, true, true, true, true, true, true, true, true, true, true, true, false, true, true, true, false, false, false, false] rfl rfl (by kernel_rfl) (fun _ _ _ h => h) (Or.inl ⟨by rfl, ?_⟩) ?_ ?_
          rotate_left
          · intro w'
            go_simp
            with_reducible rfl
          rotate_left
          · simp only [Act.put, List.setIfInBounds_toArray, List.set_cons_zero, List.set_cons_succ, i64_w, i32_w]
            rfl
          refine pure_ (i := 52) (N := some 80) (v := ?_) (a' := ?_) #[true, true, true, true, true, true, true, true, true, true, true, true, true, true, true, true, true, true, true, true, true, true, true, true, true, true, true, true, true, true, true, true, true, true, true, true, true, true, true, true, true, true, true, true, true, true, true, true, false, true, true, true, true, false, false, false] rfl rfl (by kernel_rfl) (fun _ _ _ h => h) (Or.inl ⟨by rfl, ?_⟩) ?_ ?_
          rotate_left
          · intro w'
            go_simp
            with_reducible rfl
          rotate_left
          · simp only [Act.put, List.setIfInBounds_toArray, List.set_cons_zero, List.set_cons_succ, i64_w, i32_w]
            rfl
          refine take_ (i := 48) (N := some 76) (v := ?_) (a' := ?_) #[true, true, true, true, true, true, true, true, true, true, true, true, true, true, true, true, true, true, true, true, true, true, true, true, true, true, true, true, true, true, true, true, true, true, true, true, true, true, true, true, true, true, true, true, true, true, true, true, true, true, true, true, true, false, false, false] rfl rfl (by kernel_rfl) (fun _ _ _ h => h) (Or.inl ⟨by rfl, ?_⟩) hHeld ?_ ?_
          rotate_left
          · rintro w' ⟨s0, s1, s2, s3, s4, s5, s6, s7, s8, s9⟩
            go_simp
            with_reducible rfl
          rotate_left
          · simp only [Act.put, List.setIfInBounds_toArray, List.set_cons_zero, List.set_cons_succ, i64_w, i32_w]
            rfl
          refine take_ (i := 53) (N := some 81) (v := ?_) (a' := ?_) #[true, true, true, true, true, true, true, true, true, true, true, true, true, true, true, true, true, true, true, true, true, true, true, true, true, true, true, true, true, true, true, true, true, true, true, true, true, true, true, true, true, true, true, true, true, true, true, true, true, true, true, true, true, true, false, false] rfl rfl (by kernel_rfl) (fun _ _ _ h => h) (Or.inl ⟨by rfl, ?_⟩) hHeld ?_ ?_
          rotate_left
          · rintro w' ⟨s0, s1, s2, s3, s4, s5, s6, s7, s8, s9⟩
            go_simp
            with_reducible rfl
          rotate_left
          · simp only [Act.put, List.setIfInBounds_toArray, List.set_cons_zero, List.set_cons_succ, i64_w, i32_w]
            rfl
          refine pure_ (i := 54) (N := some 82) (v := ?_) (a' := ?_) #[true, true, true, true, true, true, true, true, true, true, true, true, true, true, true, true, true, true, true, true, true, true, true, true, true, true, true, true, true, true, true, true, true, true, true, true, true, true, true, true, true, true, true, true, true, true, true, true, true, true, true, true, true, true, true, false] rfl rfl (by kernel_rfl) (fun _ _ _ h => h) (Or.inl ⟨by rfl, ?_⟩) ?_ ?_
          rotate_left
          · intro w'
            go_simp
            with_reducible rfl
          rotate_left
          · simp only [Act.put, List.setIfInBounds_toArray, List.set_cons_zero, List.set_cons_succ, i64_w, i32_w]
            rfl
          refine pure_ (i := 55) (N := some 83) (v := ?_) (a' := ?_) #[true, true, true, true, true, true, true, true, true, true, true, true, true, true, true, true, true, true, true, true, true, true, true, true, true, true, true, true, true, true, true, true, true, true, true, true, true, true, true, true, true, true, true, true, true, true, true, true, true, true, true, true, true, true, true, true] rfl rfl (by kernel_rfl) (fun _ _ _ h => h) (Or.inl ⟨by rfl, ?_⟩) ?_ ?_
          rotate_left
          · intro w'
            go_simp
            with_reducible rfl
          rotate_left
          · simp only [Act.put, List.setIfInBounds_toArray, List.set_cons_zero, List.set_cons_succ, i64_w, i32_w]
            rfl
          refine done_ (by kernel_rfl) ?_
          go_wp2
          go_meet
          case rel => exact ⟨by first | rfl | (simp; done), ⟨below_drew HBC.out⟩⟩
        case rest =>
          obtain ⟨rfl, HBC2⟩ := hcut
          clear hg0 hg1 hg2 hg3 hg4 hl0 hl1 hl2 hl3 hl4 hsd hsd2 HBC BK
          go_wp2_with fail
          go_roundg g0
          case measure => omega
          case rel => exact ⟨i + 1, by first | go_num | (congr 1; unfold wrap64; omega), ⟨by have := HG.out; omega⟩, HBC2⟩
    · have hil : (n : Int) ≤ i := by omega
      have hM := Kd.C_below HM6.out HB.out
      have HM7 := Aside0.mk hM
      have HC7 := Aside0.mk (Kd.C_below HC6.out HB.out)
      have HB7 := Aside0.mk (below_kept HB6.out HB.out)
      have key : (n = 0 ∧ listR 0 m = true) ∨ (0 < n ∧ ∃ (ad : Addr) (p : Nat) (y : Int) (b : Bool), A6 = some ad ∧ (n : Int) - 1 = (p : Int) ∧ (p : Int) < n ∧ wr.cell? (ad.add (p * 5)) = some (.int .i64 y) ∧ decide (y < 4611686018427387904) = b ∧ listR 0 m = b) := by
        by_cases h0 : n = 0
        · exact .inl ⟨h0, HNIL.out h0⟩
        · obtain ⟨hi, hlast⟩ := HLAST.out (by rw [HML.out]; omega)
          obtain ⟨ad, e, h3, _⟩ := at_ev hM (m.length - 1) hi
          have hml := HML.out
          refine .inr ⟨by omega, ad, n - 1, m[m.length - 1].f0, _, e, by omega, by omega, ?_, rfl, hlast⟩
          rw [← hml]
          exact h3
      have KEY := Aside0.mk key
      clear key hM HGET HLAST HNIL hgi
      rcases KEY.out with ⟨h0, hlm⟩ | ⟨h0, ad, p, y, b, ead, hpi, hpl, hcy, hyb, hlm⟩
      · have e0 : decide (0 < (n : Int)) = false := decide_eq_false (by omega)
        have e0' : decide (0 < n) = false := decide_eq_false (by omega)
        have HLB := Aside0.mk hlm
        clear h0 hlm KEY
        go_wp2_with fail
        have hs2 := HS2.out A6 c6 wr HM7.out
        rw [HML.out] at hs2
        refine hs2.mono ?_
        rintro e w8 ⟨v8, rfl, ho, hb⟩
        obtain ⟨A8, c8, rfl⟩ := Kd.R_slice ho
        have HC8 := Aside0.mk (Kd.R_reads' ho).2.2
        have HB8 := Aside0.mk (below_kept HB7.out hb)
        have HC9 := Aside0.mk (Kd.C_below HC7.out hb)
        have HM9 := Aside0.mk (Kd.C_below HM7.out hb)
        have hsa := HSA.out A8 A5 c8 c5 w8 HC8.out HC9.out
        rw [HLT.out] at hsa
        rw [HLT.out]
        clear hs2 ho hb
        go_wp2_with fail
        refine hsa.mono ?_
        rintro e w9 ⟨rfl, hb⟩
        have HB9 := Aside0.mk (below_kept HB8.out hb)
        have hlb := HLM.out A6 c6 w9 (Kd.C_below HM9.out hb)
        rw [HML.out, HLB.out] at hlb
        clear hsa hb
        go_wp2_with fail
        refine hlb.mono ?_
        rintro e w10 ⟨rfl, hb⟩
        have HB10 := Aside0.mk (below_kept HB9.out hb)
        clear hlb hb
        go_wp2
        go_ret
        exact ⟨by first | rfl | (simp; done), HB10.out⟩
      · have e0 : decide (0 < (n : Int)) = true := decide_eq_true (by omega)
        have e0' : decide (0 < n) = true := decide_eq_true (by omega)
        have hwp : wrap64 (p : Int) = (p : Int) := by unfold wrap64; omega
        have HLB := Aside0.mk hlm
        subst ead
        clear h0 hlm KEY
        cases b
        all_goals
          go_wp2_with fail
          have hs2 := HS2.out (some ad) c6 wr HM7.out
          rw [HML.out] at hs2
          refine hs2.mono ?_
          rintro e w8 ⟨v8, rfl, ho, hb⟩
          obtain ⟨A8, c8, rfl⟩ := Kd.R_slice ho
          have HC8 := Aside0.mk (Kd.R_reads' ho).2.2
          have HB8 := Aside0.mk (below_kept HB7.out hb)
          have HC9 := Aside0.mk (Kd.C_below HC7.out hb)
          have HM9 := Aside0.mk (Kd.C_below HM7.out hb)
          have hsa := HSA.out A8 A5 c8 c5 w8 HC8.out HC9.out
          rw [HLT.out] at hsa
          rw [HLT.out]
          clear hs2 ho hb hcy hpi hpl hwp
          go_wp2_with fail
          refine hsa.mono ?_
          rintro e w9 ⟨rfl, hb⟩
          have HB9 := Aside0.mk (below_kept HB8.out hb)
          have hlb := HLM.out (some ad) c6 w9 (Kd.C_below HM9.out hb)
          rw [HML.out, HLB.out] at hlb
          clear hsa hb
          go_wp2_with fail
          refine hlb.mono ?_
          rintro e w10 ⟨rfl, hb⟩
          have HB10 := Aside0.mk (below_kept HB9.out hb)
          clear hlb hb
          go_wp2
          go_ret
          exact ⟨by first | rfl | (simp; done) | (simp [hyb]; done), HB10.out⟩
/-- As the row hands it over. -/
theorem shifts_row {W : World} (a : Option Addr) (cap : Nat) (l : List S25) (hr : Kd.C k25 W a l.length l) (hc : l.length ≤ cap) (hw : ∀ x ∈ l, EvOpen.evwf x) (t : Int) (_ : (Lit.int .i64 t).wf = true) :
    Calls Try.prog 4 #[.slice a l.length cap, .int .i64 t] W fun e w' => e = .returned (.bool true) ∧ Below W.heap.size W w' := by
  by_cases h : 100 < l.length
  · exact shifts_big a cap l t W h
  · exact shifts_small a cap l t W hr (by omega)
end Go.Proofs.Ytbofeaclgnekkaa.EvShifts
