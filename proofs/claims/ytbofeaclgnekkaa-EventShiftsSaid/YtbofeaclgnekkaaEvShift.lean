/- event.Shift, and whether two lists are the same, as contracts; no condition but that the lists can be read. -/
import Derived.Test.YtbofeaclgnekkaaTameC
namespace Go.Proofs.Ytbofeaclgnekkaa.EvShift
open Go.RowKit Go.Proofs.Ytbofeaclgnekkaa.Kit Go.Proofs.Ytbofeaclgnekkaa.Plain Go.Proofs.Ytbofeaclgnekkaa.Mine Go.Proofs.Ytbofeaclgnekkaa.Vary Go.Proofs.Ytbofeaclgnekkaa.Reader Go.Proofs.Ytbofeaclgnekkaa.Event Go.Proofs.Ytbofeaclgnekkaa.EventRef Go.Proofs.Ytbofeaclgnekkaa.EventList Go.Proofs.Ytbofeaclgnekkaa.EventListR Go.Proofs.Ytbofeaclgnekkaa.Tame Go.Proofs.YtbofeaclgnekkaaW.PrintWords Go.Proofs.YtbofeaclgnekkaaW.PrintLast Go.Proofs.YtbofeaclgnekkaaW.PrintMore
open Go.Proofs.Ytbofeaclgnekkaa.PEventRights (S25 z25 k25 k25_open k25_mk k25_mkM rd_T25 at_T25 info25)
set_option linter.unusedVariables false
set_option linter.unusedSimpArgs false
def shift (d : Int) (l : List S25) : List S25 := l.map fun x => ⟨wrap64 (x.f0 + d), x.f1, x.f2, x.f3, x.f4⟩
theorem shift_len (d : Int) (l : List S25) : (shift d l).length = l.length := by simp [shift]
set_option maxHeartbeats 3200000 in
set_option maxRecDepth 100000 in
theorem shift_c (A : Option Addr) (c : Nat) (l : List S25) (d : Int) (w : World) (hr : Kd.C k25 w A l.length l) (hl : l.length ≤ 1000) :
    Calls Try.prog 14 #[.slice A l.length c, .int .i64 d] w fun e w' => ∃ v : Value, e = .returned v ∧ Kd.R k25 25 w' w.heap.size (fun _ => True) v (shift d l) ∧ Below w.heap.size w w' := by
  have HR := Aside0.mk hr
  have hlb : (l.length : Int) ≤ 1000 := by omega
  have hu := Try.underlying25
  clear hr hl
  go_enter Try.func14, Try.ntmps14
  go_wp2
  go_loopg [5, 10] (l.length) (fun g v5 v10 W => ∃ (i : Nat) (xs : List S25), v10 = .int .i64 (i : Int) ∧ Aside0 (g + i = l.length) ∧ Aside0 (xs = shift d (l.take i)) ∧ Aside0 (xs.length = i) ∧ Aside0 (Kd.R k25 25 W w.heap.size (fun _ => True) v5 xs) ∧ Aside0 (Below w.heap.size w W))
  case atStart => exact ⟨0, [], rfl, ⟨by omega⟩, ⟨rfl⟩, ⟨rfl⟩, ⟨Kd.R_nil _ _ _ _ _⟩, ⟨Below.refl _ _⟩⟩
  case round =>
    obtain ⟨i, xs, rfl, HG, HX, HXL, HO, HB⟩ := hrel
    have hgi := HG.out
    have hxl := HXL.out
    by_cases hi : i < l.length
    · obtain ⟨g0, rfl⟩ : ∃ g0, gk = g0 + 1 := ⟨gk - 1, by omega⟩
      obtain ⟨ad, ead, hc0, hc1, hc2, hc3, hc4⟩ := at_ev (Kd.C_below HR.out HB.out) i hi
      have htk : l.take (i + 1) = l.take i ++ [l[i]] := List.take_succ_eq_append_getElem hi
      obtain ⟨x, hx⟩ : ∃ x, x = l[i] := ⟨_, rfl⟩
      rw [← hx] at hc0 hc1 hc2 hc3 hc4 htk
      have hil : (i : Int) < l.length := by omega
      have HI := Aside0.mk hi
      obtain ⟨xt, xk, xd, xw, xh⟩ := x
      dsimp only at hc0 hc1 hc2 hc3 hc4
      have hnx : xs ++ [(⟨wrap64 (xt + d), xk, xd, xw, xh⟩ : S25)] = shift d (l.take (i + 1)) := by rw [htk, HX.out]; unfold shift; rw [List.map_append]; rfl
      obtain ⟨s, hs⟩ : ∃ s, wrap64 (xt + d) = s := ⟨_, rfl⟩
      rw [hs] at hnx
      have HNX := Aside0.mk hnx
      have HS := Aside0.mk hs
      subst ead
      clear hx hgi hi htk hnx hs
      go_upto_region 4 with fail
      go_cut [7] (fun v7 W => ∃ g : Nat, v7 = .pointer (some ⟨g, 0, none⟩) ∧ Aside0 (w.heap.size ≤ g) ∧ Aside0 (W.heap[g]? = some (.cells #[.int .i64 xt, .int .i64 xk, .string xd, .int .i64 xw, .int .i64 xh] 25 (0, 0))) ∧ Aside0 (Kd.R k25 25 W w.heap.size (fun k => k ≠ g) u5 xs) ∧ Aside0 (Below w.heap.size w W))
      case first =>
        go_wp2_with fail
        go_meet
        case rel => exact ⟨wr.heap.size, rfl, ⟨HB.out.size⟩, ⟨blk_new wr _⟩, ⟨Kd.R_mono (ok' := fun k => k ≠ wr.heap.size) (Kd.R_alloc (Kd.R_bound HO.out) _) (fun k hk => (by have h7 := hk.2.2.1; omega))⟩, ⟨below_alloc HB.out _⟩⟩
      case rest =>
        obtain ⟨g, rfl, GE, BK, HO3, HB3⟩ := hcut
        clear hc0 hc1 hc2 hc3 hc4 HO HB HR
        have d0 : wc.cell? ⟨g, 0, none⟩ = some (.int .i64 xt) := (blk_cell BK.out 0).trans rfl
        have d1 : wc.cell? ⟨g, 1, none⟩ = some (.int .i64 xk) := (blk_cell BK.out 1).trans rfl
        have d2 : wc.cell? ⟨g, 2, none⟩ = some (.string xd) := (blk_cell BK.out 2).trans rfl
        have d3 : wc.cell? ⟨g, 3, none⟩ = some (.int .i64 xw) := (blk_cell BK.out 3).trans rfl
        have d4 : wc.cell? ⟨g, 4, none⟩ = some (.int .i64 xh) := (blk_cell BK.out 4).trans rfl
        have e0 := blk_frozen BK.out 0
        have hs := HS.out
        go_wp2_with (first
          | ((with_reducible refine gate_builtin (b := .append) (xs := #[.tmp 19, .tmp 21]) rfl ?_); at_builtin; go_must ((refine Kd.R_append k25 (w0 := w) w.heap.size rfl (.tmp 19) (.tmp 21) 22 25 (.agg #[(.int .i64 0), (.int .i64 0), (.string ⟨#[]⟩), (.int .i64 0), (.int .i64 0)]) 48 rfl Try.underlying22 info25 rfl (by decide) (by omega) u5 xs (⟨s, xk, xd, xw, xh⟩ : S25) [.int .i64 s, .int .i64 xk, .string xd, .int .i64 xw, .int .i64 xh] (fun _ => True) (fun _ => False) rfl (by first | rfl | (go_simp; done) | (go_simp; rfl)) ?aP (fun _ hk => hk.elim) ?aF (Kd.R_mono (ok' := fun _ => True) (Kd.R_keep HO3.out (by repeat (first | exact KeepBut.refl _ _ _ | refine KeepBut.set_ ?_ _ _)) (fun k hk => hk)) (fun _ _ => trivial)) (by repeat (first | exact HB3.out | refine below_set ?_ GE.out)) (by first | exact HB3.out.size | (simp; exact HB3.out.size)) ?aL ?_; (case aP => exact k25_mkM _ _ _ (⟨s, xk, xd, xw, xh⟩ : S25)); (case aF => exact fun _ _ => trivial); (case aL => have := HXL.out; have := HI.out; omega); intro v1 w8 ho hb hg hat; have HO8 := Aside0.mk ho; have HB8 := Aside0.mk hb; clear ho hb hg hat)))
          | fail)
        go_roundg g0
        case measure => omega
        case rel => exact ⟨i + 1, xs ++ [(⟨s, xk, xd, xw, xh⟩ : S25)], by first | go_num | (congr 1; unfold wrap64; omega), ⟨by have := HG.out; omega⟩, HNX, ⟨by rw [List.length_append, HXL.out]; rfl⟩, HO8, HB8⟩
    · have hil : (l.length : Int) ≤ i := by omega
      have hx := HX.out
      rw [List.take_of_length_le (by omega)] at hx
      have HXX := Aside0.mk hx
      clear hx hgi hxl
      go_wp2
      go_ret
      exact ⟨_, rfl, by rw [← HXX.out]; exact HO.out, HB.out⟩
set_option maxHeartbeats 1600000 in
set_option maxRecDepth 100000 in
theorem same_c (A B : Option Addr) (c c2 : Nat) (l : List S25) (w : World) (hr : Kd.C k25 w A l.length l) (hr2 : Kd.C k25 w B l.length l) (hl : l.length < 1000000000) :
    Calls Try.prog 15 #[.slice A l.length c, .slice B l.length c2] w fun e w' => e = .returned (.bool true) ∧ Below w.heap.size w w' := by
  have HR := Aside0.mk hr
  have HR2 := Aside0.mk hr2
  have hl2 : (l.length : Int) < 1000000000 := by omega
  have hu := Try.underlying25
  clear hr hl hr2
  go_enter Try.func15, Try.ntmps15
  go_wp2
  go_loopg [5] l.length (fun g v5 W => ∃ (i : Nat), v5 = .int .i64 (i : Int) ∧ Aside0 (g + i = l.length) ∧ Aside0 (Below w.heap.size w W))
  case atStart => exact ⟨0, rfl, ⟨by omega⟩, ⟨Below.refl _ _⟩⟩
  case round =>
    obtain ⟨i, rfl, HG, HB⟩ := hrel
    have hgi := HG.out
    by_cases hi : i < l.length
    · obtain ⟨g0, rfl⟩ : ∃ g0, gk = g0 + 1 := ⟨gk - 1, by omega⟩
      obtain ⟨ad, ead, hc0, hc1, hc2, hc3, hc4⟩ := at_ev (Kd.C_drew (Kd.C_below HR.out HB.out)) i hi
      obtain ⟨ad2, ead2, gc0, gc1, gc2, gc3, gc4⟩ := at_ev (Kd.C_drew (Kd.C_below HR2.out HB.out)) i hi
      obtain ⟨x, hx⟩ : ∃ x, x = l[i] := ⟨_, rfl⟩
      rw [← hx] at hc0 hc1 hc2 hc3 hc4 gc0 gc1 gc2 gc3 gc4
      obtain ⟨xt, xk, xd, xw, xh⟩ := x
      dsimp only at hc0 hc1 hc2 hc3 hc4 gc0 gc1 gc2 gc3 gc4
      have hil : (i : Int) < l.length := by omega
      subst ead
      subst ead2
      clear hx hgi hi
      go_upto_region 6 with fail
      go_cut [25] (fun v25 W => v25 = .bool false ∧ Aside0 (Below w.heap.size w W))
      case first =>
        refine start_ (n := 9) (S := fun w' => w'.cell? (ad.add (i * 5)) = some (.int .i64 xt) ∧ w'.cell? ⟨(ad.add (i * 5)).block, (ad.add (i * 5)).off + 1, none⟩ = some (.int .i64 xk) ∧ w'.cell? ⟨(ad.add (i * 5)).block, (ad.add (i * 5)).off + 2, none⟩ = some (.string xd) ∧ w'.cell? ⟨(ad.add (i * 5)).block, (ad.add (i * 5)).off + 3, none⟩ = some (.int .i64 xw) ∧ w'.cell? ⟨(ad.add (i * 5)).block, (ad.add (i * 5)).off + 4, none⟩ = some (.int .i64 xh) ∧ w'.cell? (ad2.add (i * 5)) = some (.int .i64 xt) ∧ w'.cell? ⟨(ad2.add (i * 5)).block, (ad2.add (i * 5)).off + 1, none⟩ = some (.int .i64 xk) ∧ w'.cell? ⟨(ad2.add (i * 5)).block, (ad2.add (i * 5)).off + 2, none⟩ = some (.string xd) ∧ w'.cell? ⟨(ad2.add (i * 5)).block, (ad2.add (i * 5)).off + 3, none⟩ = some (.int .i64 xw) ∧ w'.cell? ⟨(ad2.add (i * 5)).block, (ad2.add (i * 5)).off + 4, none⟩ = some (.int .i64 xh)) (ds := []) #[false, false, false, false, false, false, false, false, false] (by kernel_rfl) rfl rfl ⟨hc0, hc1, hc2, hc3, hc4, gc0, gc1, gc2, gc3, gc4⟩ (fun hHeld => ?_)
        refine pure_ (i := 0) (N := some 17) (v := ?_) (a' := ?_) #[true, false, false, false, false, false, false, false, false] rfl rfl (by kernel_rfl) (fun _ _ _ h => h) (Or.inl ⟨by rfl, ?_⟩) ?_ ?_
        rotate_left
        · intro w'
          go_simp
          with_reducible rfl
        rotate_left
        · simp only [Act.put, List.setIfInBounds_toArray, List.set_cons_zero, List.set_cons_succ, i64_w, i32_w]
          rfl
        refine pure_ (i := 1) (N := some 18) (v := ?_) (a' := ?_) #[true, true, false, false, false, false, false, false, false] rfl rfl (by kernel_rfl) (fun _ _ _ h => h) (Or.inl ⟨by rfl, ?_⟩) ?_ ?_
        rotate_left
        · intro w'
          go_simp
          with_reducible rfl
        rotate_left
        · simp only [Act.put, List.setIfInBounds_toArray, List.set_cons_zero, List.set_cons_succ, i64_w, i32_w]
          rfl
        refine pure_ (i := 2) (N := some 19) (v := ?_) (a' := ?_) #[true, true, true, false, false, false, false, false, false] rfl rfl (by kernel_rfl) (fun _ _ _ h => h) (Or.inl ⟨by rfl, ?_⟩) ?_ ?_
        rotate_left
        · intro w'
          go_simp
          with_reducible rfl
        rotate_left
        · simp only [Act.put, List.setIfInBounds_toArray, List.set_cons_zero, List.set_cons_succ, i64_w, i32_w]
          rfl
        refine pure_ (i := 4) (N := some 21) (v := ?_) (a' := ?_) #[true, true, true, false, true, false, false, false, false] rfl rfl (by kernel_rfl) (fun _ _ _ h => h) (Or.inl ⟨by rfl, ?_⟩) ?_ ?_
        rotate_left
        · intro w'
          go_simp
          with_reducible rfl
        rotate_left
        · simp only [Act.put, List.setIfInBounds_toArray, List.set_cons_zero, List.set_cons_succ, i64_w, i32_w]
          rfl
        refine pure_ (i := 5) (N := some 22) (v := ?_) (a' := ?_) #[true, true, true, false, true, true, false, false, false] rfl rfl (by kernel_rfl) (fun _ _ _ h => h) (Or.inl ⟨by rfl, ?_⟩) ?_ ?_
        rotate_left
        · intro w'
          go_simp
          with_reducible rfl
        rotate_left
        · simp only [Act.put, List.setIfInBounds_toArray, List.set_cons_zero, List.set_cons_succ, i64_w, i32_w]
          rfl
        refine pure_ (i := 6) (N := some 23) (v := ?_) (a' := ?_) #[true, true, true, false, true, true, true, false, false] rfl rfl (by kernel_rfl) (fun _ _ _ h => h) (Or.inl ⟨by rfl, ?_⟩) ?_ ?_
        rotate_left
        · intro w'
          go_simp
          with_reducible rfl
        rotate_left
        · simp only [Act.put, List.setIfInBounds_toArray, List.set_cons_zero, List.set_cons_succ, i64_w, i32_w]
          rfl
        refine take_ (i := 3) (N := some 20) (v := ?_) (a' := ?_) #[true, true, true, true, true, true, true, false, false] rfl rfl (by kernel_rfl) (fun _ _ _ h => h) (Or.inl ⟨by rfl, ?_⟩) hHeld ?_ ?_
        rotate_left
        · rintro w' ⟨s0, s1, s2, s3, s4, s5, s6, s7, s8, s9⟩
          go_simp
          with_reducible rfl
        rotate_left
        · simp only [Act.put, List.setIfInBounds_toArray, List.set_cons_zero, List.set_cons_succ, i64_w, i32_w]
          rfl
        refine take_ (i := 7) (N := some 24) (v := ?_) (a' := ?_) #[true, true, true, true, true, true, true, true, false] rfl rfl (by kernel_rfl) (fun _ _ _ h => h) (Or.inl ⟨by rfl, ?_⟩) hHeld ?_ ?_
        rotate_left
        · rintro w' ⟨s0, s1, s2, s3, s4, s5, s6, s7, s8, s9⟩
          go_simp
          with_reducible rfl
        rotate_left
        · simp only [Act.put, List.setIfInBounds_toArray, List.set_cons_zero, List.set_cons_succ, i64_w, i32_w]
          rfl
        refine pure_ (i := 8) (N := some 25) (v := ?_) (a' := ?_) #[true, true, true, true, true, true, true, true, true] rfl rfl (by kernel_rfl) (fun _ _ _ h => h) (Or.inl ⟨by rfl, ?_⟩) ?_ ?_
        rotate_left
        · intro w'
          go_simp
          with_reducible rfl
        rotate_left
        · simp only [Act.put, List.setIfInBounds_toArray, List.set_cons_zero, List.set_cons_succ, i64_w, i32_w]
          rfl
        refine done_ (by kernel_rfl) ?_
        go_wp2
        go_meet
        case rel => exact ⟨by first | rfl | (simp; done), ⟨below_drew HB.out⟩⟩
      case rest =>
        obtain ⟨rfl, HBC⟩ := hcut
        clear hc0 hc1 hc2 hc3 hc4 gc0 gc1 gc2 gc3 gc4
        go_wp2_with fail
        go_roundg g0
        case measure => omega
        case rel => exact ⟨i + 1, by first | go_num | (congr 1; unfold wrap64; omega), ⟨by have := HG.out; omega⟩, HBC⟩
    · have hil : (l.length : Int) ≤ i := by omega
      clear hgi
      go_wp2
      go_ret
      exact ⟨rfl, HB.out⟩
end Go.Proofs.Ytbofeaclgnekkaa.EvShift
