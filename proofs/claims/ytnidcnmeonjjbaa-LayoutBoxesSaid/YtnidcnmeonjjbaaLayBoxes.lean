/- Boxes as a contract; the law's anchor 'fit' is true. -/
import Derived.Test.YtnidcnmeonjjbaaLayPlace
namespace Go.Proofs.Ytnidcnmeonjjbaa.LayBoxes
open Go.RowKit Go.Proofs.Ytnidcnmeonjjbaa.Kit Go.Proofs.Ytnidcnmeonjjbaa.Plain Go.Proofs.Ytnidcnmeonjjbaa.Mine Go.Proofs.Ytnidcnmeonjjbaa.LayPure Go.Proofs.Ytnidcnmeonjjbaa.LayNode Go.Proofs.Ytnidcnmeonjjbaa.LayMake Go.Proofs.Ytnidcnmeonjjbaa.LayDeed Go.Proofs.Ytnidcnmeonjjbaa.LayFloat Go.Proofs.Ytnidcnmeonjjbaa.LaySmall Go.Proofs.Ytnidcnmeonjjbaa.LayPlace Go.Proofs.YtnidcnmeonjjbaaW.PrintWords Go.Proofs.YtnidcnmeonjjbaaW.PrintLast Go.Proofs.YtnidcnmeonjjbaaW.PrintMore
set_option linter.unusedVariables false
set_option linter.unusedSimpArgs false
/-- A side brought to what may be. -/
def side (u : Int) : Nat := (min (max u 0) 60).toNat
theorem side_le (u : Int) : side u ≤ 60 := by unfold side; omega
def whole (u v : Int) : BX := ⟨0, 0, side u, side v⟩
theorem fits_whole (u v : Int) : fits (whole u v) := by
  have h1 := side_le u
  have h2 := side_le v
  exact ⟨by show 0 + side u ≤ 60; omega, by show 0 + side v ≤ 60; omega⟩
section
set_option maxHeartbeats 1600000
set_option maxRecDepth 100000
theorem boxes_c (h : Nat) (t : BT) (u v : Int) (w : World) (hl : LB w h t.root) (ht : Lies w t) (hw : ∀ p ∈ t.plain.leaves, (Lit.int .i64 p).wf = true) (hg : LayPure.Good t.plain) :
    Calls Try.prog 18 #[.pointer (some ⟨h, 0, none⟩), .int .i64 u, .int .i64 v] w fun e w' => ∃ M A c, e = .returned (.tuple #[.map (some M), .slice A (linesT t.plain (whole u v)).length c]) ∧ MP w' M (boxesT t.plain (whole u v)) ∧ Kd.R kB 50 w' w.heap.size (fun k => k ≠ M) (.slice A (linesT t.plain (whole u v)).length c) (linesT t.plain (whole u v)) ∧ w.heap.size ≤ M ∧ Below w.heap.size w w' := by
  have hu := Try.underlying65
  have hmm := @run_makeMap Try.prog
  have HL := Aside0.mk hl
  have hlen := hg.2
  have HPL := Aside0.mk (fun W h2 => place_c w w.heap.size (w.heap.size + 1) t ht (whole u v) W [] [] h2 (fits_whole u v) hw (by simpa using hg.1) (by simp only [List.length_nil]; omega))
  obtain ⟨b, hb⟩ : ∃ b, b = whole u v := ⟨_, rfl⟩
  have hbx : b.x = 0 ∧ b.y = 0 := by rw [hb]; exact ⟨rfl, rfl⟩
  obtain ⟨n1, hn1⟩ : ∃ n1, n1 = b.w := ⟨_, rfl⟩
  obtain ⟨n2, hn2⟩ : ∃ n2, n2 = b.h := ⟨_, rfl⟩
  rw [← hb] at HPL ⊢
  have HN : (n1 : Int) = min (max u 0) 60 ∧ (n2 : Int) = min (max v 0) 60 := by
    rw [hn1, hn2, hb]
    show ((side u : Nat) : Int) = _ ∧ ((side v : Nat) : Int) = _
    unfold side
    omega
  rw [← hn1, ← hn2, hbx.1, hbx.2] at HPL
  unfold cx at HPL
  rw [fl_zero] at HPL
  have r1 := fun W => run_fl W n1
  have r2 := fun W => run_fl W n2
  obtain ⟨a1, ha1⟩ : ∃ a1 : Int, a1 = if u < 0 then 0 else u := ⟨_, rfl⟩
  obtain ⟨a2, ha2⟩ : ∃ a2 : Int, a2 = if v < 0 then 0 else v := ⟨_, rfl⟩
  have q1 : (if 60 < a1 then 60 else a1) = (n1 : Int) := by rw [HN.1, ha1]; split <;> split <;> omega
  have q2 : (if 60 < a2 then 60 else a2) = (n2 : Int) := by rw [HN.2, ha2]; split <;> split <;> omega
  have p1 := ha1.symm
  have p2 := ha2.symm
  obtain ⟨r, hr⟩ : ∃ r, r = t.root := ⟨_, rfl⟩
  rw [← hr] at HL HPL
  clear ha1 ha2 HN hn1 hn2 hbx hb hlen hl ht hw hg hr
  have c0 : ((w.alloc (.map #[] 0)).alloc (.cells #[.slice none 0 0] 44 (0, 0))).cell? ⟨h, 0, none⟩ = some (.pointer (some ⟨r, 0, none⟩)) := (blk_cell (blk_alloc (blk_alloc HL.out _) _) 0).trans rfl
  go_enter Try.func18, Try.ntmps18
  go_wp2_with fail
  refine (HPL.out _ ?_).mono ?_
  · refine ⟨⟨.slice none 0 0, ?_, Kd.R_nil _ _ _ _ _⟩, ?_, below_alloc (below_alloc (Below.refl _ _) _) _, Nat.le_refl _, Nat.le_succ _⟩
    · have := blk_new (w.alloc (.map #[] 0)) (.cells #[.slice none 0 0] 44 (0, 0))
      rw [show (w.alloc (.map #[] 0)).heap.size = w.heap.size + 1 from by simp] at this
      exact this
    · exact (MP.made w).below (below_alloc (Below.refl _ _) _)
  · rintro e w3 ⟨rfl, hp⟩
    rw [List.nil_append, List.nil_append] at hp
    obtain ⟨va, hva, hra⟩ := hp.row
    obtain ⟨A, c, rfl⟩ := Kd.R_slice hra
    have v0 := (blk_cell (blk_drew hva) 0).trans (rfl : _ = some (Value.slice A (linesT t.plain b).length c))
    have HP := Aside0.mk hp
    have HR := Aside0.mk hra
    obtain ⟨n, hn⟩ : ∃ n, n = (linesT t.plain b).length := ⟨_, rfl⟩
    have HN := Aside0.mk hn
    rw [← hn] at v0 HR
    clear hp hva hra hn c0
    go_upto_region 5 with fail
    refine start_ (n := 4) (S := fun w' => w'.cell? ⟨(w.heap.size + 1), 0, none⟩ = some (.slice A n c)) (ds := []) #[false, false, false, false] (by kernel_rfl) rfl rfl (v0) (fun hHeld => ?_)
    refine pure_ (i := 0) (N := some 28) (v := ?_) (a' := ?_) #[true, false, false, false] rfl rfl (by kernel_rfl) (fun _ _ _ h => h) (Or.inl ⟨by rfl, ?_⟩) ?_ ?_
    rotate_left
    · intro w'
      go_simp
      with_reducible rfl
    rotate_left
    · simp only [Act.put, List.setIfInBounds_toArray, List.set_cons_zero, List.set_cons_succ, i64_w, i32_w]
      rfl
    refine pure_ (i := 2) (N := some 6) (v := ?_) (a' := ?_) #[true, false, true, false] rfl rfl (by kernel_rfl) (fun _ _ _ h => h) (Or.inl ⟨by rfl, ?_⟩) ?_ ?_
    rotate_left
    · intro w'
      go_simp
      with_reducible rfl
    rotate_left
    · simp only [Act.put, List.setIfInBounds_toArray, List.set_cons_zero, List.set_cons_succ, i64_w, i32_w]
      rfl
    refine take_ (i := 1) (N := some 29) (v := ?_) (a' := ?_) #[true, true, true, false] rfl rfl (by kernel_rfl) (fun _ _ _ h => h) (Or.inl ⟨by rfl, ?_⟩) hHeld ?_ ?_
    rotate_left
    · intro w' s0
      go_simp
      with_reducible rfl
    rotate_left
    · simp only [Act.put, List.setIfInBounds_toArray, List.set_cons_zero, List.set_cons_succ, i64_w, i32_w]
      rfl
    refine pure_ (i := 3) (N := some 7) (v := ?_) (a' := ?_) #[true, true, true, true] rfl rfl (by kernel_rfl) (fun _ _ _ h => h) (Or.inl ⟨by rfl, ?_⟩) ?_ ?_
    rotate_left
    · intro w'
      go_simp
      with_reducible rfl
    rotate_left
    · simp only [Act.put, List.setIfInBounds_toArray, List.set_cons_zero, List.set_cons_succ, i64_w, i32_w]
      rfl
    refine done_ (by kernel_rfl) ?_
    go_wp2
    go_returns
    rw [← HN.out]
    exact ⟨w.heap.size, A, c, rfl, (HP.out.on (below_drew (Below.refl _ _))).mp, Kd.R_mono (Kd.R_drew HR.out) (fun k hk => hk.2), Nat.le_refl _, below_drew HP.out.below⟩
theorem new_l (p : Int) (w : World) : Calls Try.prog 9 #[.int .i64 p] w fun e w' => ∃ h t, e = .returned (.pointer (some ⟨h, 0, none⟩)) ∧ LAY w.heap.size w' h t ∧ t.plain = .leaf p ∧ Below w.heap.size w w' := by
  refine (new_c p w).mono ?_
  rintro e w1 ⟨rfl, h1, h2, hb⟩
  exact ⟨_, .leaf w.heap.size p, rfl, ⟨h1, h2, by simp [BT.blocks], good_leaf p, by omega, fun k hk => by rw [List.mem_singleton.1 hk]; exact Nat.le_refl _⟩, rfl, hb⟩
theorem field0 (x y u v : Int) (W : World) : (Instr.field 50 (.agg #[.int .i64 x, .int .i64 y, .int .i64 u, .int .i64 v]) 0).run Try.prog W = .ok (.int .i64 x) W := by kernel_rfl
theorem field2 (x y u v : Int) (W : World) : (Instr.field 50 (.agg #[.int .i64 x, .int .i64 y, .int .i64 u, .int .i64 v]) 2).run Try.prog W = .ok (.int .i64 u) W := by kernel_rfl
theorem fit_c (w : World) : Calls Try.prog 8 #[] w fun e w' => e = .returned (.bool true) ∧ Below w.heap.size w w' := by
  have hub := Try.underlying50
  have HN := Aside0.mk (new_l 0 w)
  go_enter Try.func8, Try.ntmps8
  go_wp2_with fail
  refine HN.out.mono ?_
  rintro e w1 ⟨h, t0, rfl, hL, ht, hb⟩
  have HL := Aside0.mk hL
  have HB1 := Aside0.mk hb
  have HT := Aside0.mk ht
  clear hL ht hb HN
  have HS := Aside0.mk (split_c w.heap.size h t0 0 1 false w1 HL.out)
  go_wp2_with fail
  refine HS.out.mono ?_
  rintro e w2 ⟨t, rfl, hp, hd⟩
  have hp2 : t.plain = .part false (.leaf 0) (.leaf 1) := hp.trans (by rw [HT.out]; rfl)
  have HB2 := Aside0.mk (HB1.out.trans hd.below)
  have HL2 := Aside0.mk hd.lay
  have HP := Aside0.mk hp2
  have HC := Aside0.mk (boxes_c h t 9 2 w2 hd.lay.lb hd.lay.lies (by rw [hp2]; intro p hp; simp [T.leaves] at hp; rcases hp with rfl | rfl <;> decide) hd.lay.good)
  have e0 : (deedT t0.plain 0 1 false false).2 = 0 := by rw [HT.out]; rfl
  rw [e0]
  clear hp hp2 hd HS e0
  go_wp2_with fail
  refine HC.out.mono ?_
  rintro e w3 ⟨M, A, c, rfl, hm, hr, hM, hb⟩
  have hl : linesT t.plain (whole 9 2) = [⟨4, 0, 1, 2⟩] := by rw [HP.out]; decide
  have hbx : boxesT t.plain (whole 9 2) = [(0, ⟨0, 0, 4, 2⟩), (1, ⟨5, 0, 4, 2⟩)] := by rw [HP.out]; decide
  rw [hl] at hr
  rw [hl, show ([⟨4, 0, 1, 2⟩] : List BX).length = 1 from rfl]
  rw [hbx] at hm
  have HB3 := Aside0.mk (below_then HB2.out HB2.out.size hb)
  have l1 := fun ty => hm.len ty
  have l2 : (Instr.lookup 43 (.map (some M)) (.int .i64 1) false).run Try.prog w3 = .ok (.agg #[.int .i64 5, .int .i64 0, .int .i64 4, .int .i64 2]) w3 := hm.look 1 ⟨5, 0, 4, 2⟩ (by simp) (by decide)
  obtain ⟨ad, rfl, k0, k1, k2, k3⟩ := at_B (Kd.R_reads' hr).2.2 0 (by decide)
  clear hl hbx hm hr hM hb HC
  have k0 : w3.cell? ad = some (.int .i64 4) := k0
  clear k1 k2 k3
  have F0 := field0 5 0 4 2
  have F2 := field2 5 0 4 2
  go_wp2_with fail
  go_returns
  exact ⟨rfl, HB3.out⟩
end
end Go.Proofs.Ytnidcnmeonjjbaa.LayBoxes
