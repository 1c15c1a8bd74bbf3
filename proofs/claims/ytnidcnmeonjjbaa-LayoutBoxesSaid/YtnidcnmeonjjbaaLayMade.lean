/- What the law's made and ints tell, as contracts; two boxes compared. -/
import Derived.Test.YtnidcnmeonjjbaaLayBoxes
import Derived.Test.YtnidcnmeonjjbaaLayDeedK
import Derived.Test.YtnidcnmeonjjbaaLayTilePure
import Derived.Deep.CutBlock
import Derived.Laws.StructEq
import Derived.ChangeKeysEq
import Derived.Test.YtnidcnmeonjjbaaWEqStruct
namespace Go.Proofs.Ytnidcnmeonjjbaa.LayMade
open Go.RowKit Go.Proofs.Ytnidcnmeonjjbaa.Kit Go.Proofs.Ytnidcnmeonjjbaa.Plain Go.Proofs.Ytnidcnmeonjjbaa.Mine Go.Proofs.Ytnidcnmeonjjbaa.LayPure Go.Proofs.Ytnidcnmeonjjbaa.LayNode Go.Proofs.Ytnidcnmeonjjbaa.LayPanes Go.Proofs.Ytnidcnmeonjjbaa.LayMake Go.Proofs.Ytnidcnmeonjjbaa.LayDeed Go.Proofs.Ytnidcnmeonjjbaa.LayDeedK Go.Proofs.Ytnidcnmeonjjbaa.LaySmall Go.Proofs.Ytnidcnmeonjjbaa.LayPlace Go.Proofs.Ytnidcnmeonjjbaa.LayBoxes Go.Proofs.YtnidcnmeonjjbaaW.PrintWords Go.Proofs.YtnidcnmeonjjbaaW.PrintLast Go.Proofs.YtnidcnmeonjjbaaW.PrintMore
set_option linter.unusedVariables false
set_option linter.unusedSimpArgs false
theorem LAY.lower {base base' h : Nat} {W : World} {t : BT} (L : LAY base W h t) (hb : base' ≤ base) : LAY base' W h t :=
  ⟨L.lb, L.lies, L.nd, L.good, Nat.le_trans hb L.bh, fun k hk => Nat.le_trans hb (L.bt k hk)⟩
/-- The panes' numbers behind deeds. -/
theorem good_after {t : T} (hg : LayPure.Good t) (l : List SD) : LayPure.Good (afterT t l) := by
  induction l generalizing t with
  | nil => exact hg
  | cons d l ih => exact ih (good_deed hg _ _ _ _)
theorem wf_after {t : T} (hg : LayPure.Good t) (l : List SD) (hw : ∀ p ∈ t.leaves, (Lit.int .i64 p).wf = true) (hl : ∀ d ∈ l, deedwf d) : ∀ p ∈ (afterT t l).leaves, (Lit.int .i64 p).wf = true := by
  induction l generalizing t with
  | nil => exact hw
  | cons d l ih =>
    refine ih (good_deed hg _ _ _ _) (fun p hp => ?_) (fun x hx => hl x (List.mem_cons_of_mem _ hx))
    rcases leaves_deed hg _ _ _ _ p hp with h | h
    · exact hw p h
    · rw [h]; exact (hl d List.mem_cons_self).2
theorem wf_zero : ∀ p ∈ (T.leaf 0).leaves, (Lit.int .i64 p).wf = true := by
  intro p hp
  have : p = 0 := by simpa [T.leaves] using hp
  rw [this]; decide
/-- What a deed doesn't touch: rows of other kinds, and maps. -/
theorem Did.apart {base h : Nat} {w w' : World} {t t' : BT} (D : Did base w w' h t t') (L : LAY base w h t) {k e : Nat} {cs : Array Value} (hk : w.heap[k]? = some (.cells cs e (0, 0))) (h1 : e ≠ 63) (h2 : e ≠ 65) : w'.heap[k]? = w.heap[k]? := by
  refine D.kept.2 k (blk_lt hk) (fun hm => ?_)
  rcases hm with rfl | hm
  · rw [L.lb] at hk
    injection hk with h3
    injection h3 with _ h4
    exact h2 h4.symm
  · exact other L.lies hk h1 hm
theorem Did.row {α : Type} {d : Kd α} {e b0 base h : Nat} {ok : Nat → Prop} {v : Value} {xs : List α} {w w' : World} {t t' : BT} (D : Did base w w' h t t') (L : LAY base w h t) (R : Kd.R d e w b0 ok v xs) (he : ∀ q ∈ e :: d.E, q ≠ 63 ∧ q ≠ 65) : Kd.R d e w' b0 ok v xs :=
  Kd.R_mono (Kd.R_step (Kd.R_bound R) (fun k hk _ => by
    obtain ⟨_, _, _, q, hq, cs, hcs⟩ := hk
    exact Did.apart D L hcs (he q hq).1 (he q hq).2)) (fun _ hk => hk.1)
theorem Did.map {base h M : Nat} {w w' : World} {t t' : BT} {l : List (Int × BX)} (D : Did base w w' h t t') (L : LAY base w h t) (m : MP w M l) : MP w' M l := by
  refine m.move (D.kept.2 M m.lt (fun hm => ?_))
  obtain ⟨_, _, ⟨es, clock, hb, _⟩, _⟩ := m
  rcases hm with rfl | hm
  · rw [L.lb] at hb; cases hb
  · obtain ⟨cs, hcs⟩ := typed L.lies M hm
    rw [hb] at hcs; cases hcs
theorem eq_box (x y u v a b c d : Int) (w : World) : (Op.equalIn 10000 50 (.agg #[.int .i64 x, .int .i64 y, .int .i64 u, .int .i64 v]) (.agg #[.int .i64 a, .int .i64 b, .int .i64 c, .int .i64 d])).run Try.prog w = .ok ((x == a) && ((y == b) && ((u == c) && (v == d)))) w := by
  have hp : Try.prog.plainKey 3 = true := by kernel_rfl
  have he := fun (p q : Int) => run_equalIn_int (P := Try.prog) w 9998 3 .i64 .i64 p q Try.underlying3
  exact eqA_of (P := Try.prog) (d := 9999) (w := w) Try.underlying50 (by kernel_rfl)
    (eqf_cons (by rfl) (run_part_plain w hp rfl) (run_part_plain w hp rfl) (he x a) (eqf_cons (by rfl) (run_part_plain w hp rfl) (run_part_plain w hp rfl) (he y b) (eqf_cons (by rfl) (run_part_plain w hp rfl) (run_part_plain w hp rfl) (he u c) (eqf_last (by rfl) (run_part_plain w hp rfl) (run_part_plain w hp rfl) (he v d)))))
theorem guard_box (b c : BX) (x y : Operand) (w : World) : (eqGuard .neq 50 x y b.val c.val).run Try.prog w = .ok () w :=
  run_eqGuard_agg (P := Try.prog) w .neq 50 x y _ _ (by kernel_rfl)
/-- Two equal boxes compared. -/
theorem neq_same (b : BX) (w : World) : (binOp .neq 50 b.val b.val).run Try.prog w = .ok (.bool false) w := by
  unfold BX.val
  rw [run_neq_struct, eq_box]
  simp
section
set_option maxHeartbeats 3200000
set_option maxRecDepth 100000
theorem made_c (A : Option Addr) (c : Nat) (ds : List SD) (w : World) (hr : Kd.C kD w A ds.length ds) (hn : ds.length ≤ 100) :
    Calls Try.prog 17 #[.slice A ds.length c] w fun e w' => ∃ h t, e = .returned (.pointer (some ⟨h, 0, none⟩)) ∧ LAY w.heap.size w' h t ∧ t.plain = afterT (.leaf 0) ds ∧ Below w.heap.size w w' := by
  have hd : (ds.length : Int) ≤ 100 := by omega
  have HR := Aside0.mk hr
  have hud := Try.underlying29
  clear hr hn
  go_enter Try.func17, Try.ntmps17
  go_wp2_with fail
  refine (new_l 0 w).mono ?_
  rintro e w2 ⟨h, t0, rfl, hL, ht, hb⟩
  have HL0 := Aside0.mk (show ∃ t, LAY w.heap.size w2 h t ∧ t.plain = afterT (.leaf 0) (ds.take 0) from ⟨t0, hL, ht⟩)
  have HB2 := Aside0.mk hb
  clear hL ht hb
  go_wp2_with fail
  go_loopg [9] ds.length (fun g v9 W => ∃ (i : Nat), v9 = .int .i64 (i : Int) ∧ Aside0 (g + i = ds.length) ∧ Aside0 (Below w.heap.size w W) ∧ Aside0 (∃ t, LAY w.heap.size W h t ∧ t.plain = afterT (.leaf 0) (ds.take i)))
  case atStart => exact ⟨0, rfl, ⟨by omega⟩, HB2, HL0⟩
  case round =>
    obtain ⟨i, rfl, HG, HB, HL⟩ := hrel
    clear HL0 HB2
    have hgi := HG.out
    by_cases hi : i < ds.length
    · obtain ⟨g0, rfl⟩ : ∃ g0, gk = g0 + 1 := ⟨gk - 1, by omega⟩
      have hil : (i : Int) < ds.length := by omega
      obtain ⟨ad, ead, c0, c1, c2, c3⟩ := at_D (Kd.C_below HR.out HB.out) i hi
      have HAT := Aside0.mk (afterT_take (.leaf 0) ds i hi)
      obtain ⟨dp, hdp⟩ : ∃ z, z = ds[i].p := ⟨_, rfl⟩
      obtain ⟨dq, hdq⟩ : ∃ z, z = ds[i].q := ⟨_, rfl⟩
      obtain ⟨df, hdf⟩ : ∃ z, z = ds[i].f := ⟨_, rfl⟩
      obtain ⟨da, hda⟩ : ∃ z, z = ds[i].a := ⟨_, rfl⟩
      rw [← hdp] at c0 HAT
      rw [← hdq] at c1 HAT
      rw [← hdf] at c2 HAT
      rw [← hda] at c3 HAT
      subst ead
      clear hgi hi hdp hdq hdf hda
      obtain ⟨t, hL, ht⟩ := HL.out
      have HLt := Aside0.mk hL
      rw [← ht] at HAT
      clear hL HL ht
      go_upto_region 4 with fail
      go_cut [5] (fun v5 W => ∃ gx : Nat, v5 = .pointer (some ⟨gx, 0, none⟩) ∧ Aside0 (W.heap[gx]? = some (.cells #[.int .i64 dp, .int .i64 dq, .bool df, .bool da] 29 (0, 0))) ∧ Aside0 (Below wr.heap.size wr W))
      case first =>
        go_wp2
        go_meet
        case rel => exact ⟨_, rfl, ⟨blk_new _ _⟩, ⟨below_alloc (Below.refl _ _) _⟩⟩
      case rest =>
        obtain ⟨gx, rfl, HGX, HBX⟩ := hcut
        clear c0 c1 c2 c3
        have k0 := (blk_cell HGX.out 0).trans (rfl : _ = some (Value.int .i64 dp))
        have k1 := (blk_cell HGX.out 1).trans (rfl : _ = some (Value.int .i64 dq))
        have k2 := (blk_cell HGX.out 2).trans (rfl : _ = some (Value.bool df))
        have k3 := (blk_cell HGX.out 3).trans (rfl : _ = some (Value.bool da))
        have HLc := Aside0.mk (HLt.out.on HBX.out)
        have HBc := Aside0.mk (below_kept HB.out HBX.out)
        have HDO := Aside0.mk (do_c w.heap.size h t dp dq df da wc HLc.out)
        go_wp2_with fail
        refine HDO.out.mono ?_
        rintro e w4 ⟨t', rfl, hp, hd⟩
        have HL4 := Aside0.mk hd.lay
        have HB4 := Aside0.mk (HBc.out.trans hd.below)
        have HP4 := Aside0.mk (hp.trans HAT.out.symm)
        clear hp hd k0 k1 k2 k3 HDO HGX
        go_wp2_with fail
        go_roundg g0
        case measure => omega
        case rel => exact ⟨i + 1, by first | go_num | (congr 1; unfold wrap64; omega), ⟨by have := HG.out; omega⟩, HB4, ⟨t', HL4.out, HP4.out⟩⟩
    · have hil : (ds.length : Int) ≤ i := by omega
      have HI := Aside0.mk (show ds.take i = ds from List.take_of_length_le (by omega))
      clear hgi hi
      go_wp2_with fail
      go_returns
      obtain ⟨t, hL, ht⟩ := HL.out
      exact ⟨h, t, rfl, hL, by rw [ht, HI.out], HB.out⟩
theorem ints_c (A B : Option Addr) (c c2 : Nat) (l : List Int) (w : World) (hr : Kd.C (Kd.int .i64) w A l.length l) (hr2 : Kd.C (Kd.int .i64) w B l.length l) (hl : l.length < 1000000) :
    Calls Try.prog 14 #[.slice A l.length c, .slice B l.length c2] w fun e w' => e = .returned (.bool true) ∧ Below w.heap.size w w' := by
  have HR := Aside0.mk hr
  have HR2 := Aside0.mk hr2
  have hl2 : (l.length : Int) < 1000000 := by omega
  clear hr hl hr2
  go_enter Try.func14, Try.ntmps14
  go_wp2
  go_loopg [13] l.length (fun g v13 W => ∃ (i : Nat), v13 = .int .i64 (i : Int) ∧ Aside0 (g + i = l.length) ∧ Aside0 (Below w.heap.size w W))
  case atStart => exact ⟨0, rfl, ⟨by omega⟩, ⟨Below.refl _ _⟩⟩
  case round =>
    obtain ⟨i, rfl, HG, HB⟩ := hrel
    have hgi := HG.out
    by_cases hi : i < l.length
    · obtain ⟨g0, rfl⟩ : ∃ g0, gk = g0 + 1 := ⟨gk - 1, by omega⟩
      obtain ⟨ad, ead, hc0⟩ := Kd.at_int (Kd.C_drew (Kd.C_below HR.out HB.out)) (i : Int) (by omega) (by omega)
      obtain ⟨ad2, ead2, gc0⟩ := Kd.at_int (Kd.C_drew (Kd.C_below HR2.out HB.out)) (i : Int) (by omega) (by omega)
      obtain ⟨x, hx⟩ : ∃ x, x = rd l (i : Int) := ⟨_, rfl⟩
      rw [Int.toNat_natCast, ← hx] at hc0 gc0
      have hil : (i : Int) < l.length := by omega
      subst ead
      subst ead2
      clear hx hgi hi
      go_upto_region 6 with fail
      go_cut [24] (fun v24 W => v24 = .bool false ∧ Aside0 (Below w.heap.size w W))
      case first =>
        refine start_ (n := 9) (S := fun w' => w'.cell? (ad.add i) = some (.int .i64 x) ∧ w'.cell? (ad2.add i) = some (.int .i64 x)) (ds := []) #[false, false, false, false, false, false, false, false, false] (by kernel_rfl) rfl rfl ⟨hc0, gc0⟩ (fun hHeld => ?_)
        refine pure_ (i := 0) (N := some 16) (v := ?_) (a' := ?_) #[true, false, false, false, false, false, false, false, false] rfl rfl (by kernel_rfl) (fun _ _ _ h => h) (Or.inl ⟨by rfl, ?_⟩) ?_ ?_
        rotate_left
        · intro w'
          go_simp
          with_reducible rfl
        rotate_left
        · simp only [Act.put, List.setIfInBounds_toArray, List.set_cons_zero, List.set_cons_succ, i64_w, i32_w]
          rfl
        refine pure_ (i := 1) (N := some 17) (v := ?_) (a' := ?_) #[true, true, false, false, false, false, false, false, false] rfl rfl (by kernel_rfl) (fun _ _ _ h => h) (Or.inl ⟨by rfl, ?_⟩) ?_ ?_
        rotate_left
        · intro w'
          go_simp
          with_reducible rfl
        rotate_left
        · simp only [Act.put, List.setIfInBounds_toArray, List.set_cons_zero, List.set_cons_succ, i64_w, i32_w]
          rfl
        refine pure_ (i := 2) (N := some 18) (v := ?_) (a' := ?_) #[true, true, true, false, false, false, false, false, false] rfl rfl (by kernel_rfl) (fun _ _ _ h => h) (Or.inl ⟨by rfl, ?_⟩) ?_ ?_
        rotate_left
        · intro w'
          go_simp
          with_reducible rfl
        rotate_left
        · simp only [Act.put, List.setIfInBounds_toArray, List.set_cons_zero, List.set_cons_succ, i64_w, i32_w]
          rfl
        refine pure_ (i := 4) (N := some 20) (v := ?_) (a' := ?_) #[true, true, true, false, true, false, false, false, false] rfl rfl (by kernel_rfl) (fun _ _ _ h => h) (Or.inl ⟨by rfl, ?_⟩) ?_ ?_
        rotate_left
        · intro w'
          go_simp
          with_reducible rfl
        rotate_left
        · simp only [Act.put, List.setIfInBounds_toArray, List.set_cons_zero, List.set_cons_succ, i64_w, i32_w]
          rfl
        refine pure_ (i := 5) (N := some 21) (v := ?_) (a' := ?_) #[true, true, true, false, true, true, false, false, false] rfl rfl (by kernel_rfl) (fun _ _ _ h => h) (Or.inl ⟨by rfl, ?_⟩) ?_ ?_
        rotate_left
        · intro w'
          go_simp
          with_reducible rfl
        rotate_left
        · simp only [Act.put, List.setIfInBounds_toArray, List.set_cons_zero, List.set_cons_succ, i64_w, i32_w]
          rfl
        refine pure_ (i := 6) (N := some 22) (v := ?_) (a' := ?_) #[true, true, true, false, true, true, true, false, false] rfl rfl (by kernel_rfl) (fun _ _ _ h => h) (Or.inl ⟨by rfl, ?_⟩) ?_ ?_
        rotate_left
        · intro w'
          go_simp
          with_reducible rfl
        rotate_left
        · simp only [Act.put, List.setIfInBounds_toArray, List.set_cons_zero, List.set_cons_succ, i64_w, i32_w]
          rfl
        refine take_ (i := 3) (N := some 19) (v := ?_) (a' := ?_) #[true, true, true, true, true, true, true, false, false] rfl rfl (by kernel_rfl) (fun _ _ _ h => h) (Or.inl ⟨by rfl, ?_⟩) hHeld ?_ ?_
        rotate_left
        · rintro w' ⟨s0, s1⟩
          go_simp
          with_reducible rfl
        rotate_left
        · simp only [Act.put, List.setIfInBounds_toArray, List.set_cons_zero, List.set_cons_succ, i64_w, i32_w]
          rfl
        refine take_ (i := 7) (N := some 23) (v := ?_) (a' := ?_) #[true, true, true, true, true, true, true, true, false] rfl rfl (by kernel_rfl) (fun _ _ _ h => h) (Or.inl ⟨by rfl, ?_⟩) hHeld ?_ ?_
        rotate_left
        · rintro w' ⟨s0, s1⟩
          go_simp
          with_reducible rfl
        rotate_left
        · simp only [Act.put, List.setIfInBounds_toArray, List.set_cons_zero, List.set_cons_succ, i64_w, i32_w]
          rfl
        refine pure_ (i := 8) (N := some 24) (v := ?_) (a' := ?_) #[true, true, true, true, true, true, true, true, true] rfl rfl (by kernel_rfl) (fun _ _ _ h => h) (Or.inl ⟨by rfl, ?_⟩) ?_ ?_
        rotate_left
        · intro w'
          go_simp
          with_reducible rfl
        rotate_left
        · simp only [Act.put, List.setIfInBounds_toArray, List.set_cons_zero, List.set_cons_succ, i64_w, i32_w]
          rfl
        refine done_ (by kernel_rfl) ?_
        go_wp2
        go_meet
        case rel => exact ⟨by first | rfl | (simp; done), ⟨below_drew HB.out⟩⟩
      case rest =>
        obtain ⟨rfl, HBC⟩ := hcut
        clear hc0 gc0
        go_wp2_with fail
        go_roundg g0
        case measure => omega
        case rel => exact ⟨i + 1, by first | go_num | (congr 1; unfold wrap64; omega), ⟨by have := HG.out; omega⟩, HBC⟩
    · have hil : (l.length : Int) ≤ i := by omega
      clear hgi
      go_wp2
      go_ret
      exact ⟨rfl, HB.out⟩
end
end Go.Proofs.Ytnidcnmeonjjbaa.LayMade
