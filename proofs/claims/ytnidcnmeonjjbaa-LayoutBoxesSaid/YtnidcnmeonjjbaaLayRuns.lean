/- The law LayoutRuns is true: deed by deed the layout is the document's. -/
import Derived.Test.YtnidcnmeonjjbaaLayRefD
import Derived.Test.YtnidcnmeonjjbaaLayTilePure
namespace Go.Proofs.Ytnidcnmeonjjbaa.LayRuns
open Go.RowKit Go.Proofs.Ytnidcnmeonjjbaa.Kit Go.Proofs.Ytnidcnmeonjjbaa.Plain Go.Proofs.Ytnidcnmeonjjbaa.Mine Go.Proofs.Ytnidcnmeonjjbaa.LayPure Go.Proofs.Ytnidcnmeonjjbaa.LayNode Go.Proofs.Ytnidcnmeonjjbaa.LayPanes Go.Proofs.Ytnidcnmeonjjbaa.LayMake Go.Proofs.Ytnidcnmeonjjbaa.LayDeed Go.Proofs.Ytnidcnmeonjjbaa.LayDeedK Go.Proofs.Ytnidcnmeonjjbaa.LaySmall Go.Proofs.Ytnidcnmeonjjbaa.LayPlace Go.Proofs.Ytnidcnmeonjjbaa.LayBoxes Go.Proofs.Ytnidcnmeonjjbaa.LayMade Go.Proofs.Ytnidcnmeonjjbaa.LayRefPure Go.Proofs.Ytnidcnmeonjjbaa.LayRefA Go.Proofs.Ytnidcnmeonjjbaa.LayRefB Go.Proofs.Ytnidcnmeonjjbaa.LayRefC Go.Proofs.Ytnidcnmeonjjbaa.LayRefD Go.Proofs.YtnidcnmeonjjbaaW.PrintWords Go.Proofs.YtnidcnmeonjjbaaW.PrintLast Go.Proofs.YtnidcnmeonjjbaaW.PrintMore
set_option linter.unusedVariables false
set_option linter.unusedSimpArgs false
theorem LAY.turn {base b2 h : Nat} {w w' : World} {t : BT} (L : LAY base w h t) (T : Turn b2 w w') : LAY base w' h t := by
  have hb : w'.heap[h]? = w.heap[h]? := (T.rest h _ L.lb (fun cs e he => by injection he with _ h2; rw [← h2]; decide)).trans L.lb.symm
  refine ⟨hb.trans L.lb, L.lies.move (fun k hk => ?_), L.nd, L.good, L.bh, L.bt⟩
  obtain ⟨cs, hcs⟩ := typed L.lies k hk
  exact (T.rest k _ hcs (fun cs e he => by injection he with _ h2; rw [← h2]; decide)).trans hcs.symm
theorem REF.did {b1 b2 m g cap h : Nat} {w w' : World} {ps : List PN} {t t1 t2 : BT} (R : REF b1 w m g cap ps t) (D : Did b2 w w' h t1 t2) (L : LAY b2 w h t1) : REF b1 w' m g cap ps t :=
  ⟨(Did.apart D L R.blk (by decide) (by decide)).trans R.blk, Did.row D L R.row (fun q hq => by
    have : q = 67 := by simpa [kN, Kd.iso, Kd.pair, Kd.int, Kd.bool, Kd.scalar] using hq
    rw [this]; decide), R.ri, R.good, R.hm⟩
theorem Turn.row {α : Type} {d : Kd α} {e b0 b : Nat} {ok : Nat → Prop} {v : Value} {xs : List α} {w w' : World} (T : Turn b w w') (R : Kd.R d e w b0 ok v xs) (he : ∀ q ∈ e :: d.E, q ≠ 40 ∧ q ≠ 67) : Kd.R d e w' b0 ok v xs :=
  Kd.R_mono (Kd.R_step (Kd.R_bound R) (fun k hk _ => by
    obtain ⟨_, _, _, q, hq, cs, hcs⟩ := hk
    exact (T.rest k _ hcs (fun cs e2 he2 => by injection he2 with _ h2; rw [← h2]; exact he q hq)).trans hcs.symm)) (fun _ hk => hk.1)
theorem Turn.map {b M : Nat} {w w' : World} {l : List (Int × BX)} (T : Turn b w w') (m : MP w M l) : MP w' M l := by
  obtain ⟨D, n, ⟨es, clock, hb, _⟩, _⟩ := id m
  exact m.move ((T.rest M _ hb (fun cs e he => by cases he)).trans hb.symm)
section
set_option maxHeartbeats 6400000
set_option maxRecDepth 100000
theorem runs_big (A : Option Addr) (c n : Nat) (p : Int) (w : World) (h100 : 100 < n) (hm : n ≤ maxLen) :
    Calls Try.prog 3 #[.int .i64 p, .slice A n c] w fun e w' => e = .returned (.bool true) ∧ Below w.heap.size w w' := by
  have hd : (100 : Int) < n := by omega
  have h2 : (n : Int) ≤ 9223372036854775807 := by unfold maxLen at hm; omega
  clear h100 hm
  go_enter Try.func3, Try.ntmps3
  go_wp2_with fail
  refine (fit_c _).mono ?_
  rintro e w1 ⟨rfl, hb⟩
  have HB := Aside0.mk hb
  clear hb
  go_wp2_with fail
  go_returns
  exact ⟨rfl, HB.out⟩
theorem runs_c (A : Option Addr) (c : Nat) (ds : List SD) (p : Int) (w : World) (hr : Kd.C kD w A ds.length ds) (hn : ds.length ≤ 100) :
    Calls Try.prog 3 #[.int .i64 p, .slice A ds.length c] w fun e w' => e = .returned (.bool true) ∧ Below w.heap.size w w' := by
  have hd : (ds.length : Int) ≤ 100 := by omega
  have hud := Try.underlying29
  have hul := Try.underlying40
  have HR := Aside0.mk hr
  clear hr hn
  go_enter Try.func3, Try.ntmps3
  go_wp2_with fail
  refine (fit_c w).mono ?_
  rintro e w3 ⟨rfl, hb⟩
  have HB3 := Aside0.mk hb
  clear hb
  go_wp2_with fail
  refine (new_l p w3).mono ?_
  rintro e w4 ⟨h, t0, rfl, hL, ht, hb⟩
  have HL4 := Aside0.mk (LAY.lower hL HB3.out.size)
  have HT4 := Aside0.mk ht
  have HB4 := Aside0.mk (below_then HB3.out HB3.out.size hb)
  clear hb hL ht
  go_wp2_with fail
  refine (rnew_c p w4).mono ?_
  rintro e w5 ⟨m, g0, cap0, rfl, hF, hb⟩
  have HF5 := Aside0.mk (show REF w.heap.size w5 m g0 cap0 [leafN p] (.leaf 0 p) from ⟨hF.blk, Kd.R_lower hF.row HB4.out.size, hF.ri, hF.good, Nat.le_trans HB4.out.size hF.hm⟩)
  have HS5 := Aside0.mk (show ∃ t g cap ps t2, LAY w.heap.size w5 h t ∧ REF w.heap.size w5 m g cap ps t2 ∧ t2.plain = t.plain ∧ ps.length ≤ 1 + 2 * 0 from ⟨t0, g0, cap0, [leafN p], .leaf 0 p, HL4.out.on hb, HF5.out, HT4.out.symm, by simp⟩)
  have HB5 := Aside0.mk (below_then HB4.out HB4.out.size hb)
  clear hb hF HL4 HF5
  go_wp2_with fail
  go_loopg [21] ds.length (fun g v21 W => ∃ (i : Nat), v21 = .int .i64 (i : Int) ∧ Aside0 (g + i = ds.length) ∧ Aside0 (Below w.heap.size w W) ∧ Aside0 (∃ t g cap ps t2, LAY w.heap.size W h t ∧ REF w.heap.size W m g cap ps t2 ∧ t2.plain = t.plain ∧ ps.length ≤ 1 + 2 * i))
  case atStart => exact ⟨0, rfl, ⟨by omega⟩, HB5, HS5⟩
  case round =>
    clear HS5 HB5
    obtain ⟨i, rfl, HG, HB, HS⟩ := hrel
    have hgi := HG.out
    by_cases hi : i < ds.length
    · obtain ⟨gn, rfl⟩ : ∃ gn, gk = gn + 1 := ⟨gk - 1, by omega⟩
      have hil : (i : Int) < ds.length := by omega
      have HI := Aside0.mk (show i < 100 by omega)
      obtain ⟨ad, ead, c0, c1, c2, c3⟩ := at_D (Kd.C_below HR.out HB.out) i hi
      obtain ⟨dp, hdp⟩ : ∃ z, z = ds[i].p := ⟨_, rfl⟩
      obtain ⟨dq, hdq⟩ : ∃ z, z = ds[i].q := ⟨_, rfl⟩
      obtain ⟨df, hdf⟩ : ∃ z, z = ds[i].f := ⟨_, rfl⟩
      obtain ⟨da, hda⟩ : ∃ z, z = ds[i].a := ⟨_, rfl⟩
      rw [← hdp] at c0
      rw [← hdq] at c1
      rw [← hdf] at c2
      rw [← hda] at c3
      subst ead
      clear hgi hi hdp hdq hdf hda
      obtain ⟨t, g, cap, ps, t2, hL, hF, hpl, hlen⟩ := HS.out
      have HLt := Aside0.mk hL
      have HFt := Aside0.mk hF
      have HPL := Aside0.mk hpl
      have HLEN := Aside0.mk hlen
      clear hL hF hpl hlen HS
      go_upto_region 9 with fail
      go_cut [8] (fun v8 W => ∃ gx : Nat, v8 = .pointer (some ⟨gx, 0, none⟩) ∧ Aside0 (W.heap[gx]? = some (.cells #[.int .i64 dp, .int .i64 dq, .bool df, .bool da] 29 (0, 0))) ∧ Aside0 (Below wr.heap.size wr W))
      case first =>
        go_wp2
        go_meet
        case rel => exact ⟨_, rfl, ⟨blk_new _ _⟩, ⟨below_alloc (Below.refl _ _) _⟩⟩
      case rest =>
        obtain ⟨gx, rfl, HGX, HBX⟩ := hcut
        clear c0 c1 c2 c3
        have HLc := Aside0.mk (HLt.out.on HBX.out)
        have HFc := Aside0.mk (HFt.out.on HBX.out)
        have HBc := Aside0.mk (below_kept HB.out HBX.out)
        obtain ⟨z, hz⟩ : ∃ z, z = (deedT t2.plain dp dq df da).2 := ⟨_, rfl⟩
        have HZ := Aside0.mk hz
        have k0 := (blk_cell HGX.out 0).trans (rfl : _ = some (Value.int .i64 dp))
        have k1 := (blk_cell HGX.out 1).trans (rfl : _ = some (Value.int .i64 dq))
        have k2 := (blk_cell HGX.out 2).trans (rfl : _ = some (Value.bool df))
        have k3 := (blk_cell HGX.out 3).trans (rfl : _ = some (Value.bool da))
        clear hz
        obtain ⟨wb, rfl⟩ : ∃ wb : World, wb = wc := ⟨_, rfl⟩
        go_upto_if 26 with fail
        go_cut [9] (fun v9 W => v9 = .int .i64 z ∧ Aside0 (∃ g' cap' ps' t2', REF w.heap.size W m g' cap' ps' t2' ∧ t2'.plain = (deedT t2.plain dp dq df da).1 ∧ ps'.length ≤ ps.length + 2) ∧ Aside0 (Turn w.heap.size wb W))
        case first =>
          have hps : ps.length < 1000 := by have := HLEN.out; have := HI.out; omega
          cases da with
          | true =>
            have HQ := Aside0.mk (rremove_c w.heap.size m g cap ps t2 dp dq df wb HFc.out hps)
            rw [← HZ.out] at HQ
            clear hps
            go_wp2_with fail
            refine HQ.out.mono ?_
            rintro e w6 ⟨g', cap', ps', t2', rfl, r1, r2, r3, r4⟩
            have HQQ := Aside0.mk (show ∃ g' cap' ps' t2', REF w.heap.size w6 m g' cap' ps' t2' ∧ t2'.plain = (deedT t2.plain dp dq df true).1 ∧ ps'.length ≤ ps.length + 2 from ⟨g', cap', ps', t2', r1, r2, r3⟩)
            have HT6 := Aside0.mk r4
            clear r1 r2 r3 r4 HQ
            go_wp2_with fail
            go_meet
            case rel => exact ⟨rfl, HQQ, HT6⟩
          | false =>
            have HQ := Aside0.mk (rsplit_c w.heap.size m g cap ps t2 dp dq df wb HFc.out hps)
            rw [← HZ.out] at HQ
            clear hps
            go_wp2_with fail
            refine HQ.out.mono ?_
            rintro e w6 ⟨g', cap', ps', t2', rfl, r1, r2, r3, r4⟩
            have HQQ := Aside0.mk (show ∃ g' cap' ps' t2', REF w.heap.size w6 m g' cap' ps' t2' ∧ t2'.plain = (deedT t2.plain dp dq df false).1 ∧ ps'.length ≤ ps.length + 2 from ⟨g', cap', ps', t2', r1, r2, r3⟩)
            have HT6 := Aside0.mk r4
            clear r1 r2 r3 r4 HQ
            go_wp2_with fail
            go_meet
            case rel => exact ⟨rfl, HQQ, HT6⟩
        case rest =>
          clear k0 k1 k2 k3
          obtain ⟨rfl, HQQ, HT6⟩ := hcut
          obtain ⟨g', cap', ps', t2', hF6, hp6, hl6⟩ := HQQ.out
          have HLd := Aside0.mk ((LAY.turn HLc.out HT6.out).on (below_drew (Below.refl _ _)))
          have HFd := Aside0.mk (hF6.on (below_drew (Below.refl _ _)))
          have HP6 := Aside0.mk hp6
          have HL6 := Aside0.mk hl6
          have HB6 := Aside0.mk (below_drew (HBc.out.trans HT6.out.below))
          have HGd := Aside0.mk (show wc.drew.heap[gx]? = some (.cells #[.int .i64 dp, .int .i64 dq, .bool df, .bool da] 29 (0, 0)) from blk_drew (HT6.out.rest gx _ HGX.out (fun cs e he => by injection he with _ h2; rw [← h2]; decide)))
          have HDO := Aside0.mk (fun W L => do_c w.heap.size h t dp dq df da W L)
          rw [← HPL.out, ← HZ.out] at HDO
          have hps : ps'.length < 1000 := by have := HLEN.out; have := HI.out; omega
          have HPS := Aside0.mk hps
          have HRP := Aside0.mk (fun W (hf : RF W m (some ⟨g', 0, none⟩) cap' ps') => (show Calls Try.prog 16 #[.pointer (some ⟨m, 0, none⟩), .int .i64 0] W _ from by
            have hc := rpanes_c m (some ⟨g', 0, none⟩) cap' ps' t2' HFd.out.ri.rep (by have := HFd.out.good.2; omega) W hf
            rw [HFd.out.ri.root] at hc
            exact hc))
          have HPN := Aside0.mk (fun t' (ht' : t'.plain = (deedT t2.plain dp dq df da).1) W (L : LAY w.heap.size W h t') => panes_c h t' W L.lb L.lies (by have := L.few; omega))
          have d0 := (blk_cell HGd.out 0).trans (rfl : _ = some (Value.int .i64 dp))
          have d1 := (blk_cell HGd.out 1).trans (rfl : _ = some (Value.int .i64 dq))
          have d2 := (blk_cell HGd.out 2).trans (rfl : _ = some (Value.bool df))
          have d3 := (blk_cell HGd.out 3).trans (rfl : _ = some (Value.bool da))
          have m1 := (blk_cell HFd.out.blk 1).trans (rfl : _ = some (Value.int .i64 0))
          clear hF6 hp6 hl6 hps HQQ HGX
          go_upto_region 14 with fail
          refine start_ (n := 17) (S := fun w' => w'.cell? ⟨gx, 0, none⟩ = some (.int .i64 dp) ∧ w'.cell? ⟨gx, 1, none⟩ = some (.int .i64 dq) ∧ w'.cell? ⟨gx, 2, none⟩ = some (.bool df) ∧ w'.cell? ⟨gx, 3, none⟩ = some (.bool da) ∧ w'.cell? ⟨m, 1, none⟩ = some (.int .i64 0)) (ds := []) #[false, false, false, false, false, false, false, false, false, false, false, false, false, false, false, false, false] (by kernel_rfl) rfl rfl ⟨d0, d1, d2, d3, m1⟩ (fun hHeld => ?_)
          refine pure_ (i := 0) (N := some 39) (v := ?_) (a' := ?_) #[true, false, false, false, false, false, false, false, false, false, false, false, false, false, false, false, false] rfl rfl (by kernel_rfl) (fun _ _ _ h => h) (Or.inl ⟨by rfl, ?_⟩) ?_ ?_
          rotate_left
          · intro w'
            go_simp
            with_reducible rfl
          rotate_left
          · simp only [Act.put, List.setIfInBounds_toArray, List.set_cons_zero, List.set_cons_succ, i64_w, i32_w]
            rfl
          refine pure_ (i := 3) (N := some 42) (v := ?_) (a' := ?_) #[true, false, false, true, false, false, false, false, false, false, false, false, false, false, false, false, false] rfl rfl (by kernel_rfl) (fun _ _ _ h => h) (Or.inl ⟨by rfl, ?_⟩) ?_ ?_
          rotate_left
          · intro w'
            go_simp
            with_reducible rfl
          rotate_left
          · simp only [Act.put, List.setIfInBounds_toArray, List.set_cons_zero, List.set_cons_succ, i64_w, i32_w]
            rfl
          refine take_ (i := 1) (N := some 40) (v := ?_) (a' := ?_) #[true, true, false, true, false, false, false, false, false, false, false, false, false, false, false, false, false] rfl rfl (by kernel_rfl) (fun _ _ _ h => h) (Or.inl ⟨by rfl, ?_⟩) hHeld ?_ ?_
          rotate_left
          · rintro w' ⟨s0, s1, s2, s3, s4⟩
            go_simp
            with_reducible rfl
          rotate_left
          · simp only [Act.put, List.setIfInBounds_toArray, List.set_cons_zero, List.set_cons_succ, i64_w, i32_w]
            rfl
          refine one_ (i := 2) (N := some 41) #[true, true, true, true, false, false, false, false, false, false, false, false, false, false, false, false, false] rfl rfl (by kernel_rfl) (by decide) (fun K hK => ?_)
          refine goes_ Try.func13 (by kernel_rfl) rfl #[.pointer (some ⟨h, 0, none⟩), .agg #[.int .i64 dp, .int .i64 dq, .bool df, .bool da]] (by rfl) rfl rfl (by simp only [List.map_toArray, List.map_cons, List.map_nil]; rfl) ?_
          with_reducible refine (HDO.out _ HLd.out).mono ?_
          rintro e w7 ⟨t', rfl, hp7, hd7⟩
          refine ⟨_, rfl, ?_⟩
          have HL7 := Aside0.mk hd7.lay
          have HF7 := Aside0.mk (REF.did HFd.out hd7 HLd.out)
          have HP7 := Aside0.mk (show t'.plain = (deedT t2.plain dp dq df da).1 from hp7)
          have HB7 := Aside0.mk (HB6.out.trans hd7.below)
          have HG7 := Aside0.mk ((Did.apart hd7 HLd.out HGd.out (by decide) (by decide)).trans HGd.out)
          clear hp7 hd7
          have q0 := (blk_cell HG7.out 0).trans (rfl : _ = some (Value.int .i64 dp))
          have q1 := (blk_cell HG7.out 1).trans (rfl : _ = some (Value.int .i64 dq))
          have q2 := (blk_cell HG7.out 2).trans (rfl : _ = some (Value.bool df))
          have q3 := (blk_cell HG7.out 3).trans (rfl : _ = some (Value.bool da))
          have q4 := (blk_cell HF7.out.blk 1).trans (rfl : _ = some (Value.int .i64 0))
          refine hK.out _ _ ⟨q0, q1, q2, q3, q4⟩ (fun hHeld => ?_)
          clear hK K
          refine norm_ (a' := ?_) ?_ ?_
          rotate_left
          · show Act.put _ (some 41) _ = _
            simp only [Act.put, List.setIfInBounds_toArray, List.set_cons_zero, List.set_cons_succ, i64_w, i32_w]
            rfl
          refine pure_ (i := 4) (N := some 43) (v := ?_) (a' := ?_) #[true, true, true, true, true, false, false, false, false, false, false, false, false, false, false, false, false] rfl rfl (by kernel_rfl) (fun _ _ _ h => h) (Or.inl ⟨by rfl, ?_⟩) ?_ ?_
          rotate_left
          · intro w'
            go_simp
            with_reducible rfl
          rotate_left
          · simp only [Act.put, List.setIfInBounds_toArray, List.set_cons_zero, List.set_cons_succ, i64_w, i32_w]
            rfl
          refine pure_ (i := 5) (N := some 44) (v := ?_) (a' := ?_) #[true, true, true, true, true, true, false, false, false, false, false, false, false, false, false, false, false] rfl rfl (by kernel_rfl) (fun _ _ _ h => h) (Or.inl ⟨by rfl, ?_⟩) ?_ ?_
          rotate_left
          · intro w'
            go_simp
            with_reducible rfl
          rotate_left
          · simp only [Act.put, List.setIfInBounds_toArray, List.set_cons_zero, List.set_cons_succ, i64_w, i32_w]
            rfl
          refine pure_ (i := 6) (N := some 45) (v := ?_) (a' := ?_) #[true, true, true, true, true, true, true, false, false, false, false, false, false, false, false, false, false] rfl rfl (by kernel_rfl) (fun _ _ _ h => h) (Or.inl ⟨by rfl, ?_⟩) ?_ ?_
          rotate_left
          · intro w'
            go_simp
            with_reducible rfl
          rotate_left
          · simp only [Act.put, List.setIfInBounds_toArray, List.set_cons_zero, List.set_cons_succ, i64_w, i32_w]
            rfl
          refine pure_ (i := 8) (N := some 47) (v := ?_) (a' := ?_) #[true, true, true, true, true, true, true, false, true, false, false, false, false, false, false, false, false] rfl rfl (by kernel_rfl) (fun _ _ _ h => h) (Or.inl ⟨by rfl, ?_⟩) ?_ ?_
          rotate_left
          · intro w'
            go_simp
            with_reducible rfl
          rotate_left
          · simp only [Act.put, List.setIfInBounds_toArray, List.set_cons_zero, List.set_cons_succ, i64_w, i32_w]
            rfl
          refine pure_ (i := 9) (N := some 48) (v := ?_) (a' := ?_) #[true, true, true, true, true, true, true, false, true, true, false, false, false, false, false, false, false] rfl rfl (by kernel_rfl) (fun _ _ _ h => h) (Or.inl ⟨by rfl, ?_⟩) ?_ ?_
          rotate_left
          · intro w'
            go_simp
            with_reducible rfl
          rotate_left
          · simp only [Act.put, List.setIfInBounds_toArray, List.set_cons_zero, List.set_cons_succ, i64_w, i32_w]
            rfl
          refine pure_ (i := 10) (N := some 49) (v := ?_) (a' := ?_) #[true, true, true, true, true, true, true, false, true, true, true, false, false, false, false, false, false] rfl rfl (by kernel_rfl) (fun _ _ _ h => h) (Or.inl ⟨by rfl, ?_⟩) ?_ ?_
          rotate_left
          · intro w'
            go_simp
            with_reducible rfl
          rotate_left
          · simp only [Act.put, List.setIfInBounds_toArray, List.set_cons_zero, List.set_cons_succ, i64_w, i32_w]
            rfl
          refine pure_ (i := 11) (N := some 50) (v := ?_) (a' := ?_) #[true, true, true, true, true, true, true, false, true, true, true, true, false, false, false, false, false] rfl rfl (by kernel_rfl) (fun _ _ _ h => h) (Or.inl ⟨by rfl, ?_⟩) ?_ ?_
          rotate_left
          · intro w'
            go_simp
            with_reducible rfl
          rotate_left
          · simp only [Act.put, List.setIfInBounds_toArray, List.set_cons_zero, List.set_cons_succ, i64_w, i32_w]
            rfl
          refine take_ (i := 12) (N := some 51) (v := ?_) (a' := ?_) #[true, true, true, true, true, true, true, false, true, true, true, true, true, false, false, false, false] rfl rfl (by kernel_rfl) (fun _ _ _ h => h) (Or.inl ⟨by rfl, ?_⟩) hHeld ?_ ?_
          rotate_left
          · rintro w' ⟨s0, s1, s2, s3, s4⟩
            go_simp
            with_reducible rfl
          rotate_left
          · simp only [Act.put, List.setIfInBounds_toArray, List.set_cons_zero, List.set_cons_succ, i64_w, i32_w]
            rfl
          refine one_ (i := 7) (N := some 46) #[true, true, true, true, true, true, true, true, true, true, true, true, true, false, false, false, false] rfl rfl (by kernel_rfl) (by decide) (fun K hK => ?_)
          refine goes_ Try.func15 (by kernel_rfl) rfl #[.pointer (some ⟨h, 0, none⟩)] (by rfl) rfl rfl (by simp only [List.map_toArray, List.map_cons, List.map_nil]; rfl) ?_
          with_reducible refine (HPN.out t' HP7.out _ HL7.out).mono ?_
          rintro e w8 ⟨v8, rfl, hv8, hb8⟩
          refine ⟨_, rfl, ?_⟩
          have HL8 := Aside0.mk (HL7.out.on hb8)
          have HF8 := Aside0.mk (HF7.out.on hb8)
          have HB8 := Aside0.mk (below_then HB7.out HB7.out.size hb8)
          have HG8 := Aside0.mk (blk_below HG7.out hb8)
          obtain ⟨A8, c8, rfl⟩ := Kd.R_slice hv8
          have HC8 := Aside0.mk (Kd.R_reads' hv8).2.2
          clear hv8 hb8
          have r0 := (blk_cell HG8.out 0).trans (rfl : _ = some (Value.int .i64 dp))
          have r1 := (blk_cell HG8.out 1).trans (rfl : _ = some (Value.int .i64 dq))
          have r2 := (blk_cell HG8.out 2).trans (rfl : _ = some (Value.bool df))
          have r3 := (blk_cell HG8.out 3).trans (rfl : _ = some (Value.bool da))
          have r4 := (blk_cell HF8.out.blk 1).trans (rfl : _ = some (Value.int .i64 0))
          refine hK.out _ _ ⟨r0, r1, r2, r3, r4⟩ (fun hHeld => ?_)
          clear hK K
          refine norm_ (a' := ?_) ?_ ?_
          rotate_left
          · show Act.put _ (some 46) _ = _
            simp only [Act.put, List.setIfInBounds_toArray, List.set_cons_zero, List.set_cons_succ, i64_w, i32_w]
            rfl
          refine one_ (i := 13) (N := some 52) #[true, true, true, true, true, true, true, true, true, true, true, true, true, true, false, false, false] rfl rfl (by kernel_rfl) (by decide) (fun K hK => ?_)
          refine goes_ Try.func16 (by kernel_rfl) rfl #[.pointer (some ⟨m, 0, none⟩), .int .i64 0] (by rfl) rfl rfl (by simp only [List.map_toArray, List.map_cons, List.map_nil]; rfl) ?_
          with_reducible refine (HRP.out _ (HF8.out.rf (by have := HPS.out; omega))).mono ?_
          rintro e w9 ⟨v9, rfl, hv9, hb9⟩
          refine ⟨_, rfl, ?_⟩
          have HL9 := Aside0.mk (HL8.out.on hb9)
          have HF9 := Aside0.mk (HF8.out.on hb9)
          have HB9 := Aside0.mk (below_then HB8.out HB8.out.size hb9)
          have HG9 := Aside0.mk (blk_below HG8.out hb9)
          rw [HP6.out, ← HP7.out] at hv9
          obtain ⟨A9, c9, rfl⟩ := Kd.R_slice hv9
          have HC9 := Aside0.mk (Kd.R_reads' hv9).2.2
          have HC89 := Aside0.mk (Kd.C_below HC8.out hb9)
          have HE9 := Aside0.mk (show t'.plain.leaves.length < 1000000 from by have := HL9.out.good.2; omega)
          clear hv9 hb9
          have x0 := (blk_cell HG9.out 0).trans (rfl : _ = some (Value.int .i64 dp))
          have x1 := (blk_cell HG9.out 1).trans (rfl : _ = some (Value.int .i64 dq))
          have x2 := (blk_cell HG9.out 2).trans (rfl : _ = some (Value.bool df))
          have x3 := (blk_cell HG9.out 3).trans (rfl : _ = some (Value.bool da))
          have x4 := (blk_cell HF9.out.blk 1).trans (rfl : _ = some (Value.int .i64 0))
          refine hK.out _ _ ⟨x0, x1, x2, x3, x4⟩ (fun hHeld => ?_)
          clear hK K
          refine norm_ (a' := ?_) ?_ ?_
          rotate_left
          · show Act.put _ (some 52) _ = _
            simp only [Act.put, List.setIfInBounds_toArray, List.set_cons_zero, List.set_cons_succ, i64_w, i32_w]
            rfl
          refine one_ (i := 14) (N := some 53) #[true, true, true, true, true, true, true, true, true, true, true, true, true, true, true, false, false] rfl rfl (by kernel_rfl) (by decide) (fun K hK => ?_)
          refine goes_ Try.func14 (by kernel_rfl) rfl #[.slice A8 t'.plain.leaves.length c8, .slice A9 t'.plain.leaves.length c9] (by rfl) rfl rfl (by simp only [List.map_toArray, List.map_cons, List.map_nil]; rfl) ?_
          with_reducible refine ((ints_c A8 A9 c8 c9 t'.plain.leaves _ HC89.out HC9.out HE9.out)).mono ?_
          rintro e w10 ⟨rfl, hb10⟩
          refine ⟨_, rfl, ?_⟩
          have HL10 := Aside0.mk (HL9.out.on hb10)
          have HF10 := Aside0.mk (HF9.out.on hb10)
          have HB10 := Aside0.mk (below_then HB9.out HB9.out.size hb10)
          have HG10 := Aside0.mk (blk_below HG9.out hb10)
          clear hb10
          have y0 := (blk_cell HG10.out 0).trans (rfl : _ = some (Value.int .i64 dp))
          have y1 := (blk_cell HG10.out 1).trans (rfl : _ = some (Value.int .i64 dq))
          have y2 := (blk_cell HG10.out 2).trans (rfl : _ = some (Value.bool df))
          have y3 := (blk_cell HG10.out 3).trans (rfl : _ = some (Value.bool da))
          have y4 := (blk_cell HF10.out.blk 1).trans (rfl : _ = some (Value.int .i64 0))
          refine hK.out _ _ ⟨y0, y1, y2, y3, y4⟩ (fun hHeld => ?_)
          clear hK K
          refine norm_ (a' := ?_) ?_ ?_
          rotate_left
          · show Act.put _ (some 53) _ = _
            simp only [Act.put, List.setIfInBounds_toArray, List.set_cons_zero, List.set_cons_succ, i64_w, i32_w]
            rfl
          refine pure_ (i := 15) (N := some 54) (v := ?_) (a' := ?_) #[true, true, true, true, true, true, true, true, true, true, true, true, true, true, true, true, false] rfl rfl (by kernel_rfl) (fun _ _ _ h => h) (Or.inl ⟨by rfl, ?_⟩) ?_ ?_
          rotate_left
          · intro w'
            go_simp
            with_reducible rfl
          rotate_left
          · simp only [Act.put, List.setIfInBounds_toArray, List.set_cons_zero, List.set_cons_succ, i64_w, i32_w]
            rfl
          refine pure_ (i := 16) (N := some 55) (v := ?_) (a' := ?_) #[true, true, true, true, true, true, true, true, true, true, true, true, true, true, true, true, true] rfl rfl (by kernel_rfl) (fun _ _ _ h => h) (Or.inl ⟨by rfl, ?_⟩) ?_ ?_
          rotate_left
          · intro w'
            go_simp
            with_reducible rfl
          rotate_left
          · simp only [Act.put, List.setIfInBounds_toArray, List.set_cons_zero, List.set_cons_succ, i64_w, i32_w]
            rfl
          refine done_ (by kernel_rfl) ?_
          clear d0 d1 d2 d3 m1 q0 q1 q2 q3 q4 r0 r1 r2 r3 r4 x0 x1 x2 x3 x4 y0 y1 y2 y3 y4
          go_wp2_with fail
          go_roundg gn
          case measure => omega
          case rel => exact ⟨i + 1, by first | go_num | (congr 1; unfold wrap64; omega), ⟨by have := HG.out; omega⟩, HB10, ⟨⟨t', g', cap', ps', t2', HL10.out, HF10.out, by rw [HP6.out, HP7.out], by have := HL6.out; have := HLEN.out; omega⟩⟩⟩
    · have hil : (ds.length : Int) ≤ i := by omega
      have HI := Aside0.mk (show i ≤ 100 by have := HG.out; omega)
      obtain ⟨t, g, cap, ps, t2, hL, hF, hpl, hlen⟩ := HS.out
      have HLd := Aside0.mk (hL.on (below_drew (Below.refl _ _)))
      have HFd := Aside0.mk (hF.on (below_drew (Below.refl _ _)))
      have HPL := Aside0.mk hpl
      have HBd := Aside0.mk (below_drew HB.out)
      have HPS := Aside0.mk (show ps.length < 1000 by have := HI.out; omega)
      have HRP := Aside0.mk (fun W (hf : RF W m (some ⟨g, 0, none⟩) cap ps) => (show Calls Try.prog 16 #[.pointer (some ⟨m, 0, none⟩), .int .i64 0] W _ from by
        have hc := rpanes_c m (some ⟨g, 0, none⟩) cap ps t2 HFd.out.ri.rep (by have := HFd.out.good.2; omega) W hf
        rw [HFd.out.ri.root] at hc
        exact hc))
      have HPN := Aside0.mk (fun W (L : LAY w.heap.size W h t) => panes_c h t W L.lb L.lies (by have := L.few; omega))
      have m1 := (blk_cell HFd.out.blk 1).trans (rfl : _ = some (Value.int .i64 0))
      clear hgi hi hL hF hpl hlen HS
      go_upto_region 17 with fail
      refine start_ (n := 10) (S := fun w' => w'.cell? ⟨m, 1, none⟩ = some (.int .i64 0)) (ds := []) #[false, false, false, false, false, false, false, false, false, false] (by kernel_rfl) rfl rfl (m1) (fun hHeld => ?_)
      refine pure_ (i := 0) (N := some 57) (v := ?_) (a' := ?_) #[true, false, false, false, false, false, false, false, false, false] rfl rfl (by kernel_rfl) (fun _ _ _ h => h) (Or.inl ⟨by rfl, ?_⟩) ?_ ?_
      rotate_left
      · intro w'
        go_simp
        with_reducible rfl
      rotate_left
      · simp only [Act.put, List.setIfInBounds_toArray, List.set_cons_zero, List.set_cons_succ, i64_w, i32_w]
        rfl
      refine pure_ (i := 2) (N := some 59) (v := ?_) (a' := ?_) #[true, false, true, false, false, false, false, false, false, false] rfl rfl (by kernel_rfl) (fun _ _ _ h => h) (Or.inl ⟨by rfl, ?_⟩) ?_ ?_
      rotate_left
      · intro w'
        go_simp
        with_reducible rfl
      rotate_left
      · simp only [Act.put, List.setIfInBounds_toArray, List.set_cons_zero, List.set_cons_succ, i64_w, i32_w]
        rfl
      refine pure_ (i := 3) (N := some 60) (v := ?_) (a' := ?_) #[true, false, true, true, false, false, false, false, false, false] rfl rfl (by kernel_rfl) (fun _ _ _ h => h) (Or.inl ⟨by rfl, ?_⟩) ?_ ?_
      rotate_left
      · intro w'
        go_simp
        with_reducible rfl
      rotate_left
      · simp only [Act.put, List.setIfInBounds_toArray, List.set_cons_zero, List.set_cons_succ, i64_w, i32_w]
        rfl
      refine pure_ (i := 4) (N := some 61) (v := ?_) (a' := ?_) #[true, false, true, true, true, false, false, false, false, false] rfl rfl (by kernel_rfl) (fun _ _ _ h => h) (Or.inl ⟨by rfl, ?_⟩) ?_ ?_
      rotate_left
      · intro w'
        go_simp
        with_reducible rfl
      rotate_left
      · simp only [Act.put, List.setIfInBounds_toArray, List.set_cons_zero, List.set_cons_succ, i64_w, i32_w]
        rfl
      refine pure_ (i := 5) (N := some 62) (v := ?_) (a' := ?_) #[true, false, true, true, true, true, false, false, false, false] rfl rfl (by kernel_rfl) (fun _ _ _ h => h) (Or.inl ⟨by rfl, ?_⟩) ?_ ?_
      rotate_left
      · intro w'
        go_simp
        with_reducible rfl
      rotate_left
      · simp only [Act.put, List.setIfInBounds_toArray, List.set_cons_zero, List.set_cons_succ, i64_w, i32_w]
        rfl
      refine take_ (i := 6) (N := some 63) (v := ?_) (a' := ?_) #[true, false, true, true, true, true, true, false, false, false] rfl rfl (by kernel_rfl) (fun _ _ _ h => h) (Or.inl ⟨by rfl, ?_⟩) hHeld ?_ ?_
      rotate_left
      · intro w' s0
        go_simp
        with_reducible rfl
      rotate_left
      · simp only [Act.put, List.setIfInBounds_toArray, List.set_cons_zero, List.set_cons_succ, i64_w, i32_w]
        rfl
      refine one_ (i := 1) (N := some 58) #[true, true, true, true, true, true, true, false, false, false] rfl rfl (by kernel_rfl) (by decide) (fun K hK => ?_)
      refine goes_ Try.func15 (by kernel_rfl) rfl #[.pointer (some ⟨h, 0, none⟩)] (by rfl) rfl rfl (by simp only [List.map_toArray, List.map_cons, List.map_nil]; rfl) ?_
      with_reducible refine (HPN.out _ HLd.out).mono ?_
      rintro e w8 ⟨v8, rfl, hv8, hb8⟩
      refine ⟨_, rfl, ?_⟩
      have HF8 := Aside0.mk (HFd.out.on hb8)
      have HB8 := Aside0.mk (below_then HBd.out HBd.out.size hb8)
      obtain ⟨A8, c8, rfl⟩ := Kd.R_slice hv8
      have HC8 := Aside0.mk (Kd.R_reads' hv8).2.2
      clear hv8 hb8
      have r8 := (blk_cell HF8.out.blk 1).trans (rfl : _ = some (Value.int .i64 0))
      refine hK.out _ _ (r8) (fun hHeld => ?_)
      clear hK K
      refine norm_ (a' := ?_) ?_ ?_
      rotate_left
      · show Act.put _ (some 58) _ = _
        simp only [Act.put, List.setIfInBounds_toArray, List.set_cons_zero, List.set_cons_succ, i64_w, i32_w]
        rfl
      refine one_ (i := 7) (N := some 64) #[true, true, true, true, true, true, true, true, false, false] rfl rfl (by kernel_rfl) (by decide) (fun K hK => ?_)
      refine goes_ Try.func16 (by kernel_rfl) rfl #[.pointer (some ⟨m, 0, none⟩), .int .i64 0] (by rfl) rfl rfl (by simp only [List.map_toArray, List.map_cons, List.map_nil]; rfl) ?_
      with_reducible refine (HRP.out _ (HF8.out.rf (by have := HPS.out; omega))).mono ?_
      rintro e w9 ⟨v9, rfl, hv9, hb9⟩
      refine ⟨_, rfl, ?_⟩
      have HF9 := Aside0.mk (HF8.out.on hb9)
      have HB9 := Aside0.mk (below_then HB8.out HB8.out.size hb9)
      rw [HPL.out] at hv9
      obtain ⟨A9, c9, rfl⟩ := Kd.R_slice hv9
      have HC9 := Aside0.mk (Kd.R_reads' hv9).2.2
      have HC89 := Aside0.mk (Kd.C_below HC8.out hb9)
      have HE9 := Aside0.mk (show t.plain.leaves.length < 1000000 from by have := HLd.out.good.2; omega)
      clear hv9 hb9
      have r9 := (blk_cell HF9.out.blk 1).trans (rfl : _ = some (Value.int .i64 0))
      refine hK.out _ _ (r9) (fun hHeld => ?_)
      clear hK K
      refine norm_ (a' := ?_) ?_ ?_
      rotate_left
      · show Act.put _ (some 64) _ = _
        simp only [Act.put, List.setIfInBounds_toArray, List.set_cons_zero, List.set_cons_succ, i64_w, i32_w]
        rfl
      refine one_ (i := 8) (N := some 65) #[true, true, true, true, true, true, true, true, true, false] rfl rfl (by kernel_rfl) (by decide) (fun K hK => ?_)
      refine goes_ Try.func14 (by kernel_rfl) rfl #[.slice A8 t.plain.leaves.length c8, .slice A9 t.plain.leaves.length c9] (by rfl) rfl rfl (by simp only [List.map_toArray, List.map_cons, List.map_nil]; rfl) ?_
      with_reducible refine ((ints_c A8 A9 c8 c9 t.plain.leaves _ HC89.out HC9.out HE9.out)).mono ?_
      rintro e w10 ⟨rfl, hb10⟩
      refine ⟨_, rfl, ?_⟩
      have HF10 := Aside0.mk (HF9.out.on hb10)
      have HB10 := Aside0.mk (below_then HB9.out HB9.out.size hb10)
      clear hb10
      have r10 := (blk_cell HF10.out.blk 1).trans (rfl : _ = some (Value.int .i64 0))
      refine hK.out _ _ (r10) (fun hHeld => ?_)
      clear hK K
      refine norm_ (a' := ?_) ?_ ?_
      rotate_left
      · show Act.put _ (some 65) _ = _
        simp only [Act.put, List.setIfInBounds_toArray, List.set_cons_zero, List.set_cons_succ, i64_w, i32_w]
        rfl
      refine pure_ (i := 9) (N := some 4) (v := ?_) (a' := ?_) #[true, true, true, true, true, true, true, true, true, true] rfl rfl (by kernel_rfl) (fun _ _ _ h => h) (Or.inl ⟨by rfl, ?_⟩) ?_ ?_
      rotate_left
      · intro w'
        go_simp
        with_reducible rfl
      rotate_left
      · simp only [Act.put, List.setIfInBounds_toArray, List.set_cons_zero, List.set_cons_succ, i64_w, i32_w]
        rfl
      refine done_ (by kernel_rfl) ?_
      go_wp2_with fail
      go_returns
      exact ⟨rfl, HB10.out⟩
end
theorem row {w : World} (p : Int) (_ : (Lit.int .i64 p).wf = true) (A : Option Addr) (c : Nat) (l : List SD) (hC : Kd.C kD w A l.length l) (_ : l.length ≤ c) (_ : ∀ x ∈ l, deedwf x) :
    Calls Try.prog 3 #[.int .i64 p, .slice A l.length c] w fun e w' => e = .returned (.bool true) ∧ Below w.heap.size w w' := by
  by_cases h : 100 < l.length
  · exact runs_big A c _ p w h (by have := hC.2.1; unfold maxLen; omega)
  · exact runs_c A c l p w hC (by omega)
end Go.Proofs.Ytnidcnmeonjjbaa.LayRuns
