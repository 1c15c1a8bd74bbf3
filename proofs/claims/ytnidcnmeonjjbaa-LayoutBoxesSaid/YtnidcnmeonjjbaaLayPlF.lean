/- The reference's Places on a upright part. -/
import Derived.Test.YtnidcnmeonjjbaaLayPl
import Derived.Deep.CutBlock
namespace Go.Proofs.Ytnidcnmeonjjbaa.LayPlF
open Go.RowKit Go.Proofs.Ytnidcnmeonjjbaa.Kit Go.Proofs.Ytnidcnmeonjjbaa.Plain Go.Proofs.Ytnidcnmeonjjbaa.Mine Go.Proofs.Ytnidcnmeonjjbaa.LayPure Go.Proofs.Ytnidcnmeonjjbaa.LaySmall Go.Proofs.Ytnidcnmeonjjbaa.LayPlace Go.Proofs.Ytnidcnmeonjjbaa.LayRefPure Go.Proofs.Ytnidcnmeonjjbaa.LayRefA Go.Proofs.Ytnidcnmeonjjbaa.LayPl Go.Proofs.YtnidcnmeonjjbaaW.PrintWords Go.Proofs.YtnidcnmeonjjbaaW.PrintLast Go.Proofs.YtnidcnmeonjjbaaW.PrintMore
set_option linter.unusedVariables false
set_option linter.unusedSimpArgs false
section
set_option maxHeartbeats 6400000
set_option maxRecDepth 100000
theorem part_f (m : Nat) (A : Option Addr) (c : Nat) (ps : List PN) (i : Nat) (f : Bool) (a a2 : BT) (hf : f = false)
    (hA : ∀ (b : BX) (W : World), fits b → RF W m A c ps → Calls Try.prog 19 #[.pointer (some ⟨m, 0, none⟩), .int .i64 (a.root : Int), .agg #[.int .i64 b.x, .int .i64 b.y, .int .i64 b.w, .int .i64 b.h]] W fun e w' => ∃ v, e = .returned v ∧ Kd.R kP 52 w' W.heap.size (fun _ => True) v (placesT a.plain b) ∧ Below W.heap.size W w')
    (hB : ∀ (b : BX) (W : World), fits b → RF W m A c ps → Calls Try.prog 19 #[.pointer (some ⟨m, 0, none⟩), .int .i64 (a2.root : Int), .agg #[.int .i64 b.x, .int .i64 b.y, .int .i64 b.w, .int .i64 b.h]] W fun e w' => ∃ v, e = .returned v ∧ Kd.R kP 52 w' W.heap.size (fun _ => True) v (placesT a2.plain b) ∧ Below W.heap.size W w')
    (ht : RepI ps (.part i f a a2)) (hn : (BT.part i f a a2).plain.leaves.length < 1000) (b : BX) (W : World) (hb : fits b) (hF : RF W m A c ps) :
    Calls Try.prog 19 #[.pointer (some ⟨m, 0, none⟩), .int .i64 ((BT.part i f a a2).root : Int), .agg #[.int .i64 b.x, .int .i64 b.y, .int .i64 b.w, .int .i64 b.h]] W fun e w' => ∃ v, e = .returned v ∧ Kd.R kP 52 w' W.heap.size (fun _ => True) v (placesT (BT.part i f a a2).plain b) ∧ Below W.heap.size W w' := by
  have hun := Try.underlying67
  have hul := Try.underlying40
  have hub := Try.underlying50
  have hup := Try.underlying52
  obtain ⟨⟨x, hx, hxf, hxa, hxb⟩, hta, htb⟩ := ht
  have hn2 : a.plain.leaves.length + a2.plain.leaves.length < 1000 := by
    have : (BT.part i f a a2).plain.leaves = a.plain.leaves ++ a2.plain.leaves := rfl
    rw [this, List.length_append] at hn; exact hn
  have HN := Aside0.mk hn2
  have HA := Aside0.mk hA
  have HB := Aside0.mk hB
  have hla := places_len a.plain (firstB f b)
  have hlb := places_len a2.plain (secondB f b)
  obtain ⟨wa, hwa⟩ : ∃ wa, wa = W.alloc (.cells #[.int .i64 b.x, .int .i64 b.y, .int .i64 b.w, .int .i64 b.h] 50) := ⟨_, rfl⟩
  have hba : Below W.heap.size W wa := by rw [hwa]; exact below_alloc (Below.refl _ _) _
  have HBA := Aside0.mk hba
  have hFa := hF.on hba
  obtain ⟨ad, ead, hi, k0, k1, k2, k3⟩ := at_N hFa.row i x hx
  obtain ⟨xp, xf, xa, xb⟩ := x
  dsimp only at k0 k1 k2 k3 hxf hxa hxb
  obtain ⟨ra, hra⟩ : ∃ r, r = a.root := ⟨_, rfl⟩
  obtain ⟨rb, hrb⟩ : ∃ r, r = a2.root := ⟨_, rfl⟩
  rw [← hra] at hxa HA
  rw [← hrb] at hxb HB
  subst hxa hxb hxf ead
  have HFL := Aside0.mk hf
  clear hA hB hf
  have hlen := hF.few
  have hil : (i : Int) < ps.length := by omega
  have h0 : wa.cell? ⟨m, 0, none⟩ = some (.slice (some ad) ps.length c) := (blk_cell hFa.blk 0).trans rfl
  have HF := Aside0.mk hFa
  have HFIT := Aside0.mk hb
  rw [show (BT.part i xf a a2).root = i from rfl, show placesT (BT.part i xf a a2).plain b = placesT a.plain (firstB xf b) ++ ⟨0, true, lineB xf b⟩ :: placesT a2.plain (secondB xf b) from rfl]
  obtain ⟨la, hlae⟩ : ∃ l, l = placesT a.plain (firstB xf b) := ⟨_, rfl⟩
  obtain ⟨lb, hlbe⟩ : ∃ l, l = placesT a2.plain (secondB xf b) := ⟨_, rfl⟩
  rw [← hlae] at hla ⊢
  rw [← hlbe] at hlb ⊢
  have HLA := Aside0.mk hlae
  have HLB := Aside0.mk hlbe
  have HLN := Aside0.mk (show la.length + lb.length < 100000 by omega)
  have z0 : decide ((ra : Int) < 0) = false := decide_eq_false (by omega)
  obtain ⟨b5, hb5⟩ : ∃ b5, b5 = W.heap.size := ⟨_, rfl⟩
  have HK5 := Aside0.mk (show BB wa b5 b from by unfold BB bxc; rw [hwa, hb5]; exact blk_new W _)
  clear hF hx hi hra hrb hta htb hlen hn hn2 hla hlb hFa hba hb hlae hlbe
  go_enter Try.func19, Try.ntmps19
  go_upto_region 1 with fail
  rw [← hwa, ← hb5]
  clear hwa hb5
  go_cut [7] (fun v7 W2 => ∃ gx : Nat, v7 = .pointer (some ⟨gx, 0, none⟩) ∧ Aside0 (W2.heap[gx]? = some (.cells #[.int .i64 xp, .bool xf, .int .i64 ra, .int .i64 rb] 67 (0, 0))) ∧ Aside0 (Below wa.heap.size wa W2))
  case first =>
    go_wp2
    go_meet
    case rel => exact ⟨_, rfl, ⟨blk_new _ _⟩, ⟨below_alloc (Below.refl _ _) _⟩⟩
  case rest =>
    obtain ⟨gx, rfl, HGX, HBX⟩ := hcut
    clear k0 k1 k2 k3 h0 hil
    have g2 := (blk_cell HGX.out 2).trans (rfl : _ = some (Value.int .i64 ra))
    go_upto_region 4 with fail
    clear g2
    obtain ⟨wd, hwd⟩ : ∃ wd, wd = wc.drew := ⟨_, rfl⟩
    have HBD := Aside0.mk (show Below wa.heap.size wa wd from by rw [hwd]; exact below_drew HBX.out)
    have HKd := Aside0.mk (blk_below HK5.out HBD.out)
    have HGd := Aside0.mk (show wd.heap[gx]? = some (.cells #[.int .i64 xp, .bool xf, .int .i64 ra, .int .i64 rb] 67 (0, 0)) from by rw [hwd]; exact blk_drew HGX.out)
    have HWD := Aside0.mk hwd
    obtain ⟨bx, bY, bw, bh⟩ := b
    have r0 := (blk_cell HKd.out 0).trans (rfl : _ = some (Value.int .i64 (bx : Int)))
    have r1 := (blk_cell HKd.out 1).trans (rfl : _ = some (Value.int .i64 (bY : Int)))
    have r2 := (blk_cell HKd.out 2).trans (rfl : _ = some (Value.int .i64 (bw : Int)))
    have r3 := (blk_cell HKd.out 3).trans (rfl : _ = some (Value.int .i64 (bh : Int)))
    rw [hwd] at r0 r1 r2 r3
    have HA_ := Aside0.mk (show AL wd wc.drew ⟨bx, bY, bw, bh⟩ (fun _ => none) from by rw [hwd]; exact al_start _ _)
    clear hwd
    refine start_ (n := 9) (S := fun w' => w'.cell? ⟨b5, 0, none⟩ = some (.int .i64 (bx : Int)) ∧ w'.cell? ⟨b5, 1, none⟩ = some (.int .i64 (bY : Int)) ∧ w'.cell? ⟨b5, 2, none⟩ = some (.int .i64 (bw : Int)) ∧ w'.cell? ⟨b5, 3, none⟩ = some (.int .i64 (bh : Int))) (ds := []) #[false, false, false, false, false, false, false, false, false] (by kernel_rfl) rfl rfl ⟨r0, r1, r2, r3⟩ (fun hHeld => ?_)
    refine take_ (i := 0) (N := some 27) (v := ?_) (a' := ?_) #[true, false, false, false, false, false, false, false, false] rfl rfl (by kernel_rfl) (fun _ _ _ h => h) (Or.inl ⟨by rfl, ?_⟩) hHeld ?_ ?_
    rotate_left
    · rintro w' ⟨s0, s1, s2, s3⟩
      go_simp
      with_reducible rfl
    rotate_left
    · simp only [Act.put, List.setIfInBounds_toArray, List.set_cons_zero, List.set_cons_succ, i64_w, i32_w]
      rfl
    refine take_ (i := 1) (N := some 28) (v := ?_) (a' := ?_) #[true, true, false, false, false, false, false, false, false] rfl rfl (by kernel_rfl) (fun _ _ _ h => h) (Or.inl ⟨by rfl, ?_⟩) hHeld ?_ ?_
    rotate_left
    · rintro w' ⟨s0, s1, s2, s3⟩
      go_simp
      with_reducible rfl
    rotate_left
    · simp only [Act.put, List.setIfInBounds_toArray, List.set_cons_zero, List.set_cons_succ, i64_w, i32_w]
      rfl
    refine take_ (i := 2) (N := some 29) (v := ?_) (a' := ?_) #[true, true, true, false, false, false, false, false, false] rfl rfl (by kernel_rfl) (fun _ _ _ h => h) (Or.inl ⟨by rfl, ?_⟩) hHeld ?_ ?_
    rotate_left
    · rintro w' ⟨s0, s1, s2, s3⟩
      go_simp
      with_reducible rfl
    rotate_left
    · simp only [Act.put, List.setIfInBounds_toArray, List.set_cons_zero, List.set_cons_succ, i64_w, i32_w]
      rfl
    refine join_ (σ := Nat × Nat × Nat) 3 #[true, true, true, true, true, true, false, false, false] (fun s => [(8, Value.pointer (some ⟨s.1, 0, none⟩)), (9, Value.pointer (some ⟨s.2.1, 0, none⟩)), (10, Value.pointer (some ⟨s.2.2, 0, none⟩))]) (fun s w' => Two wd w' ⟨bx, bY, bw, bh⟩ s) ?_ ?_
    rotate_left
    · intro hCont
      refine three_ (i := 3) (j := 4) (k := 5) (Ni := some 8) (Nj := some 9) (Nk := some 10) #[true, true, true, true, false, false, false, false, false] #[true, true, true, false, true, false, false, false, false] #[true, true, true, false, false, true, false, false, false] rfl rfl rfl rfl rfl rfl (by kernel_rfl) (by decide) (by decide) (by decide) (fun K hK => ?_) (fun K hK => ?_) (fun K hK => ?_)
      · skip
        refine box_step (cs := #[.int .i64 0, .int .i64 0, .int .i64 0, .int .i64 0]) (t := 50) (by rfl) (N := 8) rfl (by first | (go_simp; done) | (go_simp; rfl)) ?_
        intro g8 e8 w_3 h8 hb8
        have HA_3 := Aside0.mk (AL.lay HA_.out 8 e8 h8 hb8)
        clear e8 h8 hb8
        refine hK.out _ _ ⟨((blk_cell (blk_below HKd.out HA_3.out.below) 0).trans rfl), ((blk_cell (blk_below HKd.out HA_3.out.below) 1).trans rfl), ((blk_cell (blk_below HKd.out HA_3.out.below) 2).trans rfl), ((blk_cell (blk_below HKd.out HA_3.out.below) 3).trans rfl)⟩ (fun hHeld => ?_)
        clear hK K
        refine norm_ (a' := ?_) ?_ ?_
        rotate_left
        · show Act.put _ (some 8) _ = _
          simp only [Act.put, List.setIfInBounds_toArray, List.set_cons_zero, List.set_cons_succ, i64_w, i32_w]
          rfl
        refine two_ (i := 4) (j := 5) (Ni := some 9) (Nj := some 10) #[true, true, true, true, true, false, false, false, false] #[true, true, true, true, false, true, false, false, false] rfl rfl rfl rfl (by kernel_rfl) (by decide) (by decide) (fun K hK => ?_) (fun K hK => ?_)
        · skip
          refine box_step (cs := #[.int .i64 0, .int .i64 0, .int .i64 0, .int .i64 0]) (t := 50) (by rfl) (N := 9) rfl (by first | (go_simp; done) | (go_simp; rfl)) ?_
          intro g9 e9 w_34 h9 hb9
          have HA_34 := Aside0.mk (AL.lay HA_3.out 9 e9 h9 hb9)
          clear e9 h9 hb9
          refine hK.out _ _ ⟨((blk_cell (blk_below HKd.out HA_34.out.below) 0).trans rfl), ((blk_cell (blk_below HKd.out HA_34.out.below) 1).trans rfl), ((blk_cell (blk_below HKd.out HA_34.out.below) 2).trans rfl), ((blk_cell (blk_below HKd.out HA_34.out.below) 3).trans rfl)⟩ (fun hHeld => ?_)
          clear hK K
          refine norm_ (a' := ?_) ?_ ?_
          rotate_left
          · show Act.put _ (some 9) _ = _
            simp only [Act.put, List.setIfInBounds_toArray, List.set_cons_zero, List.set_cons_succ, i64_w, i32_w]
            rfl
          refine one_ (i := 5) (N := some 10) #[true, true, true, true, true, true, false, false, false] rfl rfl (by kernel_rfl) (by decide) (fun K hK => ?_)
          refine box_step (cs := #[.int .i64 0, .int .i64 0, .int .i64 0, .int .i64 0]) (t := 50) (by rfl) (N := 10) rfl (by first | (go_simp; done) | (go_simp; rfl)) ?_
          intro g10 e10 w_345 h10 hb10
          have HA_345 := Aside0.mk (AL.lay HA_34.out 10 e10 h10 hb10)
          clear e10 h10 hb10
          refine hK.out _ _ ⟨((blk_cell (blk_below HKd.out HA_345.out.below) 0).trans rfl), ((blk_cell (blk_below HKd.out HA_345.out.below) 1).trans rfl), ((blk_cell (blk_below HKd.out HA_345.out.below) 2).trans rfl), ((blk_cell (blk_below HKd.out HA_345.out.below) 3).trans rfl)⟩ (fun hHeld => ?_)
          clear hK K
          refine norm_ (a' := ?_) ?_ ?_
          rotate_left
          · show Act.put _ (some 10) _ = _
            simp only [Act.put, List.setIfInBounds_toArray, List.set_cons_zero, List.set_cons_succ, i64_w, i32_w]
            rfl
          exact norm_ (by simp only [putAll, Act.put, List.setIfInBounds_toArray, List.set_cons_zero, List.set_cons_succ]) (hCont (g8, g9, g10) _ ⟨_, HA_345.out, rfl, rfl, rfl⟩)
        · skip
          refine box_step (cs := #[.int .i64 0, .int .i64 0, .int .i64 0, .int .i64 0]) (t := 50) (by rfl) (N := 10) rfl (by first | (go_simp; done) | (go_simp; rfl)) ?_
          intro g10 e10 w_35 h10 hb10
          have HA_35 := Aside0.mk (AL.lay HA_3.out 10 e10 h10 hb10)
          clear e10 h10 hb10
          refine hK.out _ _ ⟨((blk_cell (blk_below HKd.out HA_35.out.below) 0).trans rfl), ((blk_cell (blk_below HKd.out HA_35.out.below) 1).trans rfl), ((blk_cell (blk_below HKd.out HA_35.out.below) 2).trans rfl), ((blk_cell (blk_below HKd.out HA_35.out.below) 3).trans rfl)⟩ (fun hHeld => ?_)
          clear hK K
          refine norm_ (a' := ?_) ?_ ?_
          rotate_left
          · show Act.put _ (some 10) _ = _
            simp only [Act.put, List.setIfInBounds_toArray, List.set_cons_zero, List.set_cons_succ, i64_w, i32_w]
            rfl
          refine one_ (i := 4) (N := some 9) #[true, true, true, true, true, true, false, false, false] rfl rfl (by kernel_rfl) (by decide) (fun K hK => ?_)
          refine box_step (cs := #[.int .i64 0, .int .i64 0, .int .i64 0, .int .i64 0]) (t := 50) (by rfl) (N := 9) rfl (by first | (go_simp; done) | (go_simp; rfl)) ?_
          intro g9 e9 w_354 h9 hb9
          have HA_354 := Aside0.mk (AL.lay HA_35.out 9 e9 h9 hb9)
          clear e9 h9 hb9
          refine hK.out _ _ ⟨((blk_cell (blk_below HKd.out HA_354.out.below) 0).trans rfl), ((blk_cell (blk_below HKd.out HA_354.out.below) 1).trans rfl), ((blk_cell (blk_below HKd.out HA_354.out.below) 2).trans rfl), ((blk_cell (blk_below HKd.out HA_354.out.below) 3).trans rfl)⟩ (fun hHeld => ?_)
          clear hK K
          refine norm_ (a' := ?_) ?_ ?_
          rotate_left
          · show Act.put _ (some 9) _ = _
            simp only [Act.put, List.setIfInBounds_toArray, List.set_cons_zero, List.set_cons_succ, i64_w, i32_w]
            rfl
          exact norm_ (by simp only [putAll, Act.put, List.setIfInBounds_toArray, List.set_cons_zero, List.set_cons_succ]) (hCont (g8, g9, g10) _ ⟨_, HA_354.out, rfl, rfl, rfl⟩)
      · skip
        refine box_step (cs := #[.int .i64 0, .int .i64 0, .int .i64 0, .int .i64 0]) (t := 50) (by rfl) (N := 9) rfl (by first | (go_simp; done) | (go_simp; rfl)) ?_
        intro g9 e9 w_4 h9 hb9
        have HA_4 := Aside0.mk (AL.lay HA_.out 9 e9 h9 hb9)
        clear e9 h9 hb9
        refine hK.out _ _ ⟨((blk_cell (blk_below HKd.out HA_4.out.below) 0).trans rfl), ((blk_cell (blk_below HKd.out HA_4.out.below) 1).trans rfl), ((blk_cell (blk_below HKd.out HA_4.out.below) 2).trans rfl), ((blk_cell (blk_below HKd.out HA_4.out.below) 3).trans rfl)⟩ (fun hHeld => ?_)
        clear hK K
        refine norm_ (a' := ?_) ?_ ?_
        rotate_left
        · show Act.put _ (some 9) _ = _
          simp only [Act.put, List.setIfInBounds_toArray, List.set_cons_zero, List.set_cons_succ, i64_w, i32_w]
          rfl
        refine two_ (i := 3) (j := 5) (Ni := some 8) (Nj := some 10) #[true, true, true, true, true, false, false, false, false] #[true, true, true, false, true, true, false, false, false] rfl rfl rfl rfl (by kernel_rfl) (by decide) (by decide) (fun K hK => ?_) (fun K hK => ?_)
        · skip
          refine box_step (cs := #[.int .i64 0, .int .i64 0, .int .i64 0, .int .i64 0]) (t := 50) (by rfl) (N := 8) rfl (by first | (go_simp; done) | (go_simp; rfl)) ?_
          intro g8 e8 w_43 h8 hb8
          have HA_43 := Aside0.mk (AL.lay HA_4.out 8 e8 h8 hb8)
          clear e8 h8 hb8
          refine hK.out _ _ ⟨((blk_cell (blk_below HKd.out HA_43.out.below) 0).trans rfl), ((blk_cell (blk_below HKd.out HA_43.out.below) 1).trans rfl), ((blk_cell (blk_below HKd.out HA_43.out.below) 2).trans rfl), ((blk_cell (blk_below HKd.out HA_43.out.below) 3).trans rfl)⟩ (fun hHeld => ?_)
          clear hK K
          refine norm_ (a' := ?_) ?_ ?_
          rotate_left
          · show Act.put _ (some 8) _ = _
            simp only [Act.put, List.setIfInBounds_toArray, List.set_cons_zero, List.set_cons_succ, i64_w, i32_w]
            rfl
          refine one_ (i := 5) (N := some 10) #[true, true, true, true, true, true, false, false, false] rfl rfl (by kernel_rfl) (by decide) (fun K hK => ?_)
          refine box_step (cs := #[.int .i64 0, .int .i64 0, .int .i64 0, .int .i64 0]) (t := 50) (by rfl) (N := 10) rfl (by first | (go_simp; done) | (go_simp; rfl)) ?_
          intro g10 e10 w_435 h10 hb10
          have HA_435 := Aside0.mk (AL.lay HA_43.out 10 e10 h10 hb10)
          clear e10 h10 hb10
          refine hK.out _ _ ⟨((blk_cell (blk_below HKd.out HA_435.out.below) 0).trans rfl), ((blk_cell (blk_below HKd.out HA_435.out.below) 1).trans rfl), ((blk_cell (blk_below HKd.out HA_435.out.below) 2).trans rfl), ((blk_cell (blk_below HKd.out HA_435.out.below) 3).trans rfl)⟩ (fun hHeld => ?_)
          clear hK K
          refine norm_ (a' := ?_) ?_ ?_
          rotate_left
          · show Act.put _ (some 10) _ = _
            simp only [Act.put, List.setIfInBounds_toArray, List.set_cons_zero, List.set_cons_succ, i64_w, i32_w]
            rfl
          exact norm_ (by simp only [putAll, Act.put, List.setIfInBounds_toArray, List.set_cons_zero, List.set_cons_succ]) (hCont (g8, g9, g10) _ ⟨_, HA_435.out, rfl, rfl, rfl⟩)
        · skip
          refine box_step (cs := #[.int .i64 0, .int .i64 0, .int .i64 0, .int .i64 0]) (t := 50) (by rfl) (N := 10) rfl (by first | (go_simp; done) | (go_simp; rfl)) ?_
          intro g10 e10 w_45 h10 hb10
          have HA_45 := Aside0.mk (AL.lay HA_4.out 10 e10 h10 hb10)
          clear e10 h10 hb10
          refine hK.out _ _ ⟨((blk_cell (blk_below HKd.out HA_45.out.below) 0).trans rfl), ((blk_cell (blk_below HKd.out HA_45.out.below) 1).trans rfl), ((blk_cell (blk_below HKd.out HA_45.out.below) 2).trans rfl), ((blk_cell (blk_below HKd.out HA_45.out.below) 3).trans rfl)⟩ (fun hHeld => ?_)
          clear hK K
          refine norm_ (a' := ?_) ?_ ?_
          rotate_left
          · show Act.put _ (some 10) _ = _
            simp only [Act.put, List.setIfInBounds_toArray, List.set_cons_zero, List.set_cons_succ, i64_w, i32_w]
            rfl
          refine one_ (i := 3) (N := some 8) #[true, true, true, true, true, true, false, false, false] rfl rfl (by kernel_rfl) (by decide) (fun K hK => ?_)
          refine box_step (cs := #[.int .i64 0, .int .i64 0, .int .i64 0, .int .i64 0]) (t := 50) (by rfl) (N := 8) rfl (by first | (go_simp; done) | (go_simp; rfl)) ?_
          intro g8 e8 w_453 h8 hb8
          have HA_453 := Aside0.mk (AL.lay HA_45.out 8 e8 h8 hb8)
          clear e8 h8 hb8
          refine hK.out _ _ ⟨((blk_cell (blk_below HKd.out HA_453.out.below) 0).trans rfl), ((blk_cell (blk_below HKd.out HA_453.out.below) 1).trans rfl), ((blk_cell (blk_below HKd.out HA_453.out.below) 2).trans rfl), ((blk_cell (blk_below HKd.out HA_453.out.below) 3).trans rfl)⟩ (fun hHeld => ?_)
          clear hK K
          refine norm_ (a' := ?_) ?_ ?_
          rotate_left
          · show Act.put _ (some 8) _ = _
            simp only [Act.put, List.setIfInBounds_toArray, List.set_cons_zero, List.set_cons_succ, i64_w, i32_w]
            rfl
          exact norm_ (by simp only [putAll, Act.put, List.setIfInBounds_toArray, List.set_cons_zero, List.set_cons_succ]) (hCont (g8, g9, g10) _ ⟨_, HA_453.out, rfl, rfl, rfl⟩)
      · skip
        refine box_step (cs := #[.int .i64 0, .int .i64 0, .int .i64 0, .int .i64 0]) (t := 50) (by rfl) (N := 10) rfl (by first | (go_simp; done) | (go_simp; rfl)) ?_
        intro g10 e10 w_5 h10 hb10
        have HA_5 := Aside0.mk (AL.lay HA_.out 10 e10 h10 hb10)
        clear e10 h10 hb10
        refine hK.out _ _ ⟨((blk_cell (blk_below HKd.out HA_5.out.below) 0).trans rfl), ((blk_cell (blk_below HKd.out HA_5.out.below) 1).trans rfl), ((blk_cell (blk_below HKd.out HA_5.out.below) 2).trans rfl), ((blk_cell (blk_below HKd.out HA_5.out.below) 3).trans rfl)⟩ (fun hHeld => ?_)
        clear hK K
        refine norm_ (a' := ?_) ?_ ?_
        rotate_left
        · show Act.put _ (some 10) _ = _
          simp only [Act.put, List.setIfInBounds_toArray, List.set_cons_zero, List.set_cons_succ, i64_w, i32_w]
          rfl
        refine two_ (i := 3) (j := 4) (Ni := some 8) (Nj := some 9) #[true, true, true, true, false, true, false, false, false] #[true, true, true, false, true, true, false, false, false] rfl rfl rfl rfl (by kernel_rfl) (by decide) (by decide) (fun K hK => ?_) (fun K hK => ?_)
        · skip
          refine box_step (cs := #[.int .i64 0, .int .i64 0, .int .i64 0, .int .i64 0]) (t := 50) (by rfl) (N := 8) rfl (by first | (go_simp; done) | (go_simp; rfl)) ?_
          intro g8 e8 w_53 h8 hb8
          have HA_53 := Aside0.mk (AL.lay HA_5.out 8 e8 h8 hb8)
          clear e8 h8 hb8
          refine hK.out _ _ ⟨((blk_cell (blk_below HKd.out HA_53.out.below) 0).trans rfl), ((blk_cell (blk_below HKd.out HA_53.out.below) 1).trans rfl), ((blk_cell (blk_below HKd.out HA_53.out.below) 2).trans rfl), ((blk_cell (blk_below HKd.out HA_53.out.below) 3).trans rfl)⟩ (fun hHeld => ?_)
          clear hK K
          refine norm_ (a' := ?_) ?_ ?_
          rotate_left
          · show Act.put _ (some 8) _ = _
            simp only [Act.put, List.setIfInBounds_toArray, List.set_cons_zero, List.set_cons_succ, i64_w, i32_w]
            rfl
          refine one_ (i := 4) (N := some 9) #[true, true, true, true, true, true, false, false, false] rfl rfl (by kernel_rfl) (by decide) (fun K hK => ?_)
          refine box_step (cs := #[.int .i64 0, .int .i64 0, .int .i64 0, .int .i64 0]) (t := 50) (by rfl) (N := 9) rfl (by first | (go_simp; done) | (go_simp; rfl)) ?_
          intro g9 e9 w_534 h9 hb9
          have HA_534 := Aside0.mk (AL.lay HA_53.out 9 e9 h9 hb9)
          clear e9 h9 hb9
          refine hK.out _ _ ⟨((blk_cell (blk_below HKd.out HA_534.out.below) 0).trans rfl), ((blk_cell (blk_below HKd.out HA_534.out.below) 1).trans rfl), ((blk_cell (blk_below HKd.out HA_534.out.below) 2).trans rfl), ((blk_cell (blk_below HKd.out HA_534.out.below) 3).trans rfl)⟩ (fun hHeld => ?_)
          clear hK K
          refine norm_ (a' := ?_) ?_ ?_
          rotate_left
          · show Act.put _ (some 9) _ = _
            simp only [Act.put, List.setIfInBounds_toArray, List.set_cons_zero, List.set_cons_succ, i64_w, i32_w]
            rfl
          exact norm_ (by simp only [putAll, Act.put, List.setIfInBounds_toArray, List.set_cons_zero, List.set_cons_succ]) (hCont (g8, g9, g10) _ ⟨_, HA_534.out, rfl, rfl, rfl⟩)
        · skip
          refine box_step (cs := #[.int .i64 0, .int .i64 0, .int .i64 0, .int .i64 0]) (t := 50) (by rfl) (N := 9) rfl (by first | (go_simp; done) | (go_simp; rfl)) ?_
          intro g9 e9 w_54 h9 hb9
          have HA_54 := Aside0.mk (AL.lay HA_5.out 9 e9 h9 hb9)
          clear e9 h9 hb9
          refine hK.out _ _ ⟨((blk_cell (blk_below HKd.out HA_54.out.below) 0).trans rfl), ((blk_cell (blk_below HKd.out HA_54.out.below) 1).trans rfl), ((blk_cell (blk_below HKd.out HA_54.out.below) 2).trans rfl), ((blk_cell (blk_below HKd.out HA_54.out.below) 3).trans rfl)⟩ (fun hHeld => ?_)
          clear hK K
          refine norm_ (a' := ?_) ?_ ?_
          rotate_left
          · show Act.put _ (some 9) _ = _
            simp only [Act.put, List.setIfInBounds_toArray, List.set_cons_zero, List.set_cons_succ, i64_w, i32_w]
            rfl
          refine one_ (i := 3) (N := some 8) #[true, true, true, true, true, true, false, false, false] rfl rfl (by kernel_rfl) (by decide) (fun K hK => ?_)
          refine box_step (cs := #[.int .i64 0, .int .i64 0, .int .i64 0, .int .i64 0]) (t := 50) (by rfl) (N := 8) rfl (by first | (go_simp; done) | (go_simp; rfl)) ?_
          intro g8 e8 w_543 h8 hb8
          have HA_543 := Aside0.mk (AL.lay HA_54.out 8 e8 h8 hb8)
          clear e8 h8 hb8
          refine hK.out _ _ ⟨((blk_cell (blk_below HKd.out HA_543.out.below) 0).trans rfl), ((blk_cell (blk_below HKd.out HA_543.out.below) 1).trans rfl), ((blk_cell (blk_below HKd.out HA_543.out.below) 2).trans rfl), ((blk_cell (blk_below HKd.out HA_543.out.below) 3).trans rfl)⟩ (fun hHeld => ?_)
          clear hK K
          refine norm_ (a' := ?_) ?_ ?_
          rotate_left
          · show Act.put _ (some 8) _ = _
            simp only [Act.put, List.setIfInBounds_toArray, List.set_cons_zero, List.set_cons_succ, i64_w, i32_w]
            rfl
          exact norm_ (by simp only [putAll, Act.put, List.setIfInBounds_toArray, List.set_cons_zero, List.set_cons_succ]) (hCont (g8, g9, g10) _ ⟨_, HA_543.out, rfl, rfl, rfl⟩)
    rintro ⟨g8, g9, g10⟩ w4 ⟨st, h3, e8, e9, e10⟩
    have HT := Aside0.mk h3
    have HE := Aside0.mk (And.intro e8 (And.intro e9 e10))
    clear h3 e8 e9 e10
    have hHeld := And.intro ((blk_cell (blk_below HKd.out HT.out.below) 0).trans (rfl : _ = some (Value.int .i64 (bx : Int)))) (And.intro ((blk_cell (blk_below HKd.out HT.out.below) 1).trans (rfl : _ = some (Value.int .i64 (bY : Int)))) (And.intro ((blk_cell (blk_below HKd.out HT.out.below) 2).trans (rfl : _ = some (Value.int .i64 (bw : Int)))) ((blk_cell (blk_below HKd.out HT.out.below) 3).trans (rfl : _ = some (Value.int .i64 (bh : Int))))))
    refine norm_ (a' := ?_) ?_ ?_
    rotate_left
    · simp only [putAll, Act.put, List.setIfInBounds_toArray, List.set_cons_zero, List.set_cons_succ]
      rfl
    refine one_ (i := 6) (N := none) #[true, true, true, true, true, true, true, false, false] rfl rfl (by kernel_rfl) (by decide) (fun K hK => ?_)
    obtain ⟨⟨z0, z1, z2, z3⟩, y0, y1, y2, y3⟩ := AL.thaw HT.out 8 (g := g8) (HE.out.1)
    refine skip_ (w1 := ?_) (by rfl) rfl ?_ ?_
    rotate_left
    · go_simp
      rfl
    obtain ⟨w6, hw⟩ : ∃ w, w = (((w4.setCell ⟨g8, 0, none⟩ (.int .i64 bx)).setCell ⟨g8, 1, none⟩ (.int .i64 bY)).setCell ⟨g8, 2, none⟩ (.int .i64 bw)).setCell ⟨g8, 3, none⟩ (.int .i64 bh) := ⟨_, rfl⟩
    rw [← hw]
    have HT6 := Aside0.mk (show AL wd w6 ⟨bx, bY, bw, bh⟩ (put st 8 (g8, true)) from by rw [hw]; exact AL.fill HT.out 8 (HE.out.1))
    clear hw z0 z1 z2 z3 y0 y1 y2 y3
    refine hK.out _ _ ⟨((blk_cell (blk_below HKd.out HT6.out.below) 0).trans (rfl : _ = some (Value.int .i64 (bx : Int)))), ((blk_cell (blk_below HKd.out HT6.out.below) 1).trans (rfl : _ = some (Value.int .i64 (bY : Int)))), ((blk_cell (blk_below HKd.out HT6.out.below) 2).trans (rfl : _ = some (Value.int .i64 (bw : Int)))), ((blk_cell (blk_below HKd.out HT6.out.below) 3).trans (rfl : _ = some (Value.int .i64 (bh : Int))))⟩ (fun hHeld => ?_)
    clear hK K
    refine one_ (i := 7) (N := none) #[true, true, true, true, true, true, true, true, false] rfl rfl (by kernel_rfl) (by decide) (fun K hK => ?_)
    obtain ⟨⟨z0, z1, z2, z3⟩, y0, y1, y2, y3⟩ := AL.thaw HT6.out 9 (g := g9) (HE.out.2.1)
    refine skip_ (w1 := ?_) (by rfl) rfl ?_ ?_
    rotate_left
    · go_simp
      rfl
    obtain ⟨w7, hw⟩ : ∃ w, w = (((w6.setCell ⟨g9, 0, none⟩ (.int .i64 bx)).setCell ⟨g9, 1, none⟩ (.int .i64 bY)).setCell ⟨g9, 2, none⟩ (.int .i64 bw)).setCell ⟨g9, 3, none⟩ (.int .i64 bh) := ⟨_, rfl⟩
    rw [← hw]
    have HT7 := Aside0.mk (show AL wd w7 ⟨bx, bY, bw, bh⟩ (put (put st 8 (g8, true)) 9 (g9, true)) from by rw [hw]; exact AL.fill HT6.out 9 (HE.out.2.1))
    clear hw z0 z1 z2 z3 y0 y1 y2 y3
    refine hK.out _ _ ⟨((blk_cell (blk_below HKd.out HT7.out.below) 0).trans (rfl : _ = some (Value.int .i64 (bx : Int)))), ((blk_cell (blk_below HKd.out HT7.out.below) 1).trans (rfl : _ = some (Value.int .i64 (bY : Int)))), ((blk_cell (blk_below HKd.out HT7.out.below) 2).trans (rfl : _ = some (Value.int .i64 (bw : Int)))), ((blk_cell (blk_below HKd.out HT7.out.below) 3).trans (rfl : _ = some (Value.int .i64 (bh : Int))))⟩ (fun hHeld => ?_)
    clear hK K
    refine one_ (i := 8) (N := none) #[true, true, true, true, true, true, true, true, true] rfl rfl (by kernel_rfl) (by decide) (fun K hK => ?_)
    obtain ⟨⟨z0, z1, z2, z3⟩, y0, y1, y2, y3⟩ := AL.thaw HT7.out 10 (g := g10) (HE.out.2.2)
    refine skip_ (w1 := ?_) (by rfl) rfl ?_ ?_
    rotate_left
    · go_simp
      rfl
    obtain ⟨w8, hw⟩ : ∃ w, w = (((w7.setCell ⟨g10, 0, none⟩ (.int .i64 bx)).setCell ⟨g10, 1, none⟩ (.int .i64 bY)).setCell ⟨g10, 2, none⟩ (.int .i64 bw)).setCell ⟨g10, 3, none⟩ (.int .i64 bh) := ⟨_, rfl⟩
    rw [← hw]
    have HT8 := Aside0.mk (show AL wd w8 ⟨bx, bY, bw, bh⟩ (put (put (put st 8 (g8, true)) 9 (g9, true)) 10 (g10, true)) from by rw [hw]; exact AL.fill HT7.out 10 (HE.out.2.2))
    clear hw z0 z1 z2 z3 y0 y1 y2 y3
    refine hK.out _ _ ⟨((blk_cell (blk_below HKd.out HT8.out.below) 0).trans (rfl : _ = some (Value.int .i64 (bx : Int)))), ((blk_cell (blk_below HKd.out HT8.out.below) 1).trans (rfl : _ = some (Value.int .i64 (bY : Int)))), ((blk_cell (blk_below HKd.out HT8.out.below) 2).trans (rfl : _ = some (Value.int .i64 (bw : Int)))), ((blk_cell (blk_below HKd.out HT8.out.below) 3).trans (rfl : _ = some (Value.int .i64 (bh : Int))))⟩ (fun hHeld => ?_)
    clear hK K
    refine done_ (by kernel_rfl) ?_
    have HT3 := Aside0.mk (AL.three HT8.out (x := g8) (y := g9) (z := g10) rfl rfl rfl)
    have HGd8 := Aside0.mk (blk_below HGd.out HT8.out.below)
    have x1 := (blk_cell HGd8.out 1).trans (rfl : _ = some (Value.bool xf))
    clear r0 r1 r2 r3 hHeld
    go_upto_if 31 with fail
    clear x1
    obtain ⟨fst, hfst⟩ : ∃ z, z = firstB xf ⟨bx, bY, bw, bh⟩ := ⟨_, rfl⟩
    obtain ⟨lin, hlin⟩ : ∃ z, z = lineB xf ⟨bx, bY, bw, bh⟩ := ⟨_, rfl⟩
    obtain ⟨snd, hsnd⟩ : ∃ z, z = secondB xf ⟨bx, bY, bw, bh⟩ := ⟨_, rfl⟩
    have HFST := Aside0.mk hfst
    have HLIN := Aside0.mk hlin
    have HSND := Aside0.mk hsnd
    clear hfst hlin hsnd
    go_cut [] (fun W2 => Aside0 (BB W2 g8 fst ∧ BB W2 g9 lin ∧ BB W2 g10 snd) ∧ Aside0 (Below wd.heap.size wd W2))
    case first =>
      have hfit := HFIT.out
      unfold fits at hfit
      dsimp only at hfit
      have HW8 := Aside0.mk (show w8 = w8 from rfl)
      have h8 : w8.heap[g8]? = some (.cells #[.int .i64 bx, .int .i64 bY, .int .i64 bw, .int .i64 bh] 50 (0, 0)) := HT3.out.fa
      have h9 : w8.heap[g9]? = some (.cells #[.int .i64 bx, .int .i64 bY, .int .i64 bw, .int .i64 bh] 50 (0, 0)) := HT3.out.fb
      have h10 : w8.heap[g10]? = some (.cells #[.int .i64 bx, .int .i64 bY, .int .i64 bw, .int .i64 bh] 50 (0, 0)) := HT3.out.fc
      have h5 : w8.heap[b5]? = some (.cells #[.int .i64 bx, .int .i64 bY, .int .i64 bw, .int .i64 bh] 50 (0, 0)) := blk_below HKd.out HT8.out.below
      have H8 := Aside0.mk h8
      have H9 := Aside0.mk h9
      have H10 := Aside0.mk h10
      have k5 := blk_lt HKd.out
      have l8 := HT3.out.la
      have l9 := HT3.out.lb
      have l10 := HT3.out.lc
      have n89 : g8 ≠ g9 := HT3.out.ab
      have n810 : g8 ≠ g10 := HT3.out.ac
      have n910 : g9 ≠ g10 := HT3.out.bc
      have n98 := Ne.symm n89
      have n108 := Ne.symm n810
      have n109 := Ne.symm n910
      dsimp only at l8 l9 l10
      have n58 : b5 ≠ g8 := by omega
      have n59 : b5 ≠ g9 := by omega
      have n510 : b5 ≠ g10 := by omega
      have N := Aside0.mk (And.intro n89 (And.intro n810 (And.intro n910 (And.intro n98 (And.intro n108 n109)))))
      have BL := Aside0.mk (And.intro l8 (And.intro l9 l10))
      clear k5 l8 l9 l10
      have c5_0 := (blk_cell h5 0).trans (rfl : _ = some (Value.int .i64 (bx : Int)))
      have c5_1 := (blk_cell h5 1).trans (rfl : _ = some (Value.int .i64 (bY : Int)))
      have c5_2 := (blk_cell h5 2).trans (rfl : _ = some (Value.int .i64 (bw : Int)))
      have c5_3 := (blk_cell h5 3).trans (rfl : _ = some (Value.int .i64 (bh : Int)))
      have c8_0 := (blk_cell h8 0).trans (rfl : _ = some (Value.int .i64 (bx : Int)))
      have c8_1 := (blk_cell h8 1).trans (rfl : _ = some (Value.int .i64 (bY : Int)))
      have c8_2 := (blk_cell h8 2).trans (rfl : _ = some (Value.int .i64 (bw : Int)))
      have c8_3 := (blk_cell h8 3).trans (rfl : _ = some (Value.int .i64 (bh : Int)))
      have c9_0 := (blk_cell h9 0).trans (rfl : _ = some (Value.int .i64 (bx : Int)))
      have c9_1 := (blk_cell h9 1).trans (rfl : _ = some (Value.int .i64 (bY : Int)))
      have c9_2 := (blk_cell h9 2).trans (rfl : _ = some (Value.int .i64 (bw : Int)))
      have c9_3 := (blk_cell h9 3).trans (rfl : _ = some (Value.int .i64 (bh : Int)))
      have c10_0 := (blk_cell h10 0).trans (rfl : _ = some (Value.int .i64 (bx : Int)))
      have c10_1 := (blk_cell h10 1).trans (rfl : _ = some (Value.int .i64 (bY : Int)))
      have c10_2 := (blk_cell h10 2).trans (rfl : _ = some (Value.int .i64 (bw : Int)))
      have c10_3 := (blk_cell h10 3).trans (rfl : _ = some (Value.int .i64 (bh : Int)))
      have f8_0 := blk_frozen h8 0
      have f8_1 := blk_frozen h8 1
      have f8_2 := blk_frozen h8 2
      have f8_3 := blk_frozen h8 3
      have f9_0 := blk_frozen h9 0
      have f9_1 := blk_frozen h9 1
      have f9_2 := blk_frozen h9 2
      have f9_3 := blk_frozen h9 3
      have f10_0 := blk_frozen h10 0
      have f10_1 := blk_frozen h10 1
      have f10_2 := blk_frozen h10 2
      have f10_3 := blk_frozen h10 3
      clear h5 h8 h9 h10
      have hfl := HFL.out
      subst hfl
      rcases Nat.lt_or_ge bw 1 with hv | hv
      · have hz : bw = 0 := by omega
        have HE1 := Aside0.mk (show fst = (⟨bx, bY, 0, bh⟩ : BX) from by rw [HFST.out, hz]; simp [firstB])
        have HE2 := Aside0.mk (show lin = (⟨bx, bY, 0, bh⟩ : BX) from by rw [HLIN.out, hz]; simp [lineB])
        have HE3 := Aside0.mk (show snd = (⟨bx, bY, bw, bh⟩ : BX) from by rw [HSND.out, hz]; simp [secondB])
        have b1 : (bx : Int) + 1 ≤ 100 := by omega
        have b2 : (bw : Int) ≤ 100 := by omega
        have t0 : ((bw : Int) == 0) = true := by rw [hz]; rfl
        have t1 : decide ((1 : Int) < (bw : Int)) = false := by rw [hz]; rfl
        have b3 : ¬ ((1 : Int) < (bw : Int)) := by omega
        clear hz
        clear hv hfit
        go_upto_if 85 with fail
        obtain ⟨wn, hwn⟩ : ∃ wn, wn = (((w8.setCell ⟨g8, 2, none⟩ (.int .i64 0)).setCell ⟨g9, 0, none⟩ (.int .i64 bx)).setCell ⟨g9, 2, none⟩ (.int .i64 1)) := ⟨_, rfl⟩
        rw [← hwn]
        have G8 : wn.heap[g8]? = some (.cells #[.int .i64 bx, .int .i64 bY, .int .i64 0, .int .i64 bh] 50 (0, 0)) := by rw [hwn]; exact blk_far (blk_far (blk_put H8.out 2 _ rfl) N.out.1 _) N.out.1 _
        have G9 : wn.heap[g9]? = some (.cells #[.int .i64 bx, .int .i64 bY, .int .i64 1, .int .i64 bh] 50 (0, 0)) := by rw [hwn]; exact blk_put (blk_put (blk_far H9.out N.out.2.2.2.1 _) 0 _ rfl) 2 _ rfl
        have G10 : wn.heap[g10]? = some (.cells #[.int .i64 bx, .int .i64 bY, .int .i64 bw, .int .i64 bh] 50 (0, 0)) := by rw [hwn]; exact blk_far (blk_far (blk_far H10.out N.out.2.2.2.2.1 _) N.out.2.2.2.2.2 _) N.out.2.2.2.2.2 _
        have G5 : wn.heap[b5]? = some (.cells #[.int .i64 bx, .int .i64 bY, .int .i64 bw, .int .i64 bh] 50 (0, 0)) := by rw [hwn]; exact blk_far (blk_far (blk_far (blk_below HKd.out HT8.out.below) n58 _) n59 _) n59 _
        have GB := Aside0.mk (show Below wd.heap.size wd wn from by rw [hwn]; exact Below.setCell (Below.setCell (Below.setCell HT8.out.below BL.out.1 _) BL.out.2.1 _) BL.out.2.1 _)
        clear hwn c5_0 c5_1 c5_2 c5_3 c8_0 c8_1 c8_2 c8_3 c9_0 c9_1 c9_2 c9_3 c10_0 c10_1 c10_2 c10_3 f8_0 f8_1 f8_2 f8_3 f9_0 f9_1 f9_2 f9_3 f10_0 f10_1 f10_2 f10_3
        have d5 := (blk_cell G5 2).trans (rfl : _ = some (Value.int .i64 (bw : Int)))
        have d8 := (blk_cell G8 2).trans (rfl : _ = some (Value.int .i64 0))
        have d9 := (blk_cell G9 0).trans (rfl : _ = some (Value.int .i64 (bx : Int)))
        have e9 := (blk_cell G9 2).trans (rfl : _ = some (Value.int .i64 1))
        have d10 := (blk_cell G10 0).trans (rfl : _ = some (Value.int .i64 (bx : Int)))
        have e10 := (blk_cell G10 2).trans (rfl : _ = some (Value.int .i64 (bw : Int)))
        have x9 := blk_frozen G9 2
        have x10 := blk_frozen G10 0
        have y10 := blk_frozen G10 2
        have GG := Aside0.mk (And.intro G8 (And.intro G9 G10))
        have GG5 := Aside0.mk G5
        clear G5 G8 G9 G10
        go_upto_region 23 with fail
        obtain ⟨w13, hw13⟩ : ∃ w13, w13 = (wn.setCell ⟨g9, 2, none⟩ (.int .i64 0)).setCell ⟨g10, 0, none⟩ (.int .i64 bx) := ⟨_, rfl⟩
        rw [← hw13]
        have G8 : w13.heap[g8]? = some (.cells #[.int .i64 bx, .int .i64 bY, .int .i64 0, .int .i64 bh] 50 (0, 0)) := by rw [hw13]; exact blk_far (blk_far GG.out.1 N.out.1 _) N.out.2.1 _
        have G9 : w13.heap[g9]? = some (.cells #[.int .i64 bx, .int .i64 bY, .int .i64 0, .int .i64 bh] 50 (0, 0)) := by rw [hw13]; exact blk_far (blk_put GG.out.2.1 2 _ rfl) N.out.2.2.1 _
        have G10 : w13.heap[g10]? = some (.cells #[.int .i64 bx, .int .i64 bY, .int .i64 bw, .int .i64 bh] 50 (0, 0)) := by rw [hw13]; exact blk_put (blk_far GG.out.2.2 N.out.2.2.2.2.2 _) 0 _ rfl
        have G5 : w13.heap[b5]? = some (.cells #[.int .i64 bx, .int .i64 bY, .int .i64 bw, .int .i64 bh] 50 (0, 0)) := by rw [hw13]; exact blk_far (blk_far GG5.out n59 _) n510 _
        have GB3 := Aside0.mk (show Below wd.heap.size wd w13 from by rw [hw13]; exact Below.setCell (Below.setCell GB.out BL.out.2.1 _) BL.out.2.2 _)
        clear hw13 d5 d8 d9 e9 d10 e10 x9 x10 y10 t0 t1 b3 b1
        have p8 := (blk_cell G8 2).trans (rfl : _ = some (Value.int .i64 0))
        have p9 := (blk_cell G9 2).trans (rfl : _ = some (Value.int .i64 0))
        have p10 := (blk_cell G10 2).trans (rfl : _ = some (Value.int .i64 (bw : Int)))
        have p5 := (blk_cell G5 2).trans (rfl : _ = some (Value.int .i64 (bw : Int)))
        have y9 := blk_frozen G10 2
        have G3 := Aside0.mk (And.intro G8 (And.intro G9 G10))
        clear G5 G8 G9 G10
        go_wp2_with fail
        go_meet
        case rel =>
          refine ⟨⟨?_, ?_, ?_⟩, ⟨Below.setCell GB3.out BL.out.2.2 _⟩⟩
          · rw [HE1.out]; exact blk_far G3.out.1 N.out.2.1 _
          · rw [HE2.out]; exact blk_far G3.out.2.1 N.out.2.2.1 _
          · rw [HE3.out]; exact blk_put G3.out.2.2 2 _ rfl
      rcases Nat.lt_or_ge bw 2 with hv2 | hv2
      · obtain rfl : bw = 1 := by omega
        have hz : (((1 : Nat) : Int)) = 1 := rfl
        rw [hz] at c5_2 c8_2 c9_2 c10_2
        clear hz
        have HE1 := Aside0.mk (show fst = (⟨bx, bY, 0, bh⟩ : BX) from by rw [HFST.out]; simp [firstB])
        have HE2 := Aside0.mk (show lin = (⟨bx, bY, 1, bh⟩ : BX) from by rw [HLIN.out]; simp [lineB])
        have HE3 := Aside0.mk (show snd = (⟨bx + 1, bY, 0, bh⟩ : BX) from by rw [HSND.out]; simp [secondB])
        have b1 : (bx : Int) + 1 ≤ 100 := by omega
        clear hv hfit hv2
        go_wp2_with fail
        go_meet
        case rel =>
          refine ⟨⟨?_, ?_, ?_⟩, ⟨Below.setCell (Below.setCell (Below.setCell (Below.setCell (Below.setCell (HT8.out.below) BL.out.1 _) BL.out.2.1 _) BL.out.2.1 _) BL.out.2.2 _) BL.out.2.2 _⟩⟩
          · rw [HE1.out]; exact blk_far (blk_far (blk_far (blk_far (blk_put (H8.out) 2 _ rfl) N.out.1 _) N.out.1 _) N.out.2.1 _) N.out.2.1 _
          · rw [HE2.out]; exact blk_far (blk_far (blk_put (blk_put (blk_far (H9.out) N.out.2.2.2.1 _) 0 _ rfl) 2 _ rfl) N.out.2.2.1 _) N.out.2.2.1 _
          · rw [HE3.out]; exact blk_put (blk_put (blk_far (blk_far (blk_far (H10.out) N.out.2.2.2.2.1 _) N.out.2.2.2.2.2 _) N.out.2.2.2.2.2 _) 0 _ rfl) 2 _ rfl
      · skip
        obtain ⟨n1, hn1⟩ : ∃ n1, n1 = (bw - 1) / 2 := ⟨_, rfl⟩
        obtain ⟨n4, hn4⟩ : ∃ n4, n4 = bx + n1 := ⟨_, rfl⟩
        obtain ⟨n5, hn5⟩ : ∃ n5, n5 = n4 + 1 := ⟨_, rfl⟩
        obtain ⟨n6, hn6⟩ : ∃ n6, n6 = bw - n1 := ⟨_, rfl⟩
        obtain ⟨n7, hn7⟩ : ∃ n7, n7 = n6 - 1 := ⟨_, rfl⟩
        have HE1 := Aside0.mk (show fst = (⟨bx, bY, n1, bh⟩ : BX) from by rw [HFST.out]; simp [firstB, hn1])
        have HE2 := Aside0.mk (show lin = (⟨n4, bY, 1, bh⟩ : BX) from by rw [HLIN.out]; simp [lineB, hn1, hn4]; omega)
        have HE3 := Aside0.mk (show snd = (⟨n5, bY, n7, bh⟩ : BX) from by rw [HSND.out]; simp [secondB, hn1, hn4, hn5, hn6, hn7]; omega)
        have q1 : ((bw : Int) - 1) / 2 = (n1 : Int) := by omega
        have q2 : (bx : Int) + (n1 : Int) = (n4 : Int) := by omega
        have q3 : (n4 : Int) + 1 = (n5 : Int) := by omega
        have q4 : (bw : Int) - (n1 : Int) = (n6 : Int) := by omega
        have q5 : (n6 : Int) - 1 = (n7 : Int) := by omega
        have b0 : (1 : Int) < (bw : Int) := by omega
        have b1 : (bw : Int) ≤ 60 := by omega
        have b2 : (bx : Int) + (n1 : Int) ≤ 60 := by omega
        have b3 : (n4 : Int) + 1 ≤ 60 := by omega
        have b4 : 0 ≤ (bw : Int) - (n1 : Int) := by omega
        have b5 : 0 ≤ (n6 : Int) - 1 := by omega
        have b6 : (n4 : Int) ≤ 60 := by omega
        have b7 : (n6 : Int) ≤ 60 := by omega
        have b8 : (1 : Int) ≤ (bw : Int) := by omega
        have b9 : (0 : Int) ≤ (bw : Int) - 1 := by omega
        have t0 : ((bw : Int) == 0) = false := beq_eq_false_iff_ne.mpr (by omega)
        have t1 : decide ((1 : Int) < (bw : Int)) = true := decide_eq_true b0
        clear hn1 hn4 hn5 hn6 hn7 hv hv2 hfit
        go_wp2_with fail
        go_meet
        case rel =>
          refine ⟨⟨?_, ?_, ?_⟩, ⟨Below.setCell (Below.setCell (Below.setCell (Below.setCell (Below.setCell (Below.setCell (HT8.out.below) BL.out.1 _) BL.out.1 _) BL.out.2.1 _) BL.out.2.1 _) BL.out.2.2 _) BL.out.2.2 _⟩⟩
          · rw [HE1.out]; exact blk_far (blk_far (blk_far (blk_far (blk_put (blk_put (H8.out) 2 _ rfl) 2 _ rfl) N.out.1 _) N.out.1 _) N.out.2.1 _) N.out.2.1 _
          · rw [HE2.out]; exact blk_far (blk_far (blk_put (blk_put (blk_far (blk_far (H9.out) N.out.2.2.2.1 _) N.out.2.2.2.1 _) 0 _ rfl) 2 _ rfl) N.out.2.2.1 _) N.out.2.2.1 _
          · rw [HE3.out]; exact blk_put (blk_put (blk_far (blk_far (blk_far (blk_far (H10.out) N.out.2.2.2.2.1 _) N.out.2.2.2.2.1 _) N.out.2.2.2.2.2 _) N.out.2.2.2.2.2 _) 0 _ rfl) 2 _ rfl
    case rest =>
      obtain ⟨⟨hc8, hc9, hc10⟩, HCB⟩ := hcut
      have HFA := Aside0.mk (fits_first (f := xf) HFIT.out)
      have HFB := Aside0.mk (fits_second (f := xf) HFIT.out)
      rw [← HFST.out] at HFA HLA
      rw [← HSND.out] at HFB HLB
      clear HFST HSND HT HE HT6 HT7 HT8 HT3 HA_ HGd8 HKd HWD HFIT
      obtain ⟨f0, f1, f2, f3⟩ := fst
      obtain ⟨q0, q1, q2, q3⟩ := lin
      obtain ⟨s0, s1, s2, s3⟩ := snd
      have HWC := Aside0.mk (show Below wa.heap.size wa wc from below_then HBD.out HBD.out.size HCB.out)
      have HKEEP := Aside0.mk (show ∀ W2, Below wc.heap.size wc W2 → W2.heap[gx]? = some (.cells #[.int .i64 xp, .bool xf, .int .i64 ra, .int .i64 rb] 67 (0, 0)) ∧ W2.heap[g8]? = some (.cells #[.int .i64 f0, .int .i64 f1, .int .i64 f2, .int .i64 f3] 50 (0, 0)) ∧ W2.heap[g9]? = some (.cells #[.int .i64 q0, .int .i64 q1, .int .i64 q2, .int .i64 q3] 50 (0, 0)) ∧ W2.heap[g10]? = some (.cells #[.int .i64 s0, .int .i64 s1, .int .i64 s2, .int .i64 s3] 50 (0, 0)) from fun W2 hb => ⟨blk_below (blk_below HGd.out HCB.out) hb, blk_below hc8 hb, blk_below hc9 hb, blk_below hc10 hb⟩)
      clear hc8 hc9 hc10
      go_upto_region 24 with fail
      have HDC := Aside0.mk (show Below wc.heap.size wc wc.drew from below_drew (Below.refl _ _))
      refine start_ (n := 10) (S := fun w' => w'.cell? ⟨gx, 2, none⟩ = some (.int .i64 ra) ∧ w'.cell? ⟨g8, 0, none⟩ = some (.int .i64 (f0 : Int)) ∧ w'.cell? ⟨g8, 1, none⟩ = some (.int .i64 (f1 : Int)) ∧ w'.cell? ⟨g8, 2, none⟩ = some (.int .i64 (f2 : Int)) ∧ w'.cell? ⟨g8, 3, none⟩ = some (.int .i64 (f3 : Int)) ∧ w'.cell? ⟨g9, 0, none⟩ = some (.int .i64 (q0 : Int)) ∧ w'.cell? ⟨g9, 1, none⟩ = some (.int .i64 (q1 : Int)) ∧ w'.cell? ⟨g9, 2, none⟩ = some (.int .i64 (q2 : Int)) ∧ w'.cell? ⟨g9, 3, none⟩ = some (.int .i64 (q3 : Int))) (ds := [8]) #[false, false, false, false, false, false, false, false, false, false] (by kernel_rfl) rfl rfl ⟨((blk_cell (HKEEP.out _ HDC.out).1 2).trans rfl), ((blk_cell (HKEEP.out _ HDC.out).2.1 0).trans rfl), ((blk_cell (HKEEP.out _ HDC.out).2.1 1).trans rfl), ((blk_cell (HKEEP.out _ HDC.out).2.1 2).trans rfl), ((blk_cell (HKEEP.out _ HDC.out).2.1 3).trans rfl), ((blk_cell (HKEEP.out _ HDC.out).2.2.1 0).trans rfl), ((blk_cell (HKEEP.out _ HDC.out).2.2.1 1).trans rfl), ((blk_cell (HKEEP.out _ HDC.out).2.2.1 2).trans rfl), ((blk_cell (HKEEP.out _ HDC.out).2.2.1 3).trans rfl)⟩ (fun hHeld => ?_)
      refine pure_ (i := 0) (N := some 102) (v := ?_) (a' := ?_) #[true, false, false, false, false, false, false, false, false, false] rfl rfl (by kernel_rfl) (fun _ _ _ h => h) (Or.inl ⟨by rfl, ?_⟩) ?_ ?_
      rotate_left
      · intro w'
        go_simp
        with_reducible rfl
      rotate_left
      · simp only [Act.put, List.setIfInBounds_toArray, List.set_cons_zero, List.set_cons_succ, i64_w, i32_w]
        rfl
      refine pure_ (i := 1) (N := some 103) (v := ?_) (a' := ?_) #[true, true, false, false, false, false, false, false, false, false] rfl rfl (by kernel_rfl) (fun _ _ _ h => h) (Or.inl ⟨by rfl, ?_⟩) ?_ ?_
      rotate_left
      · intro w'
        go_simp
        with_reducible rfl
      rotate_left
      · simp only [Act.put, List.setIfInBounds_toArray, List.set_cons_zero, List.set_cons_succ, i64_w, i32_w]
        rfl
      refine take_ (i := 2) (N := some 104) (v := ?_) (a' := ?_) #[true, true, true, false, false, false, false, false, false, false] rfl rfl (by kernel_rfl) (fun _ _ _ h => h) (Or.inl ⟨by rfl, ?_⟩) hHeld ?_ ?_
      rotate_left
      · rintro w' ⟨s0, s1, s2, s3, s4, s5, s6, s7, s8⟩
        go_simp
        with_reducible rfl
      rotate_left
      · simp only [Act.put, List.setIfInBounds_toArray, List.set_cons_zero, List.set_cons_succ, i64_w, i32_w]
        rfl
      refine take_ (i := 3) (N := some 105) (v := ?_) (a' := ?_) #[true, true, true, true, false, false, false, false, false, false] rfl rfl (by kernel_rfl) (fun _ _ _ h => h) (Or.inl ⟨by rfl, ?_⟩) hHeld ?_ ?_
      rotate_left
      · rintro w' ⟨s0, s1, s2, s3, s4, s5, s6, s7, s8⟩
        go_simp
        with_reducible rfl
      rotate_left
      · simp only [Act.put, List.setIfInBounds_toArray, List.set_cons_zero, List.set_cons_succ, i64_w, i32_w]
        rfl
      refine take_ (i := 5) (N := some 107) (v := ?_) (a' := ?_) #[true, true, true, true, false, true, false, false, false, false] rfl rfl (by kernel_rfl) (fun _ _ _ h => h) (Or.inl ⟨by rfl, ?_⟩) hHeld ?_ ?_
      rotate_left
      · rintro w' ⟨s0, s1, s2, s3, s4, s5, s6, s7, s8⟩
        go_simp
        with_reducible rfl
      rotate_left
      · simp only [Act.put, List.setIfInBounds_toArray, List.set_cons_zero, List.set_cons_succ, i64_w, i32_w]
        rfl
      refine pure_ (i := 6) (N := some 108) (v := ?_) (a' := ?_) #[true, true, true, true, false, true, true, false, false, false] rfl rfl (by kernel_rfl) (fun _ _ _ h => h) (Or.inl ⟨by rfl, ?_⟩) ?_ ?_
      rotate_left
      · intro w'
        go_simp
        with_reducible rfl
      rotate_left
      · simp only [Act.put, List.setIfInBounds_toArray, List.set_cons_zero, List.set_cons_succ, i64_w, i32_w]
        rfl
      refine join_ (σ := Value × Nat) 2 #[true, true, true, true, true, true, true, true, false, false] (fun s => [(106, s.1), (109, Value.slice (some ⟨s.2, 0, none⟩) 1 1)]) (fun s w' => Kd.R kP 52 w' wc.heap.size (fun _ => True) s.1 la ∧ Kd.R kP 52 w' wc.heap.size (fun _ => True) (.slice (some ⟨s.2, 0, none⟩) 1 1) [⟨0, true, ⟨q0, q1, q2, q3⟩⟩] ∧ Below wc.heap.size wc w') ?_ ?_
      rotate_left
      · intro hCont
        refine two_ (i := 4) (j := 7) (Ni := some 106) (Nj := some 109) #[true, true, true, true, true, true, true, false, false, false] #[true, true, true, true, false, true, true, true, false, false] rfl rfl rfl rfl (by kernel_rfl) (by decide) (by decide) (fun K hK => ?_) (fun K hK => ?_)
        · skip
          refine goes_ Try.func19 (by kernel_rfl) rfl #[.pointer (some ⟨m, 0, none⟩), .int .i64 ra, .agg #[.int .i64 f0, .int .i64 f1, .int .i64 f2, .int .i64 f3]] (by rfl) rfl rfl (by simp only [List.map_toArray, List.map_cons, List.map_nil]; rfl) ?_
          with_reducible refine (HA.out ⟨f0, f1, f2, f3⟩ _ HFA.out (HF.out.on (below_then HWC.out HWC.out.size HDC.out))).mono ?_
          rintro e wc1 ⟨v3, rfl, hv3, hb3⟩
          refine ⟨_, rfl, ?_⟩
          have HBc1 := Aside0.mk (below_then HDC.out HDC.out.size hb3)
          have HNc1 := Aside0.mk hb3
          have HVc1 := Aside0.mk (show Kd.R kP 52 wc1 wc.heap.size (fun _ => True) v3 la from by rw [HLA.out]; exact Kd.R_lower hv3 HDC.out.size)
          clear hv3 hb3
          refine hK.out _ _ ⟨((blk_cell (HKEEP.out _ HBc1.out).1 2).trans rfl), ((blk_cell (HKEEP.out _ HBc1.out).2.1 0).trans rfl), ((blk_cell (HKEEP.out _ HBc1.out).2.1 1).trans rfl), ((blk_cell (HKEEP.out _ HBc1.out).2.1 2).trans rfl), ((blk_cell (HKEEP.out _ HBc1.out).2.1 3).trans rfl), ((blk_cell (HKEEP.out _ HBc1.out).2.2.1 0).trans rfl), ((blk_cell (HKEEP.out _ HBc1.out).2.2.1 1).trans rfl), ((blk_cell (HKEEP.out _ HBc1.out).2.2.1 2).trans rfl), ((blk_cell (HKEEP.out _ HBc1.out).2.2.1 3).trans rfl)⟩ (fun hHeld => ?_)
          clear hK K
          refine norm_ (a' := ?_) ?_ ?_
          rotate_left
          · show Act.put _ (some 106) _ = _
            simp only [Act.put, List.setIfInBounds_toArray, List.set_cons_zero, List.set_cons_succ, i64_w, i32_w]
            rfl
          refine one_ (i := 7) (N := some 109) #[true, true, true, true, true, true, true, true, false, false] rfl rfl (by kernel_rfl) (by decide) (fun K hK => ?_)
          refine value_ (w1 := ?_) (v := ?_) (by rfl) rfl ?_ ?_
          rotate_left 2
          · go_simp
            constructor
            · rfl
            · rfl
          obtain ⟨wl2, hwl⟩ : ∃ w, w = wc1.alloc (.cells #[.int .i64 0, .bool true, .int .i64 q0, .int .i64 q1, .int .i64 q2, .int .i64 q3] 52) := ⟨_, rfl⟩
          have HBl2 := Aside0.mk (show Below wc.heap.size wc wl2 from by rw [hwl]; exact below_alloc HBc1.out _)
          have HNl2 := Aside0.mk (show Below wc1.heap.size wc1 wl2 from by rw [hwl]; exact below_alloc (Below.refl _ _) _)
          have HLl2 := Aside0.mk (show Kd.R kP 52 wl2 wc.heap.size (fun _ => True) (.slice (some ⟨wc1.heap.size, 0, none⟩) 1 1) [⟨0, true, ⟨q0, q1, q2, q3⟩⟩] from by rw [hwl]; exact lit_P wc1 wc.heap.size (fun _ => True) [⟨0, true, ⟨q0, q1, q2, q3⟩⟩] _ (Reps.c6 (kP_mkM wc1 _ _ ⟨0, true, ⟨q0, q1, q2, q3⟩⟩) (Reps.none _ _)) HBc1.out.size trivial (by simp))
          rw [← hwl]
          clear hwl
          refine hK.out _ _ ⟨((blk_cell (HKEEP.out _ HBl2.out).1 2).trans rfl), ((blk_cell (HKEEP.out _ HBl2.out).2.1 0).trans rfl), ((blk_cell (HKEEP.out _ HBl2.out).2.1 1).trans rfl), ((blk_cell (HKEEP.out _ HBl2.out).2.1 2).trans rfl), ((blk_cell (HKEEP.out _ HBl2.out).2.1 3).trans rfl), ((blk_cell (HKEEP.out _ HBl2.out).2.2.1 0).trans rfl), ((blk_cell (HKEEP.out _ HBl2.out).2.2.1 1).trans rfl), ((blk_cell (HKEEP.out _ HBl2.out).2.2.1 2).trans rfl), ((blk_cell (HKEEP.out _ HBl2.out).2.2.1 3).trans rfl)⟩ (fun hHeld => ?_)
          clear hK K
          refine norm_ (a' := ?_) ?_ ?_
          rotate_left
          · show Act.put _ (some 109) _ = _
            simp only [Act.put, List.setIfInBounds_toArray, List.set_cons_zero, List.set_cons_succ, i64_w, i32_w]
            rfl
          exact norm_ (by simp only [putAll, Act.put, List.setIfInBounds_toArray, List.set_cons_zero, List.set_cons_succ]) (hCont (v3, wc1.heap.size) _ ⟨Kd.R_below HVc1.out HNl2.out, HLl2.out, HBl2.out⟩)
        · skip
          refine value_ (w1 := ?_) (v := ?_) (by rfl) rfl ?_ ?_
          rotate_left 2
          · go_simp
            constructor
            · rfl
            · rfl
          obtain ⟨wl1, hwl⟩ : ∃ w, w = (wc.alloc (.cells #[.int .i64 0, .bool true, .int .i64 q0, .int .i64 q1, .int .i64 q2, .int .i64 q3] 52)).drew := ⟨_, rfl⟩
          have HBl1 := Aside0.mk (show Below wc.heap.size wc wl1 from by rw [hwl]; exact below_drew (below_alloc (Below.refl _ _) _))
          have HLl1 := Aside0.mk (show Kd.R kP 52 wl1 wc.heap.size (fun _ => True) (.slice (some ⟨wc.heap.size, 0, none⟩) 1 1) [⟨0, true, ⟨q0, q1, q2, q3⟩⟩] from by rw [hwl]; exact Kd.R_drew (lit_P wc wc.heap.size (fun _ => True) [⟨0, true, ⟨q0, q1, q2, q3⟩⟩] _ (Reps.c6 (kP_mkM wc _ _ ⟨0, true, ⟨q0, q1, q2, q3⟩⟩) (Reps.none _ _)) (Nat.le_refl _) trivial (by simp)))
          rw [← hwl]
          clear hwl
          refine hK.out _ _ ⟨((blk_cell (HKEEP.out _ HBl1.out).1 2).trans rfl), ((blk_cell (HKEEP.out _ HBl1.out).2.1 0).trans rfl), ((blk_cell (HKEEP.out _ HBl1.out).2.1 1).trans rfl), ((blk_cell (HKEEP.out _ HBl1.out).2.1 2).trans rfl), ((blk_cell (HKEEP.out _ HBl1.out).2.1 3).trans rfl), ((blk_cell (HKEEP.out _ HBl1.out).2.2.1 0).trans rfl), ((blk_cell (HKEEP.out _ HBl1.out).2.2.1 1).trans rfl), ((blk_cell (HKEEP.out _ HBl1.out).2.2.1 2).trans rfl), ((blk_cell (HKEEP.out _ HBl1.out).2.2.1 3).trans rfl)⟩ (fun hHeld => ?_)
          clear hK K
          refine norm_ (a' := ?_) ?_ ?_
          rotate_left
          · show Act.put _ (some 109) _ = _
            simp only [Act.put, List.setIfInBounds_toArray, List.set_cons_zero, List.set_cons_succ, i64_w, i32_w]
            rfl
          refine one_ (i := 4) (N := some 106) #[true, true, true, true, true, true, true, true, false, false] rfl rfl (by kernel_rfl) (by decide) (fun K hK => ?_)
          refine goes_ Try.func19 (by kernel_rfl) rfl #[.pointer (some ⟨m, 0, none⟩), .int .i64 ra, .agg #[.int .i64 f0, .int .i64 f1, .int .i64 f2, .int .i64 f3]] (by rfl) rfl rfl (by simp only [List.map_toArray, List.map_cons, List.map_nil]; rfl) ?_
          with_reducible refine (HA.out ⟨f0, f1, f2, f3⟩ _ HFA.out (HF.out.on (below_then HWC.out HWC.out.size HBl1.out))).mono ?_
          rintro e wc2 ⟨v3, rfl, hv3, hb3⟩
          refine ⟨_, rfl, ?_⟩
          have HBc2 := Aside0.mk (below_then HBl1.out HBl1.out.size hb3)
          have HNc2 := Aside0.mk hb3
          have HVc2 := Aside0.mk (show Kd.R kP 52 wc2 wc.heap.size (fun _ => True) v3 la from by rw [HLA.out]; exact Kd.R_lower hv3 HBl1.out.size)
          clear hv3 hb3
          refine hK.out _ _ ⟨((blk_cell (HKEEP.out _ HBc2.out).1 2).trans rfl), ((blk_cell (HKEEP.out _ HBc2.out).2.1 0).trans rfl), ((blk_cell (HKEEP.out _ HBc2.out).2.1 1).trans rfl), ((blk_cell (HKEEP.out _ HBc2.out).2.1 2).trans rfl), ((blk_cell (HKEEP.out _ HBc2.out).2.1 3).trans rfl), ((blk_cell (HKEEP.out _ HBc2.out).2.2.1 0).trans rfl), ((blk_cell (HKEEP.out _ HBc2.out).2.2.1 1).trans rfl), ((blk_cell (HKEEP.out _ HBc2.out).2.2.1 2).trans rfl), ((blk_cell (HKEEP.out _ HBc2.out).2.2.1 3).trans rfl)⟩ (fun hHeld => ?_)
          clear hK K
          refine norm_ (a' := ?_) ?_ ?_
          rotate_left
          · show Act.put _ (some 106) _ = _
            simp only [Act.put, List.setIfInBounds_toArray, List.set_cons_zero, List.set_cons_succ, i64_w, i32_w]
            rfl
          exact norm_ (by simp only [putAll, Act.put, List.setIfInBounds_toArray, List.set_cons_zero, List.set_cons_succ]) (hCont (v3, wc.heap.size) _ ⟨HVc2.out, Kd.R_below HLl1.out HNc2.out, HBc2.out⟩)
      rintro ⟨v4, gl⟩ w4 ⟨hv4, hl4, hb4⟩
      have HV4 := Aside0.mk hv4
      have HC4 := Aside0.mk (Kd.R_reads' hl4).2.2
      have HB4 := Aside0.mk hb4
      clear hv4 hl4 hb4
      have hHeld : w4.cell? ⟨gx, 2, none⟩ = some (.int .i64 ra) ∧ w4.cell? ⟨g8, 0, none⟩ = some (.int .i64 (f0 : Int)) ∧ w4.cell? ⟨g8, 1, none⟩ = some (.int .i64 (f1 : Int)) ∧ w4.cell? ⟨g8, 2, none⟩ = some (.int .i64 (f2 : Int)) ∧ w4.cell? ⟨g8, 3, none⟩ = some (.int .i64 (f3 : Int)) ∧ w4.cell? ⟨g9, 0, none⟩ = some (.int .i64 (q0 : Int)) ∧ w4.cell? ⟨g9, 1, none⟩ = some (.int .i64 (q1 : Int)) ∧ w4.cell? ⟨g9, 2, none⟩ = some (.int .i64 (q2 : Int)) ∧ w4.cell? ⟨g9, 3, none⟩ = some (.int .i64 (q3 : Int)) := ⟨((blk_cell (HKEEP.out _ HB4.out).1 2).trans rfl), ((blk_cell (HKEEP.out _ HB4.out).2.1 0).trans rfl), ((blk_cell (HKEEP.out _ HB4.out).2.1 1).trans rfl), ((blk_cell (HKEEP.out _ HB4.out).2.1 2).trans rfl), ((blk_cell (HKEEP.out _ HB4.out).2.1 3).trans rfl), ((blk_cell (HKEEP.out _ HB4.out).2.2.1 0).trans rfl), ((blk_cell (HKEEP.out _ HB4.out).2.2.1 1).trans rfl), ((blk_cell (HKEEP.out _ HB4.out).2.2.1 2).trans rfl), ((blk_cell (HKEEP.out _ HB4.out).2.2.1 3).trans rfl)⟩
      refine norm_ (a' := ?_) ?_ ?_
      rotate_left
      · simp only [putAll, Act.put, List.setIfInBounds_toArray, List.set_cons_zero, List.set_cons_succ]
        rfl
      refine last_ (i := 8) (N := some 110) #[true, true, true, true, true, true, true, true, true, false] rfl rfl (by kernel_rfl) (by decide) (fun K hK => ?_)
      refine Kd.R_append_rows_step kP (w0 := w4) wc.heap.size (by rfl) (.tmp 106) (.tmp 109) 47 52 (.agg #[.int .i64 0, .bool false, .int .i64 0, .int .i64 0, .int .i64 0, .int .i64 0]) 48 rfl Try.underlying47 info_P rfl (by decide) (by omega) v4 la [⟨0, true, ⟨q0, q1, q2, q3⟩⟩] (some ⟨gl, 0, none⟩) 1 1 (fun _ => True) (fun _ => False) rfl rfl HV4.out HC4.out ?aK (fun _ hk => hk.elim) ?aF (Below.refl _ _) HB4.out.size ?aL ?_; (case aK => exact fun x cs h => by rw [kP_open h]; exact kP_mkM _ _ _ x); (case aF => exact fun _ _ => trivial); (case aL => have := HLN.out; omega)
      intro v5 w5 ho hb hg hat
      have HO5 := Aside0.mk ho
      have HB5 := Aside0.mk hb
      have HG5 := Aside0.mk hg
      clear ho hb hg hat
      refine hK.out _ _ ?_
      clear hK K
      refine norm_ (a' := ?_) ?_ ?_
      rotate_left
      · show Act.put _ (some 110) _ = _
        simp only [Act.put, List.setIfInBounds_toArray, List.set_cons_zero, List.set_cons_succ, i64_w, i32_w]
        rfl
      refine pure_ (i := 9) (N := some 11) (v := ?_) (a' := ?_) #[true, true, true, true, true, true, true, true, true, true] rfl rfl (by kernel_rfl) (fun _ _ _ h => h) (Or.inl ⟨by rfl, ?_⟩) ?_ ?_
      rotate_left
      · intro w'
        go_simp
        with_reducible rfl
      rotate_left
      · simp only [Act.put, List.setIfInBounds_toArray, List.set_cons_zero, List.set_cons_succ, i64_w, i32_w]
        rfl
      refine done_ (by kernel_rfl) ?_
      have HB5c := Aside0.mk (HB4.out.trans HB5.out)
      have r3 := (blk_cell (HKEEP.out _ HB5c.out).1 3).trans (rfl : _ = some (Value.int .i64 rb))
      have z0 := (blk_cell (HKEEP.out _ HB5c.out).2.2.2 0).trans (rfl : _ = some (Value.int .i64 (s0 : Int)))
      have z1 := (blk_cell (HKEEP.out _ HB5c.out).2.2.2 1).trans (rfl : _ = some (Value.int .i64 (s1 : Int)))
      have z2 := (blk_cell (HKEEP.out _ HB5c.out).2.2.2 2).trans (rfl : _ = some (Value.int .i64 (s2 : Int)))
      have z3 := (blk_cell (HKEEP.out _ HB5c.out).2.2.2 3).trans (rfl : _ = some (Value.int .i64 (s3 : Int)))
      go_wp2_with fail
      clear r3 z0 z1 z2 z3
      have HF5 := Aside0.mk (HF.out.on (below_then HWC.out HWC.out.size HB5c.out))
      refine (HB.out ⟨s0, s1, s2, s3⟩ _ HFB.out HF5.out).mono ?_
      rintro e w6 ⟨v6, rfl, hv6, hb6⟩
      rw [← HLB.out] at hv6
      obtain ⟨A6, c6, rfl⟩ := Kd.R_slice hv6
      have HC6 := Aside0.mk (Kd.R_reads' hv6).2.2
      have HO6 := Aside0.mk (Kd.R_below HO5.out hb6)
      have HB6 := Aside0.mk (below_then HB5c.out HB5c.out.size hb6)
      clear hv6 hb6
      go_wp2_with (first
        | ((with_reducible refine gate_builtin (b := .append) (xs := #[.tmp 111, .tmp 116]) rfl ?_); at_builtin; go_must ((refine Kd.R_append_rows kP (w0 := w6) wc.heap.size rfl (.tmp 111) (.tmp 116) 47 52 (.agg #[.int .i64 0, .bool false, .int .i64 0, .int .i64 0, .int .i64 0, .int .i64 0]) 48 rfl Try.underlying47 info_P rfl (by decide) (by omega) v5 (la ++ [⟨0, true, ⟨q0, q1, q2, q3⟩⟩]) lb A6 lb.length c6 (fun _ => True) (fun _ => False) rfl rfl HO6.out HC6.out ?aK (fun _ hk => hk.elim) ?aF (Below.refl _ _) HB6.out.size ?aL ?_; (case aK => exact fun x cs h => by rw [kP_open h]; exact kP_mkM _ _ _ x); (case aF => exact fun _ _ => trivial); (case aL => have := HLN.out; simp only [List.length_append, List.length_cons, List.length_nil]; omega); intro v7 w7 ho hb hg hat; have HO7 := Aside0.mk ho; have HB7 := Aside0.mk hb; clear ho hb hg hat)))
        | fail)
      go_returns
      have hwc : Below W.heap.size W wc := below_then HBA.out HBA.out.size HWC.out
      have hr := Kd.R_lower HO7.out hwc.size
      rw [HLIN.out, List.append_assoc] at hr
      exact ⟨v7, rfl, hr, below_then hwc hwc.size (HB6.out.trans HB7.out)⟩
end
end Go.Proofs.Ytnidcnmeonjjbaa.LayPlF
