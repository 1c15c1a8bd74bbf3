/- The reference's Panes, as a contract. -/
import Derived.Test.YtnidcnmeonjjbaaLayRefA
namespace Go.Proofs.Ytnidcnmeonjjbaa.LayRefB
open Go.RowKit Go.Proofs.Ytnidcnmeonjjbaa.Kit Go.Proofs.Ytnidcnmeonjjbaa.Plain Go.Proofs.Ytnidcnmeonjjbaa.Mine Go.Proofs.Ytnidcnmeonjjbaa.LayPure Go.Proofs.Ytnidcnmeonjjbaa.LayRefPure Go.Proofs.Ytnidcnmeonjjbaa.LayRefA Go.Proofs.YtnidcnmeonjjbaaW.PrintWords Go.Proofs.YtnidcnmeonjjbaaW.PrintLast Go.Proofs.YtnidcnmeonjjbaaW.PrintMore
set_option linter.unusedVariables false
set_option linter.unusedSimpArgs false
section
set_option maxHeartbeats 3200000
set_option maxRecDepth 100000
theorem rpanes_c (m : Nat) (A : Option Addr) (c : Nat) (ps : List PN) : ∀ (t : BT), RepI ps t → t.plain.leaves.length < 1000000 → ∀ W, RF W m A c ps →
    Calls Try.prog 16 #[.pointer (some ⟨m, 0, none⟩), .int .i64 (t.root : Int)] W fun e w' => ∃ v, e = .returned v ∧ Kd.R (Kd.int .i64) 3 w' W.heap.size (fun _ => True) v t.plain.leaves ∧ Below W.heap.size W w'
  | .leaf i p, ht, _, W, hF => by
    have hun := Try.underlying67
    have hul := Try.underlying40
    obtain ⟨x, hx, hxp, hxa⟩ := ht
    obtain ⟨ad, ead, hi, k0, k1, k2, k3⟩ := at_N hF.row i x hx
    obtain ⟨xp, xf, xa, xb⟩ := x
    dsimp only at k0 k1 k2 k3 hxp hxa
    subst hxp hxa ead
    have hlen := hF.few
    have hil : (i : Int) < ps.length := by omega
    have h0 : W.cell? ⟨m, 0, none⟩ = some (.slice (some ad) ps.length c) := (blk_cell hF.blk 0).trans rfl
    rw [show (BT.leaf i xp).root = i from rfl, show (BT.leaf i xp).plain.leaves = [xp] from rfl]
    clear hF hx hi hlen
    go_enter Try.func16, Try.ntmps16
    go_upto_region 1 with fail
    go_cut [5] (fun v7 W2 => ∃ gx : Nat, v7 = .pointer (some ⟨gx, 0, none⟩) ∧ Aside0 (W2.heap[gx]? = some (.cells #[.int .i64 xp, .bool xf, .int .i64 (-1), .int .i64 xb] 67 (0, 0))) ∧ Aside0 (Below W.heap.size W W2))
    case first =>
      go_wp2
      go_meet
      case rel => exact ⟨_, rfl, ⟨blk_new _ _⟩, ⟨below_alloc (Below.refl _ _) _⟩⟩
    case rest =>
      obtain ⟨gx, rfl, HGX, HBX⟩ := hcut
      clear k0 k1 k2 k3 h0 hil
      have g2 := (blk_cell HGX.out 2).trans (rfl : _ = some (Value.int .i64 (-1)))
      have g0 := (blk_cell HGX.out 0).trans (rfl : _ = some (Value.int .i64 xp))
      go_wp2_with fail
      go_returns
      exact ⟨_, rfl, lit_R wc W.heap.size 3 .i64 (fun _ => True) [xp] HBX.out.size trivial (by simp), below_alloc HBX.out _⟩
  | .part i f a b, ht, hn, W, hF => by
    have hun := Try.underlying67
    have hul := Try.underlying40
    obtain ⟨⟨x, hx, hxf, hxa, hxb⟩, hta, htb⟩ := ht
    have hn2 : a.plain.leaves.length + b.plain.leaves.length < 1000000 := by
      have : (BT.part i f a b).plain.leaves = a.plain.leaves ++ b.plain.leaves := rfl
      rw [this, List.length_append] at hn; exact hn
    have HN := Aside0.mk hn2
    have HA := Aside0.mk (fun W h => rpanes_c m A c ps a hta (by omega) W h)
    have HB := Aside0.mk (fun W h => rpanes_c m A c ps b htb (by omega) W h)
    obtain ⟨ad, ead, hi, k0, k1, k2, k3⟩ := at_N hF.row i x hx
    obtain ⟨xp, xf, xa, xb⟩ := x
    dsimp only at k0 k1 k2 k3 hxf hxa hxb
    obtain ⟨ra, hra⟩ : ∃ r, r = a.root := ⟨_, rfl⟩
    obtain ⟨rb, hrb⟩ : ∃ r, r = b.root := ⟨_, rfl⟩
    rw [← hra] at hxa HA
    rw [← hrb] at hxb HB
    subst hxa hxb hxf ead
    have hlen := hF.few
    have hil : (i : Int) < ps.length := by omega
    have h0 : W.cell? ⟨m, 0, none⟩ = some (.slice (some ad) ps.length c) := (blk_cell hF.blk 0).trans rfl
    have HF := Aside0.mk hF
    rw [show (BT.part i xf a b).root = i from rfl, show (BT.part i xf a b).plain.leaves = a.plain.leaves ++ b.plain.leaves from rfl]
    obtain ⟨la, hla⟩ : ∃ l, l = a.plain.leaves := ⟨_, rfl⟩
    obtain ⟨lb, hlb⟩ : ∃ l, l = b.plain.leaves := ⟨_, rfl⟩
    rw [← hla] at HA HN ⊢
    rw [← hlb] at HB HN ⊢
    have z0 : decide ((ra : Int) < 0) = false := decide_eq_false (by omega)
    clear hF hx hi hra hrb hta htb hlen hn hn2 hla hlb
    go_enter Try.func16, Try.ntmps16
    go_upto_region 1 with fail
    go_cut [5] (fun v7 W2 => ∃ gx : Nat, v7 = .pointer (some ⟨gx, 0, none⟩) ∧ Aside0 (W2.heap[gx]? = some (.cells #[.int .i64 xp, .bool xf, .int .i64 ra, .int .i64 rb] 67 (0, 0))) ∧ Aside0 (Below W.heap.size W W2))
    case first =>
      go_wp2
      go_meet
      case rel => exact ⟨_, rfl, ⟨blk_new _ _⟩, ⟨below_alloc (Below.refl _ _) _⟩⟩
    case rest =>
      obtain ⟨gx, rfl, HGX, HBX⟩ := hcut
      clear k0 k1 k2 k3 h0 hil
      have g2 := (blk_cell HGX.out 2).trans (rfl : _ = some (Value.int .i64 ra))
      go_upto_region 4 with fail
      clear g2
      have g2 := (blk_cell (blk_drew HGX.out) 2).trans (rfl : _ = some (Value.int .i64 ra))
      have g3 := (blk_cell (blk_drew HGX.out) 3).trans (rfl : _ = some (Value.int .i64 rb))
      refine start_ (n := 10) (S := fun w' => w'.cell? ⟨gx, 2, none⟩ = some (.int .i64 ra) ∧ w'.cell? ⟨gx, 3, none⟩ = some (.int .i64 rb)) (ds := [8]) #[false, false, false, false, false, false, false, false, false, false] (by kernel_rfl) rfl rfl ⟨g2, g3⟩ (fun hHeld => ?_)
      refine pure_ (i := 0) (N := some 19) (v := ?_) (a' := ?_) #[true, false, false, false, false, false, false, false, false, false] rfl rfl (by kernel_rfl) (fun _ _ _ h => h) (Or.inl ⟨by rfl, ?_⟩) ?_ ?_
      rotate_left
      · intro w'
        go_simp
        with_reducible rfl
      rotate_left
      · simp only [Act.put, List.setIfInBounds_toArray, List.set_cons_zero, List.set_cons_succ, i64_w, i32_w]
        rfl
      refine pure_ (i := 1) (N := some 20) (v := ?_) (a' := ?_) #[true, true, false, false, false, false, false, false, false, false] rfl rfl (by kernel_rfl) (fun _ _ _ h => h) (Or.inl ⟨by rfl, ?_⟩) ?_ ?_
      rotate_left
      · intro w'
        go_simp
        with_reducible rfl
      rotate_left
      · simp only [Act.put, List.setIfInBounds_toArray, List.set_cons_zero, List.set_cons_succ, i64_w, i32_w]
        rfl
      refine pure_ (i := 4) (N := some 23) (v := ?_) (a' := ?_) #[true, true, false, false, true, false, false, false, false, false] rfl rfl (by kernel_rfl) (fun _ _ _ h => h) (Or.inl ⟨by rfl, ?_⟩) ?_ ?_
      rotate_left
      · intro w'
        go_simp
        with_reducible rfl
      rotate_left
      · simp only [Act.put, List.setIfInBounds_toArray, List.set_cons_zero, List.set_cons_succ, i64_w, i32_w]
        rfl
      refine pure_ (i := 5) (N := some 24) (v := ?_) (a' := ?_) #[true, true, false, false, true, true, false, false, false, false] rfl rfl (by kernel_rfl) (fun _ _ _ h => h) (Or.inl ⟨by rfl, ?_⟩) ?_ ?_
      rotate_left
      · intro w'
        go_simp
        with_reducible rfl
      rotate_left
      · simp only [Act.put, List.setIfInBounds_toArray, List.set_cons_zero, List.set_cons_succ, i64_w, i32_w]
        rfl
      refine take_ (i := 2) (N := some 21) (v := ?_) (a' := ?_) #[true, true, true, false, true, true, false, false, false, false] rfl rfl (by kernel_rfl) (fun _ _ _ h => h) (Or.inl ⟨by rfl, ?_⟩) hHeld ?_ ?_
      rotate_left
      · rintro w' ⟨s0, s1⟩
        go_simp
        with_reducible rfl
      rotate_left
      · simp only [Act.put, List.setIfInBounds_toArray, List.set_cons_zero, List.set_cons_succ, i64_w, i32_w]
        rfl
      refine take_ (i := 6) (N := some 25) (v := ?_) (a' := ?_) #[true, true, true, false, true, true, true, false, false, false] rfl rfl (by kernel_rfl) (fun _ _ _ h => h) (Or.inl ⟨by rfl, ?_⟩) hHeld ?_ ?_
      rotate_left
      · rintro w' ⟨s0, s1⟩
        go_simp
        with_reducible rfl
      rotate_left
      · simp only [Act.put, List.setIfInBounds_toArray, List.set_cons_zero, List.set_cons_succ, i64_w, i32_w]
        rfl
      refine one_ (i := 3) (N := some 22) #[true, true, true, true, true, true, true, false, false, false] rfl rfl (by kernel_rfl) (by decide) (fun K hK => ?_)
      refine goes_ Try.func16 (by kernel_rfl) rfl #[.pointer (some ⟨m, 0, none⟩), .int .i64 ra] (by rfl) rfl rfl (by simp only [List.map_toArray, List.map_cons, List.map_nil]; rfl) ?_
      with_reducible refine (HA.out _ (HF.out.on (below_drew HBX.out))).mono ?_
      rintro e w3 ⟨v3, rfl, hv3, hb3⟩
      refine ⟨_, rfl, ?_⟩
      have HB3 := Aside0.mk (below_then (below_drew HBX.out) HBX.out.size hb3)
      have HG3 := Aside0.mk (blk_below (blk_drew HGX.out) hb3)
      have HV3 := Aside0.mk hv3
      clear hv3 hb3
      have a2 := (blk_cell HG3.out 2).trans (rfl : _ = some (Value.int .i64 ra))
      have a3 := (blk_cell HG3.out 3).trans (rfl : _ = some (Value.int .i64 rb))
      refine hK.out _ _ ⟨a2, a3⟩ (fun hHeld => ?_)
      clear hK K
      refine norm_ (a' := ?_) ?_ ?_
      rotate_left
      · show Act.put _ (some 22) _ = _
        simp only [Act.put, List.setIfInBounds_toArray, List.set_cons_zero, List.set_cons_succ, i64_w, i32_w]
        rfl
      refine one_ (i := 7) (N := some 26) #[true, true, true, true, true, true, true, true, false, false] rfl rfl (by kernel_rfl) (by decide) (fun K hK => ?_)
      refine goes_ Try.func16 (by kernel_rfl) rfl #[.pointer (some ⟨m, 0, none⟩), .int .i64 rb] (by rfl) rfl rfl (by simp only [List.map_toArray, List.map_cons, List.map_nil]; rfl) ?_
      with_reducible refine (HB.out _ (HF.out.on HB3.out)).mono ?_
      rintro e w4 ⟨v4, rfl, hv4, hb4⟩
      refine ⟨_, rfl, ?_⟩
      have HB4 := Aside0.mk (below_then HB3.out HB3.out.size hb4)
      have HG4 := Aside0.mk (blk_below HG3.out hb4)
      have HV34 := Aside0.mk (Kd.R_below HV3.out hb4)
      obtain ⟨A4, cp4, rfl⟩ := Kd.R_slice hv4
      have HC4 := Aside0.mk (Kd.R_reads' hv4).2.2
      clear hv4 hb4
      have b2 := (blk_cell HG4.out 2).trans (rfl : _ = some (Value.int .i64 ra))
      have b3 := (blk_cell HG4.out 3).trans (rfl : _ = some (Value.int .i64 rb))
      refine hK.out _ _ ⟨b2, b3⟩ (fun hHeld => ?_)
      clear hK K
      refine norm_ (a' := ?_) ?_ ?_
      rotate_left
      · show Act.put _ (some 26) _ = _
        simp only [Act.put, List.setIfInBounds_toArray, List.set_cons_zero, List.set_cons_succ, i64_w, i32_w]
        rfl
      refine last_ (i := 8) (N := some 27) #[true, true, true, true, true, true, true, true, true, false] rfl rfl (by kernel_rfl) (by decide) (fun K hK => ?_)
      refine Kd.R_append_rows_step (Kd.int .i64) (w0 := w4) W.heap.size (by rfl) (.tmp 22) (.tmp 26) 35 3 (.int .i64 0) 8 rfl Try.underlying35 info_int rfl (by decide) (by omega) v3 la lb A4 lb.length cp4 (fun _ => True) (fun _ => False) rfl rfl (Kd.R_lower HV34.out (below_drew HBX.out).size) HC4.out ?aK (fun _ hk => hk.elim) ?aF (Below.refl _ _) HB4.out.size ?aL ?_; (case aK => exact fun x cs h => h); (case aF => exact fun _ _ => trivial); (case aL => have := HN.out; omega)
      intro v5 w5 ho hb hg hat
      have HO5 := Aside0.mk ho
      have HB5 := Aside0.mk hb
      clear ho hb hg hat
      refine hK.out _ _ ?_
      clear hK K
      refine norm_ (a' := ?_) ?_ ?_
      rotate_left
      · show Act.put _ (some 27) _ = _
        simp only [Act.put, List.setIfInBounds_toArray, List.set_cons_zero, List.set_cons_succ, i64_w, i32_w]
        rfl
      refine pure_ (i := 9) (N := some 4) (v := ?_) (a' := ?_) #[true, true, true, true, true, true, true, true, true, true] rfl rfl (by kernel_rfl) (fun _ _ _ h => h) (Or.inl ⟨by rfl, ?_⟩) ?_ ?_
      rotate_left
      · intro w'
        go_simp
        with_reducible rfl
      rotate_left
      · simp only [Act.put, List.setIfInBounds_toArray, List.set_cons_zero, List.set_cons_succ, i64_w, i32_w]
        rfl
      refine done_ (by kernel_rfl) ?_
      go_wp2
      go_returns
      exact ⟨v5, rfl, HO5.out, (HB4.out.trans HB5.out)⟩
end
end Go.Proofs.Ytnidcnmeonjjbaa.LayRefB
