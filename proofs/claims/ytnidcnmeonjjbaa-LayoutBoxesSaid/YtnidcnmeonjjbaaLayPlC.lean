/- The reference's Places, as a contract. -/
import Derived.Test.YtnidcnmeonjjbaaLayPlT
import Derived.Test.YtnidcnmeonjjbaaLayPlF
import Derived.Deep.CutBlock
namespace Go.Proofs.Ytnidcnmeonjjbaa.LayPlC
open Go.RowKit Go.Proofs.Ytnidcnmeonjjbaa.Kit Go.Proofs.Ytnidcnmeonjjbaa.Plain Go.Proofs.Ytnidcnmeonjjbaa.Mine Go.Proofs.Ytnidcnmeonjjbaa.LayPure Go.Proofs.Ytnidcnmeonjjbaa.LaySmall Go.Proofs.Ytnidcnmeonjjbaa.LayPlace Go.Proofs.Ytnidcnmeonjjbaa.LayRefPure Go.Proofs.Ytnidcnmeonjjbaa.LayRefA Go.Proofs.Ytnidcnmeonjjbaa.LayPl Go.Proofs.Ytnidcnmeonjjbaa.LayPlT Go.Proofs.Ytnidcnmeonjjbaa.LayPlF Go.Proofs.YtnidcnmeonjjbaaW.PrintWords Go.Proofs.YtnidcnmeonjjbaaW.PrintLast Go.Proofs.YtnidcnmeonjjbaaW.PrintMore
set_option linter.unusedVariables false
set_option linter.unusedSimpArgs false
section
set_option maxHeartbeats 6400000
set_option maxRecDepth 100000
theorem rplaces_c (m : Nat) (A : Option Addr) (c : Nat) (ps : List PN) : ∀ (t : BT), RepI ps t → t.plain.leaves.length < 1000 → ∀ (b : BX) W, fits b → RF W m A c ps →
    Calls Try.prog 19 #[.pointer (some ⟨m, 0, none⟩), .int .i64 (t.root : Int), .agg #[.int .i64 b.x, .int .i64 b.y, .int .i64 b.w, .int .i64 b.h]] W fun e w' => ∃ v, e = .returned v ∧ Kd.R kP 52 w' W.heap.size (fun _ => True) v (placesT t.plain b) ∧ Below W.heap.size W w'
  | .leaf i p, ht, _, b, W, hb, hF => by
    have hun := Try.underlying67
    have hul := Try.underlying40
    have hub := Try.underlying50
    have hup := Try.underlying52
    obtain ⟨x, hx, hxp, hxa⟩ := ht
    obtain ⟨wa, hwa⟩ : ∃ wa, wa = W.alloc (.cells #[.int .i64 b.x, .int .i64 b.y, .int .i64 b.w, .int .i64 b.h] 50) := ⟨_, rfl⟩
    have hba : Below W.heap.size W wa := by rw [hwa]; exact below_alloc (Below.refl _ _) _
    have HBA := Aside0.mk hba
    have hFa := hF.on hba
    obtain ⟨ad, ead, hi, k0, k1, k2, k3⟩ := at_N hFa.row i x hx
    obtain ⟨xp, xf, xa, xb⟩ := x
    dsimp only at k0 k1 k2 k3 hxp hxa
    subst hxp hxa ead
    have hlen := hF.few
    have hil : (i : Int) < ps.length := by omega
    have h0 : wa.cell? ⟨m, 0, none⟩ = some (.slice (some ad) ps.length c) := (blk_cell hFa.blk 0).trans rfl
    rw [show (BT.leaf i xp).root = i from rfl, show placesT (BT.leaf i xp).plain b = [⟨xp, false, b⟩] from rfl]
    obtain ⟨b5, hb5⟩ : ∃ b5, b5 = W.heap.size := ⟨_, rfl⟩
    have HK5 := Aside0.mk (show wa.heap[b5]? = some (.cells #[.int .i64 b.x, .int .i64 b.y, .int .i64 b.w, .int .i64 b.h] 50 (0, 0)) from by rw [hwa, hb5]; exact blk_new W _)
    clear hF hx hi hlen hFa hba hb
    go_enter Try.func19, Try.ntmps19
    go_upto_region 1 with fail
    rw [← hwa, ← hb5]
    clear hwa hb5
    go_cut [7] (fun v7 W2 => ∃ gx : Nat, v7 = .pointer (some ⟨gx, 0, none⟩) ∧ Aside0 (W2.heap[gx]? = some (.cells #[.int .i64 xp, .bool xf, .int .i64 (-1), .int .i64 xb] 67 (0, 0))) ∧ Aside0 (Below wa.heap.size wa W2))
    case first =>
      go_wp2
      go_meet
      case rel => exact ⟨_, rfl, ⟨blk_new _ _⟩, ⟨below_alloc (Below.refl _ _) _⟩⟩
    case rest =>
      obtain ⟨gx, rfl, HGX, HBX⟩ := hcut
      clear k0 k1 k2 k3 h0 hil
      have g2 := (blk_cell HGX.out 2).trans (rfl : _ = some (Value.int .i64 (-1)))
      have g0 := (blk_cell HGX.out 0).trans (rfl : _ = some (Value.int .i64 xp))
      have HK5c := Aside0.mk (blk_below HK5.out HBX.out)
      have r0 := (blk_cell HK5c.out 0).trans (rfl : _ = some (Value.int .i64 (b.x : Int)))
      have r1 := (blk_cell HK5c.out 1).trans (rfl : _ = some (Value.int .i64 (b.y : Int)))
      have r2 := (blk_cell HK5c.out 2).trans (rfl : _ = some (Value.int .i64 (b.w : Int)))
      have r3 := (blk_cell HK5c.out 3).trans (rfl : _ = some (Value.int .i64 (b.h : Int)))
      go_wp2_with fail
      go_returns
      have hbe : Below W.heap.size W wc := below_then HBA.out HBA.out.size HBX.out
      exact ⟨_, rfl, lit_P wc W.heap.size (fun _ => True) [⟨xp, false, b⟩] _ (Reps.c6 (kP_mkM wc _ _ ⟨xp, false, b⟩) (Reps.none _ _)) hbe.size trivial (by simp), below_alloc hbe _⟩
  | .part i f a a2, ht, hn, b, W, hb, hF => by
    have hn2 : a.plain.leaves.length + a2.plain.leaves.length < 1000 := by
      have : (BT.part i f a a2).plain.leaves = a.plain.leaves ++ a2.plain.leaves := rfl
      rw [this, List.length_append] at hn; exact hn
    have h1 := fun b W hb h => rplaces_c m A c ps a ht.2.1 (by omega) b W hb h
    have h2 := fun b W hb h => rplaces_c m A c ps a2 ht.2.2 (by omega) b W hb h
    cases e : f with
    | true => subst e; exact part_t m A c ps i true a a2 rfl h1 h2 ht hn b W hb hF
    | false => subst e; exact part_f m A c ps i false a a2 rfl h1 h2 ht hn b W hb hF
end
end Go.Proofs.Ytnidcnmeonjjbaa.LayPlC
