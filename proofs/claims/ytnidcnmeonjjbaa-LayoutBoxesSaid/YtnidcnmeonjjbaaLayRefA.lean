/- The reference's find and Panes, as contracts. -/
import Derived.Test.YtnidcnmeonjjbaaLayRefPure
import Derived.Test.YtnidcnmeonjjbaaLayMade
namespace Go.Proofs.Ytnidcnmeonjjbaa.LayRefA
open Go.RowKit Go.Proofs.Ytnidcnmeonjjbaa.Kit Go.Proofs.Ytnidcnmeonjjbaa.Plain Go.Proofs.Ytnidcnmeonjjbaa.Mine Go.Proofs.Ytnidcnmeonjjbaa.LayPure Go.Proofs.Ytnidcnmeonjjbaa.LayRefPure Go.Proofs.YtnidcnmeonjjbaaW.PrintWords Go.Proofs.YtnidcnmeonjjbaaW.PrintLast Go.Proofs.YtnidcnmeonjjbaaW.PrintMore
set_option linter.unusedVariables false
set_option linter.unusedSimpArgs false
def kN : Kd PN := Kd.iso (Kd.pair (Kd.int .i64) (Kd.pair Kd.bool (Kd.pair (Kd.int .i64) (Kd.int .i64)))) (fun x : PN => (x.p, x.f, x.a, x.b))
def zN : PN := ⟨0, false, 0, 0⟩
theorem info_N : (Try.prog.info? 67).map (fun i => (i.zero, i.size, i.bytes)) = some (some (.agg #[.int .i64 0, .bool false, .int .i64 0, .int .i64 0]), 4, 32) := by kernel_rfl
theorem kN_open {w : World} {x : PN} {cs : List Value} (h : kN.K w x cs) : cs = [.int .i64 x.p, .bool x.f, .int .i64 x.a, .int .i64 x.b] := by
  obtain ⟨_, _, rfl, rfl, ⟨_, _, rfl, rfl, ⟨_, _, rfl, rfl, rfl⟩⟩⟩ := h
  exact rfl
theorem kN_mkM (w : World) (base : Nat) (ok : Nat → Prop) (x : PN) : kN.M w base ok x [.int .i64 x.p, .bool x.f, .int .i64 x.a, .int .i64 x.b] :=
  ⟨[.int .i64 x.p], _, rfl, rfl, ⟨[.bool x.f], _, rfl, rfl, ⟨[.int .i64 x.a], [.int .i64 x.b], rfl, rfl, rfl⟩⟩⟩
theorem at_N {w : World} {A : Option Addr} {n : Nat} {xs : List PN} (h : Kd.C kN w A n xs) (i : Nat) (x : PN) (hx : xs[i]? = some x) : ∃ (ad : Addr), A = some ad ∧ i < n ∧ w.cell? (ad.add (i * 4)) = some (.int .i64 x.p) ∧ w.cell? ⟨(ad.add (i * 4)).block, (ad.add (i * 4)).off + 1, none⟩ = some (.bool x.f) ∧ w.cell? ⟨(ad.add (i * 4)).block, (ad.add (i * 4)).off + 2, none⟩ = some (.int .i64 x.a) ∧ w.cell? ⟨(ad.add (i * 4)).block, (ad.add (i * 4)).off + 3, none⟩ = some (.int .i64 x.b) := by
  have hn : xs.length = n := h.1
  have hi : i < n := by rw [← hn]; exact (List.getElem?_eq_some_iff.1 hx).1
  obtain ⟨ad, c, e, _, hK, hc0⟩ := Kd.C_get h zN (i : Int) (by omega) (by omega)
  rw [Int.toNat_natCast, List.getD_eq_getElem?_getD, hx] at hK
  rw [Int.toNat_natCast] at hc0
  have hc : ∀ j u, c[j]? = some u → w.cell? (ad.add (i * 4 + j)) = some u := hc0
  obtain rfl := kN_open hK
  exact ⟨ad, e, hi, hc 0 _ rfl, by rw [← add_field _ _ 1 (by omega)]; exact hc 1 _ rfl, by rw [← add_field _ _ 2 (by omega)]; exact hc 2 _ rfl, by rw [← add_field _ _ 3 (by omega)]; exact hc 3 _ rfl⟩
/-- A layout of the reference in memory, to be read. -/
structure RF (W : World) (m : Nat) (A : Option Addr) (c : Nat) (ps : List PN) : Prop where
  blk : W.heap[m]? = some (.cells #[.slice A ps.length c, .int .i64 0] 40 (0, 0))
  row : Kd.C kN W A ps.length ps
  few : ps.length < 1000000
theorem RF.on {W W' : World} {m : Nat} {A : Option Addr} {c : Nat} {ps : List PN} (h : RF W m A c ps) (hb : Below W.heap.size W W') : RF W' m A c ps := ⟨blk_below h.blk hb, Kd.C_below h.row hb, h.few⟩
/-- What find answers. -/
def resI : Option Nat → Int
  | none => -1
  | some i => (i : Int)
section
set_option maxHeartbeats 3200000
set_option maxRecDepth 100000
theorem rfind_c (m : Nat) (A : Option Addr) (c : Nat) (ps : List PN) (q : Int) : ∀ (t : BT), RepI ps t → ∀ W, RF W m A c ps →
    Calls Try.prog 23 #[.pointer (some ⟨m, 0, none⟩), .int .i64 (t.root : Int), .int .i64 q] W fun e w' => e = .returned (.int .i64 (resI (BT.findL t q))) ∧ Below W.heap.size W w'
  | .leaf i p, ht, W, hF => by
    have hun := Try.underlying67
    have hul := Try.underlying40
    obtain ⟨x, hx, hxp, hxa⟩ := ht
    obtain ⟨ad, ead, hi, k0, k1, k2, k3⟩ := at_N hF.row i x hx
    obtain ⟨xp, xf, xa, xb⟩ := x
    dsimp only at k0 k1 k2 k3 hxp hxa
    subst hxp hxa ead
    have hlen := hF.few
    have hil : (i : Int) < ps.length := by omega
    have h0 : W.cell? ⟨m, 0, none⟩ = some (.slice (some ad) ps.length c) := (blk_cell hF.blk 0).trans rfl
    rw [show (BT.leaf i xp).root = i from rfl]
    obtain ⟨r, hr⟩ : ∃ r, r = resI (BT.findL (BT.leaf i xp) q) := ⟨_, rfl⟩
    have HR := Aside0.mk hr
    rw [← hr]
    clear hF hx hi hr
    by_cases hpq : xp = q
    · have e1 : (xp == q) = true := beq_iff_eq.mpr hpq
      have hr2 : r = (i : Int) := by rw [HR.out]; unfold BT.findL; rw [if_pos hpq]; rfl
      subst hr2
      clear hpq hlen
      go_enter Try.func23, Try.ntmps23
      go_wp2_with fail
      go_returns
      exact ⟨rfl, below_alloc (Below.refl _ _) _⟩
    · have e1 : (xp == q) = false := beq_eq_false_iff_ne.mpr hpq
      have hr2 : r = -1 := by rw [HR.out]; unfold BT.findL; rw [if_neg hpq]; rfl
      subst hr2
      clear hpq hlen
      go_enter Try.func23, Try.ntmps23
      go_wp2_with fail
      go_returns
      exact ⟨rfl, below_alloc (Below.refl _ _) _⟩
  | .part i f a b, ht, W, hF => by
    have hun := Try.underlying67
    have hul := Try.underlying40
    obtain ⟨⟨x, hx, hxf, hxa, hxb⟩, hta, htb⟩ := ht
    have HA := Aside0.mk (fun W h => rfind_c m A c ps q a hta W h)
    have HB := Aside0.mk (fun W h => rfind_c m A c ps q b htb W h)
    obtain ⟨ad, ead, hi, k0, k1, k2, k3⟩ := at_N hF.row i x hx
    obtain ⟨xp, xf, xa, xb⟩ := x
    dsimp only at k0 k1 k2 k3 hxf hxa hxb
    obtain ⟨ra, hra⟩ : ∃ r, r = a.root := ⟨_, rfl⟩
    obtain ⟨rb, hrb⟩ : ∃ r, r = b.root := ⟨_, rfl⟩
    rw [← hra] at hxa HA
    rw [← hrb] at hxb HB
    subst hxa hxb hxf ead
    have hlen := hF.few
    have hil : (i : Int) < ps.length := by omega
    have h0 : W.cell? ⟨m, 0, none⟩ = some (.slice (some ad) ps.length c) := (blk_cell hF.blk 0).trans rfl
    have HF := Aside0.mk hF
    rw [show (BT.part i xf a b).root = i from rfl]
    obtain ⟨r, hr⟩ : ∃ r, r = resI (BT.findL (BT.part i xf a b) q) := ⟨_, rfl⟩
    have HR := Aside0.mk (show r = resI ((BT.findL a q).or (BT.findL b q)) from hr)
    rw [← hr]
    have z0 : decide ((ra : Int) < 0) = false := decide_eq_false (by omega)
    clear hF hx hi hr hra hrb hta htb hlen
    go_enter Try.func23, Try.ntmps23
    go_upto_region 1 with fail
    go_cut [7] (fun v7 W2 => ∃ gx : Nat, v7 = .pointer (some ⟨gx, 0, none⟩) ∧ Aside0 (W2.heap[gx]? = some (.cells #[.int .i64 xp, .bool xf, .int .i64 ra, .int .i64 rb] 67 (0, 0))) ∧ Aside0 (Below W.heap.size W W2))
    case first =>
      go_wp2
      go_meet
      case rel => exact ⟨_, rfl, ⟨blk_new _ _⟩, ⟨below_alloc (Below.refl _ _) _⟩⟩
    case rest =>
      obtain ⟨gx, rfl, HGX, HBX⟩ := hcut
      clear k0 k1 k2 k3 h0 hil
      have g2 := (blk_cell HGX.out 2).trans (rfl : _ = some (Value.int .i64 ra))
      cases ha : BT.findL a q with
      | some j =>
        rw [ha] at HA HR
        have HR2 := Aside0.mk (show r = (j : Int) from HR.out)
        rw [show resI (some j) = (j : Int) from rfl] at HA
        have z1 : decide ((0 : Int) ≤ (j : Int)) = true := decide_eq_true (by omega)
        clear ha HR HB
        go_wp2_with fail
        refine (HA.out wc (HF.out.on HBX.out)).mono ?_
        rintro e w3 ⟨rfl, hb⟩
        have HB3 := Aside0.mk (below_kept HBX.out hb)
        clear hb g2
        go_wp2_with fail
        go_returns
        exact ⟨by rw [HR2.out]; rfl, HB3.out⟩
      | none =>
        rw [ha] at HA HR
        have HR2 := Aside0.mk (show r = resI (BT.findL b q) from HR.out)
        rw [show resI none = (-1 : Int) from rfl] at HA
        clear ha HR
        obtain ⟨z, hz⟩ : ∃ z, z = resI (BT.findL b q) := ⟨_, rfl⟩
        rw [← hz] at HB HR2
        clear hz
        go_wp2_with fail
        refine (HA.out wc (HF.out.on HBX.out)).mono ?_
        rintro e w3 ⟨rfl, hb⟩
        have HB3 := Aside0.mk (below_kept HBX.out hb)
        have g3 := (blk_cell (blk_below HGX.out hb) 3).trans (rfl : _ = some (Value.int .i64 rb))
        clear hb g2
        go_wp2_with fail
        refine (HB.out w3 (HF.out.on HB3.out)).mono ?_
        rintro e w4 ⟨rfl, hb⟩
        have HB4 := Aside0.mk (below_kept HB3.out hb)
        clear hb g3
        go_wp2_with fail
        go_returns
        exact ⟨by rw [HR2.out]; rfl, HB4.out⟩
end
end Go.Proofs.Ytnidcnmeonjjbaa.LayRefA
