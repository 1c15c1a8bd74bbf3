/- Lists of events: whether one is right, as contracts; no condition but that the list can be read. -/
import Derived.Test.YtmongghhagbokaaEventRef
namespace Go.Proofs.Ytmongghhagbokaa.EventList
open Go.RowKit Go.Proofs.Ytmongghhagbokaa.Kit Go.Proofs.Ytmongghhagbokaa.Plain Go.Proofs.Ytmongghhagbokaa.Mine Go.Proofs.Ytmongghhagbokaa.Event Go.Proofs.Ytmongghhagbokaa.EventRef Go.Proofs.YtmongghhagbokaaW.PrintWords Go.Proofs.YtmongghhagbokaaW.PrintLast Go.Proofs.YtmongghhagbokaaW.PrintMore
open Go.Proofs.Ytmongghhagbokaa.PPlayRights (S54 z54 k54 k54_open k54_mk rd_T54 at_T54)
set_option linter.unusedVariables false
set_option linter.unusedSimpArgs false
/-- Is a list right behind a time? -/
def listR : Int → List S54 → Bool
  | _, [] => true
  | last, x :: l => right x && decide (last ≤ x.f0) && listR x.f0 l
theorem listR_cons (last : Int) (x : S54) (l : List S54) : listR last (x :: l) = (right x && decide (last ≤ x.f0) && listR x.f0 l) := rfl
theorem at_ev {w : World} {A : Option Addr} {n : Nat} {xs : List S54} (h : Kd.C k54 w A n xs) (i : Nat) (hi : i < xs.length) : ∃ ad, A = some ad ∧ w.cell? (ad.add (i * 5)) = some (.int .i64 xs[i].f0) ∧ w.cell? ⟨(ad.add (i * 5)).block, (ad.add (i * 5)).off + 1, none⟩ = some (.int .i64 xs[i].f1) ∧ w.cell? ⟨(ad.add (i * 5)).block, (ad.add (i * 5)).off + 2, none⟩ = some (.string xs[i].f2) ∧
    w.cell? ⟨(ad.add (i * 5)).block, (ad.add (i * 5)).off + 3, none⟩ = some (.int .i64 xs[i].f3) ∧ w.cell? ⟨(ad.add (i * 5)).block, (ad.add (i * 5)).off + 4, none⟩ = some (.int .i64 xs[i].f4) := by
  have hn := h.1
  have h2 := at_T54 h (i : Int) (by omega) (by omega)
  rw [Int.toNat_natCast] at h2
  have he : rd_T54 xs (i : Int) = xs[i] := by unfold rd_T54; rw [Int.toNat_natCast, List.getD_eq_getElem?_getD, List.getElem?_eq_getElem hi]; rfl
  rwa [he] at h2
/-- A block of an event that was set field by field. -/
theorem blk_ev {w : World} {g : Nat} {cs : Array Value} (hs : cs.size = 5) (h : w.heap[g]? = some (.cells cs 54 (0, 0))) (v0 v1 v2 v3 v4 : Value) :
    (((((w.setCell ⟨g, 0, none⟩ v0).setCell ⟨g, 1, none⟩ v1).setCell ⟨g, 2, none⟩ v2).setCell ⟨g, 3, none⟩ v3).setCell ⟨g, 4, none⟩ v4).heap[g]? = some (.cells #[v0, v1, v2, v3, v4] 54 (0, 0)) := by
  match cs, hs, h with
  | ⟨[a0, a1, a2, a3, a4]⟩, _, h => exact blk_put (blk_put (blk_put (blk_put (blk_put h 0 v0 rfl) 1 v1 rfl) 2 v2 rfl) 3 v3 rfl) 4 v4 rfl
set_option maxHeartbeats 1600000 in
set_option maxRecDepth 100000 in
theorem list_c (A : Option Addr) (c : Nat) (l : List S54) (w : World) (hr : Kd.C k54 w A l.length l) :
    Calls Try.prog 28 #[.slice A l.length c] w fun e w' => e = .returned (.bool (listR 0 l)) ∧ Below w.heap.size w w' := by
  have HR := Aside0.mk hr
  have hlb : (l.length : Int) ≤ 9223372036854775807 := by have := hr.2.1; omega
  have hu := Try.underlying54
  clear hr
  go_enter Try.func28, Try.ntmps28
  go_wp2
  go_loopg [3, 8] (l.length) (fun g v3 v8 W => ∃ (i : Nat) (last : Int), v8 = .int .i64 (i : Int) ∧ v3 = .int .i64 last ∧ Aside0 (g + i = l.length) ∧ Aside0 (listR 0 l = listR last (l.drop i)) ∧ Aside0 (Below w.heap.size w W))
  case atStart => exact ⟨0, 0, rfl, rfl, ⟨by omega⟩, ⟨rfl⟩, ⟨Below.refl _ _⟩⟩
  case round =>
    obtain ⟨i, last, rfl, rfl, HG, HL, HB⟩ := hrel
    have hgi := HG.out
    by_cases hi : i < l.length
    · obtain ⟨g0, rfl⟩ : ∃ g0, gk = g0 + 1 := ⟨gk - 1, by omega⟩
      obtain ⟨ad, ead, hc0, hc1, hc2, hc3, hc4⟩ := at_ev (Kd.C_below HR.out HB.out) i hi
      have hd : l.drop i = l[i] :: l.drop (i + 1) := List.drop_eq_getElem_cons hi
      obtain ⟨x, hx⟩ : ∃ x, x = l[i] := ⟨_, rfl⟩
      have hl := HL.out
      rw [hd, ← hx, listR_cons] at hl
      rw [← hx] at hc0 hc1 hc2 hc3 hc4
      have HLL := Aside0.mk hl
      have hil : (i : Int) < l.length := by omega
      have HI := Aside0.mk hi
      have hRx : ∀ W, Calls Try.prog 35 #[.agg #[.int .i64 x.f0, .int .i64 x.f1, .string x.f2, .int .i64 x.f3, .int .i64 x.f4]] W fun e w' => e = .returned (.bool (right x)) ∧ Below W.heap.size W w' := fun W => right_raw x.f0 x.f1 x.f2 x.f3 x.f4 W
      obtain ⟨xt, hxt⟩ : ∃ xt, xt = x.f0 := ⟨_, rfl⟩
      obtain ⟨xk, hxk⟩ : ∃ xk, xk = x.f1 := ⟨_, rfl⟩
      obtain ⟨xd, hxd⟩ : ∃ xd, xd = x.f2 := ⟨_, rfl⟩
      obtain ⟨xw, hxw⟩ : ∃ xw, xw = x.f3 := ⟨_, rfl⟩
      obtain ⟨xh, hxh⟩ : ∃ xh, xh = x.f4 := ⟨_, rfl⟩
      rw [← hxt, ← hxk, ← hxd, ← hxw, ← hxh] at hRx
      rw [← hxt] at hc0 HLL
      rw [← hxk] at hc1
      rw [← hxd] at hc2
      rw [← hxw] at hc3
      rw [← hxh] at hc4
      have HRX := Aside0.mk hRx
      subst ead
      clear hl hd hx hi hgi HL hxt hxk hxd hxw hxh hRx
      go_wp2_with (first
        | ((with_reducible refine gate_dst (N := 5) rfl ?_); refine box_event ?hg (N := 5) ?hd (cs := #[.int .i64 0, .int .i64 0, .string (⟨#[]⟩ : ByteArray), .int .i64 0, .int .i64 0]) (t := 54) ?hr ?_; (case hd => rfl); (case hg => rfl); (case hr => first | (go_simp; done) | (go_simp; rfl)); intro g hg w3 hbox hb; have HB3 := Aside0.mk (below_step HB.out hb); have BK := Aside0.mk hbox; have GE := Aside0.mk (show w.heap.size ≤ g from by rw [hg]; exact HB.out.size); have b0 : w3.cell? ⟨g, 0, none⟩ = some (.int .i64 0) := (blk_cell BK.out 0).trans rfl; have b1 : w3.cell? ⟨g, 1, none⟩ = some (.int .i64 0) := (blk_cell BK.out 1).trans rfl; have b2 : w3.cell? ⟨g, 2, none⟩ = some (.string (⟨#[]⟩ : ByteArray)) := (blk_cell BK.out 2).trans rfl; have b3 : w3.cell? ⟨g, 3, none⟩ = some (.int .i64 0) := (blk_cell BK.out 3).trans rfl; have b4 : w3.cell? ⟨g, 4, none⟩ = some (.int .i64 0) := (blk_cell BK.out 4).trans rfl; have f0 := blk_frozen BK.out 0; have f1 := blk_frozen BK.out 1; have f2 := blk_frozen BK.out 2; have f3 := blk_frozen BK.out 3; have f4 := blk_frozen BK.out 4; clear hb hbox hg)
        | fail)
      refine (HRX.out _).mono ?_
      rintro e w4 ⟨rfl, hb⟩
      have HB4 := Aside0.mk (below_step (below_set (below_set (below_set (below_set (below_set HB3.out GE.out) GE.out) GE.out) GE.out) GE.out) hb)
      have d0 : w4.cell? ⟨g, 0, none⟩ = some (.int .i64 xt) := by
        rw [blk_cell (blk_below (blk_ev rfl BK.out _ _ _ _ _) hb)]; rfl
      clear hb b0 b1 b2 b3 b4 f0 f1 f2 f3 f4 hc0 hc1 hc2 hc3 hc4 BK HRX HR HB HB3 GE
      by_cases hrx : right x = true ∧ last ≤ xt
      · have HLL2 := Aside0.mk (show listR 0 l = listR xt (l.drop (i + 1)) from by rw [HLL.out, hrx.1, decide_eq_true hrx.2]; rfl)
        have h1 := hrx.1
        have h2 := hrx.2
        rw [h1]
        clear h1 hrx HLL
        go_wp2
        go_roundg g0
        case measure => omega
        case rel => exact ⟨i + 1, xt, by first | go_num | (congr 1; unfold wrap64; omega), rfl, ⟨by have := HG.out; omega⟩, HLL2, HB4⟩
      · have HLL2 := Aside0.mk (show listR 0 l = false from by
          rw [HLL.out]
          cases h5 : right x with
          | false => rfl
          | true => rw [decide_eq_false (fun h6 => hrx ⟨h5, h6⟩)]; rfl)
        cases h5 : right x with
        | false =>
          clear hrx HLL
          go_wp2
          go_ret
          exact ⟨by rw [HLL2.out]; rfl, HB4.out⟩
        | true =>
          have h6 : xt < last := Int.not_le.1 (fun h6 => hrx ⟨h5, h6⟩)
          clear hrx HLL
          go_wp2
          go_ret
          exact ⟨by rw [HLL2.out]; rfl, HB4.out⟩
    · have hil : (l.length : Int) ≤ i := by omega
      have hl := HL.out
      rw [List.drop_eq_nil_of_le (by omega)] at hl
      have HLL := Aside0.mk (show listR 0 l = true from hl)
      clear hl hgi
      go_wp2
      go_ret
      exact ⟨by rw [HLL.out]; rfl, HB.out⟩
end Go.Proofs.Ytmongghhagbokaa.EventList
