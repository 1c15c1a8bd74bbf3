/- Two equal lists of numbers, of acts, and two equal parsers: the answers are true. Contracts. -/
import Derived.Test.YtkdkajcokoggiaaDoorVtSmall
import Derived.Test.YtkdkajcokoggiaaDoorArrEq
import Derived.Deep.CutBlock
namespace Go.Proofs.YtkdkajcokoggiaaDoor.VtSame
open Go.RowKit Go.Proofs.YtkdkajcokoggiaaDoor.Kit Go.Proofs.YtkdkajcokoggiaaDoor.Plain Go.Proofs.YtkdkajcokoggiaaDoor.Mine Go.Proofs.YtkdkajcokoggiaaDoor.VtPure Go.Proofs.YtkdkajcokoggiaaDoor.VtSmall Go.Proofs.YtkdkajcokoggiaaDoorW.PrintWords Go.Proofs.YtkdkajcokoggiaaDoorW.PrintLast Go.Proofs.YtkdkajcokoggiaaDoorW.PrintMore
open Go.Proofs.YtkdkajcokoggiaaDoor.PVtParts (S37 k37 k37_open k37_openM k37_mk k37_mkM)
set_option linter.unusedVariables false
set_option linter.unusedSimpArgs false
set_option maxHeartbeats 1600000 in
set_option maxRecDepth 100000 in
theorem ints_c (A B : Option Addr) (c c2 : Nat) (l : List Int) (w : World) (hr : Kd.C (Kd.int .i64) w A l.length l) (hr2 : Kd.C (Kd.int .i64) w B l.length l) (hl : l.length < 1000000) :
    Calls Tryd.prog 19 #[.slice A l.length c, .slice B l.length c2] w fun e w' => e = .returned (.bool true) ∧ Below w.heap.size w w' := by
  have HR := Aside0.mk hr
  have HR2 := Aside0.mk hr2
  have hl2 : (l.length : Int) < 1000000 := by omega
  clear hr hl hr2
  go_enter Tryd.func19, Tryd.ntmps19
  go_wp2
  go_loopg [13] l.length (fun g v13 W => ∃ (i : Nat), v13 = .int .i64 (i : Int) ∧ Aside0 (g + i = l.length) ∧ Aside0 (Below w.heap.size w W))
  case atStart => exact ⟨0, rfl, ⟨by omega⟩, ⟨Below.refl _ _⟩⟩
  case round =>
    obtain ⟨i, rfl, HG, HB⟩ := hrel
    have hgi := HG.out
    by_cases hi : i < l.length
    · obtain ⟨g0, rfl⟩ : ∃ g0, gk = g0 + 1 := ⟨gk - 1, by omega⟩
      obtain ⟨ad, ead, hc0⟩ := Kd.at_int (Kd.C_drew (Kd.C_below HR.out HB.out)) (i : Int) (by omega) (by omega)
      obtain ⟨ad2, ead2, gc0⟩ := Kd.at_int (Kd.C_drew (Kd.C_below HR2.out HB.out)) (i : Int) (by omega) (by omega)
      obtain ⟨x, hx⟩ : ∃ x, x = rd l (i : Int) := ⟨_, rfl⟩
      rw [Int.toNat_natCast, ← hx] at hc0 gc0
      have hil : (i : Int) < l.length := by omega
      subst ead
      subst ead2
      clear hx hgi hi
      go_upto_region 6 with fail
      go_cut [24] (fun v24 W => v24 = .bool false ∧ Aside0 (Below w.heap.size w W))
      case first =>
        refine start_ (n := 9) (S := fun w' => w'.cell? (ad.add i) = some (.int .i64 x) ∧ w'.cell? (ad2.add i) = some (.int .i64 x)) (ds := []) #[false, false, false, false, false, false, false, false, false] (by kernel_rfl) rfl rfl ⟨hc0, gc0⟩ (fun hHeld => ?_)
        refine pure_ (i := 0) (N := some 16) (v := ?_) (a' := ?_) #[true, false, false, false, false, false, false, false, false] rfl rfl (by kernel_rfl) (fun _ _ _ h => h) (Or.inl ⟨by rfl, ?_⟩) ?_ ?_
        rotate_left
        · intro w'
          go_simp
          with_reducible rfl
        rotate_left
        · simp only [Act.put, List.setIfInBounds_toArray, List.set_cons_zero, List.set_cons_succ, i64_w, i32_w]
          rfl
        refine pure_ (i := 1) (N := some 17) (v := ?_) (a' := ?_) #[true, true, false, false, false, false, false, false, false] rfl rfl (by kernel_rfl) (fun _ _ _ h => h) (Or.inl ⟨by rfl, ?_⟩) ?_ ?_
        rotate_left
        · intro w'
          go_simp
          with_reducible rfl
        rotate_left
        · simp only [Act.put, List.setIfInBounds_toArray, List.set_cons_zero, List.set_cons_succ, i64_w, i32_w]
          rfl
        refine pure_ (i := 2) (N := some 18) (v := ?_) (a' := ?_) #[true, true, true, false, false, false, false, false, false] rfl rfl (by kernel_rfl) (fun _ _ _ h => h) (Or.inl ⟨by rfl, ?_⟩) ?_ ?_
        rotate_left
        · intro w'
          go_simp
          with_reducible rfl
        rotate_left
        · simp only [Act.put, List.setIfInBounds_toArray, List.set_cons_zero, List.set_cons_succ, i64_w, i32_w]
          rfl
        refine pure_ (i := 4) (N := some 20) (v := ?_) (a' := ?_) #[true, true, true, false, true, false, false, false, false] rfl rfl (by kernel_rfl) (fun _ _ _ h => h) (Or.inl ⟨by rfl, ?_⟩) ?_ ?_
        rotate_left
        · intro w'
          go_simp
          with_reducible rfl
        rotate_left
        · simp only [Act.put, List.setIfInBounds_toArray, List.set_cons_zero, List.set_cons_succ, i64_w, i32_w]
          rfl
        refine pure_ (i := 5) (N := some 21) (v := ?_) (a' := ?_) #[true, true, true, false, true, true, false, false, false] rfl rfl (by kernel_rfl) (fun _ _ _ h => h) (Or.inl ⟨by rfl, ?_⟩) ?_ ?_
        rotate_left
        · intro w'
          go_simp
          with_reducible rfl
        rotate_left
        · simp only [Act.put, List.setIfInBounds_toArray, List.set_cons_zero, List.set_cons_succ, i64_w, i32_w]
          rfl
        refine pure_ (i := 6) (N := some 22) (v := ?_) (a' := ?_) #[true, true, true, false, true, true, true, false, false] rfl rfl (by kernel_rfl) (fun _ _ _ h => h) (Or.inl ⟨by rfl, ?_⟩) ?_ ?_
        rotate_left
        · intro w'
          go_simp
          with_reducible rfl
        rotate_left
        · simp only [Act.put, List.setIfInBounds_toArray, List.set_cons_zero, List.set_cons_succ, i64_w, i32_w]
          rfl
        refine take_ (i := 3) (N := some 19) (v := ?_) (a' := ?_) #[true, true, true, true, true, true, true, false, false] rfl rfl (by kernel_rfl) (fun _ _ _ h => h) (Or.inl ⟨by rfl, ?_⟩) hHeld ?_ ?_
        rotate_left
        · rintro w' ⟨s0, s1⟩
          go_simp
          with_reducible rfl
        rotate_left
        · simp only [Act.put, List.setIfInBounds_toArray, List.set_cons_zero, List.set_cons_succ, i64_w, i32_w]
          rfl
        refine take_ (i := 7) (N := some 23) (v := ?_) (a' := ?_) #[true, true, true, true, true, true, true, true, false] rfl rfl (by kernel_rfl) (fun _ _ _ h => h) (Or.inl ⟨by rfl, ?_⟩) hHeld ?_ ?_
        rotate_left
        · rintro w' ⟨s0, s1⟩
          go_simp
          with_reducible rfl
        rotate_left
        · simp only [Act.put, List.setIfInBounds_toArray, List.set_cons_zero, List.set_cons_succ, i64_w, i32_w]
          rfl
        refine pure_ (i := 8) (N := some 24) (v := ?_) (a' := ?_) #[true, true, true, true, true, true, true, true, true] rfl rfl (by kernel_rfl) (fun _ _ _ h => h) (Or.inl ⟨by rfl, ?_⟩) ?_ ?_
        rotate_left
        · intro w'
          go_simp
          with_reducible rfl
        rotate_left
        · simp only [Act.put, List.setIfInBounds_toArray, List.set_cons_zero, List.set_cons_succ, i64_w, i32_w]
          rfl
        refine done_ (by kernel_rfl) ?_
        go_wp2
        go_meet
        case rel => exact ⟨by first | rfl | (simp; done), ⟨below_drew HB.out⟩⟩
      case rest =>
        obtain ⟨rfl, HBC⟩ := hcut
        clear hc0 gc0
        go_wp2_with fail
        go_roundg g0
        case measure => omega
        case rel => exact ⟨i + 1, by first | go_num | (congr 1; unfold wrap64; omega), ⟨by have := HG.out; omega⟩, HBC⟩
    · have hil : (l.length : Int) ≤ i := by omega
      clear hgi
      go_wp2
      go_ret
      exact ⟨rfl, HB.out⟩
theorem cell_b {w w' : World} (hb : Below w.heap.size w w') {a : Addr} {v : Value} (hc : w.cell? a = some v) : w'.cell? a = some v := (hb.cell (World.block_lt_of_cell? w a hc)).trans hc
def acells (x : S37) (A : Option Addr) (c : Nat) : Array Value := #[.int .i64 x.f0, .int .i32 x.f1, .int .u8 x.f2, .string x.f3, .slice A x.f4.length c, .string x.f5]
theorem at_act {w : World} {A : Option Addr} {l : List S37} (h : Kd.C k37 w A l.length l) (i : Nat) (hi : i < l.length) : ∃ ad A4 c4, A = some ad ∧ w.cell? (ad.add (i * 6)) = some (.int .i64 l[i].f0) ∧ w.cell? ⟨(ad.add (i * 6)).block, (ad.add (i * 6)).off + 1, none⟩ = some (.int .i32 l[i].f1) ∧ w.cell? ⟨(ad.add (i * 6)).block, (ad.add (i * 6)).off + 2, none⟩ = some (.int .u8 l[i].f2) ∧ w.cell? ⟨(ad.add (i * 6)).block, (ad.add (i * 6)).off + 3, none⟩ = some (.string l[i].f3) ∧ w.cell? ⟨(ad.add (i * 6)).block, (ad.add (i * 6)).off + 4, none⟩ = some (.slice A4 l[i].f4.length c4) ∧ w.cell? ⟨(ad.add (i * 6)).block, (ad.add (i * 6)).off + 5, none⟩ = some (.string l[i].f5) ∧ Kd.C (Kd.int .i64) w A4 l[i].f4.length l[i].f4 := by
  have e : Go.Proofs.YtkdkajcokoggiaaDoor.PVtParts.rd_T37 l (i : Int) = l[i] := by
    unfold Go.Proofs.YtkdkajcokoggiaaDoor.PVtParts.rd_T37
    rw [Int.toNat_natCast, List.getD_eq_getElem?_getD, List.getElem?_eq_getElem hi]; rfl
  obtain ⟨ad, A4, c4, ea, h0, h1, h2, h3, h4, h5, h6⟩ := Go.Proofs.YtkdkajcokoggiaaDoor.PVtParts.at_T37 h (i : Int) (by omega) (by omega)
  rw [Int.toNat_natCast, e] at h0 h1 h2 h3 h4 h5
  rw [e] at h6
  exact ⟨ad, A4, c4, ea, h0, h1, h2, h3, h4, h5, h6.2⟩
set_option maxHeartbeats 3200000 in
set_option maxRecDepth 100000 in
theorem same_c (A B : Option Addr) (c c2 : Nat) (l : List S37) (w : World) (hr : Kd.C k37 w A l.length l) (hr2 : Kd.C k37 w B l.length l) (hl : l.length < 1000000) (hp : ∀ a ∈ l, a.f4.length ≤ 8) :
    Calls Tryd.prog 12 #[.slice A l.length c, .slice B l.length c2] w fun e w' => e = .returned (.bool true) ∧ Below w.heap.size w w' := by
  have hua := Tryd.underlying37
  have HR := Aside0.mk hr
  have HR2 := Aside0.mk hr2
  have HP := Aside0.mk hp
  have hl2 : (l.length : Int) < 1000000 := by omega
  clear hr hl hr2 hp
  go_enter Tryd.func12, Tryd.ntmps12
  go_wp2
  go_loopg [15] l.length (fun g v15 W => ∃ (i : Nat), v15 = .int .i64 (i : Int) ∧ Aside0 (g + i = l.length) ∧ Aside0 (Below w.heap.size w W))
  case atStart => exact ⟨0, rfl, ⟨by omega⟩, ⟨Below.refl _ _⟩⟩
  case round =>
    obtain ⟨i, rfl, HG, HB⟩ := hrel
    have hgi := HG.out
    by_cases hi : i < l.length
    · obtain ⟨g0, rfl⟩ : ∃ g0, gk = g0 + 1 := ⟨gk - 1, by omega⟩
      have hp8 := HP.out l[i] (List.getElem_mem hi)
      obtain ⟨ad, A4, c4, ead, hc0, hc1, hc2, hc3, hc4, hc5, hC⟩ := at_act (Kd.C_below HR.out HB.out) i hi
      obtain ⟨ad2, B4, d4, ead2, gc0, gc1, gc2, gc3, gc4, gc5, gC⟩ := at_act (Kd.C_below HR2.out HB.out) i hi
      obtain ⟨x, hx⟩ : ∃ x, x = l[i] := ⟨_, rfl⟩
      rw [← hx] at hc0 hc1 hc2 hc3 hc4 hc5 gc0 gc1 gc2 gc3 gc4 gc5 hC gC hp8
      have HC4 := Aside0.mk hC
      have GC4 := Aside0.mk gC
      have HP8 := Aside0.mk hp8
      have hil : (i : Int) < l.length := by omega
      subst ead
      subst ead2
      clear hx hgi hi hC gC hp8
      obtain ⟨x0, x1, x2, x3, x4, x5⟩ := x
      dsimp only at hc0 hc1 hc2 hc3 hc4 hc5 gc0 gc1 gc2 gc3 gc4 gc5 HC4 GC4 HP8
      have GA := Aside0.mk (And.intro gc0 (And.intro gc1 (And.intro gc2 (And.intro gc3 (And.intro gc4 gc5)))))
      have HW0 := Aside0.mk (show wr = wr from rfl)
      clear gc0 gc1 gc2 gc3 gc4 gc5
      go_upto_region 5 with fail
      go_cut [5, 6] (fun v5 v6 W => ∃ gx : Nat, v5 = .int .i64 (i : Int) ∧ v6 = .pointer (some ⟨gx, 0, none⟩) ∧ Aside0 (W.heap[gx]? = some (.cells #[.int .i64 x0, .int .i32 x1, .int .u8 x2, .string x3, .slice A4 x4.length c4, .string x5] 37 (0, 0))) ∧ Aside0 (Below wr.heap.size wr W))
      case first =>
        go_wp2
        go_meet
        case rel => exact ⟨_, rfl, rfl, ⟨blk_new _ _⟩, ⟨below_alloc (Below.refl _ _) _⟩⟩
      case rest =>
        obtain ⟨gx, rfl, rfl, HGX, HB1⟩ := hcut
        have gc0 := cell_b HB1.out GA.out.1
        have gc1 := cell_b HB1.out GA.out.2.1
        have gc2 := cell_b HB1.out GA.out.2.2.1
        have gc3 := cell_b HB1.out GA.out.2.2.2.1
        have gc4 := cell_b HB1.out GA.out.2.2.2.2.1
        have gc5 := cell_b HB1.out GA.out.2.2.2.2.2
        clear hc0 hc1 hc2 hc3 hc4 hc5
        go_upto_region 6 with fail
        go_cut [7] (fun v7 W => ∃ gy : Nat, v7 = .pointer (some ⟨gy, 0, none⟩) ∧ Aside0 (W.heap[gy]? = some (.cells #[.int .i64 x0, .int .i32 x1, .int .u8 x2, .string x3, .slice B4 x4.length d4, .string x5] 37 (0, 0))) ∧ Aside0 (Below wc.heap.size wc W))
        case first =>
          go_wp2
          go_meet
          case rel => exact ⟨_, rfl, ⟨blk_new _ _⟩, ⟨below_alloc (Below.refl _ _) _⟩⟩
        case rest =>
          obtain ⟨gy, rfl, HGY, HB2⟩ := hcut
          have hx := blk_below HGX.out HB2.out
          have hy := HGY.out
          have HINT := Aside0.mk (ints_c A4 B4 c4 d4 x4 wc (Kd.C_below (Kd.C_below HC4.out HB1.out) HB2.out) (Kd.C_below (Kd.C_below GC4.out HB1.out) HB2.out) (by have := HP8.out; omega))
          have HBW := Aside0.mk (below_kept (below_kept HB.out HB1.out) HB2.out)
          clear gc0 gc1 gc2 gc3 gc4 gc5
          have hc0 : wc.cell? ⟨gx, 0, none⟩ = some (.int .i64 x0) := (blk_cell hx 0).trans rfl
          have hc1 : wc.cell? ⟨gx, 1, none⟩ = some (.int .i32 x1) := (blk_cell hx 1).trans rfl
          have hc2 : wc.cell? ⟨gx, 2, none⟩ = some (.int .u8 x2) := (blk_cell hx 2).trans rfl
          have hc3 : wc.cell? ⟨gx, 3, none⟩ = some (.string x3) := (blk_cell hx 3).trans rfl
          have hc4 : wc.cell? ⟨gx, 4, none⟩ = some (.slice A4 x4.length c4) := (blk_cell hx 4).trans rfl
          have hc5 : wc.cell? ⟨gx, 5, none⟩ = some (.string x5) := (blk_cell hx 5).trans rfl
          have gc0 : wc.cell? ⟨gy, 0, none⟩ = some (.int .i64 x0) := (blk_cell hy 0).trans rfl
          have gc1 : wc.cell? ⟨gy, 1, none⟩ = some (.int .i32 x1) := (blk_cell hy 1).trans rfl
          have gc2 : wc.cell? ⟨gy, 2, none⟩ = some (.int .u8 x2) := (blk_cell hy 2).trans rfl
          have gc3 : wc.cell? ⟨gy, 3, none⟩ = some (.string x3) := (blk_cell hy 3).trans rfl
          have gc4 : wc.cell? ⟨gy, 4, none⟩ = some (.slice B4 x4.length d4) := (blk_cell hy 4).trans rfl
          have gc5 : wc.cell? ⟨gy, 5, none⟩ = some (.string x5) := (blk_cell hy 5).trans rfl
          clear hx hy
          go_upto_region 7 with fail
          go_cut [64] (fun v64 W => v64 = .bool false ∧ Aside0 (Below w.heap.size w W))
          case first =>
            go_wp2_with fail
            refine HINT.out.mono ?_
            rintro e w5 ⟨rfl, hb⟩
            have HB5 := Aside0.mk (below_kept HBW.out hb)
            clear hb HINT
            go_wp2
            go_meet
            case rel => exact ⟨by first | rfl | (simp; done), HB5⟩
          case rest =>
            obtain ⟨rfl, HBC⟩ := hcut
            clear hc0 hc1 hc2 hc3 hc4 hc5 gc0 gc1 gc2 gc3 gc4 gc5
            go_wp2_with fail
            go_roundg g0
            case measure => omega
            case rel => exact ⟨i + 1, by first | go_num | (congr 1; unfold wrap64; omega), ⟨by have := HG.out; omega⟩, HBC⟩
    · have hil : (l.length : Int) ≤ i := by omega
      clear hgi
      go_wp2
      go_ret
      exact ⟨rfl, HB.out⟩
set_option maxHeartbeats 3200000 in
set_option maxRecDepth 100000 in
theorem alike_c (v : PR) (A B : Option Addr) (n c c2 : Nat) (w : World) (hr : Kd.C (Kd.int .i64) w A n v.ps) (hr2 : Kd.C (Kd.int .i64) w B n v.ps) (hp : v.ps.length ≤ 8) :
    Calls Tryd.prog 13 #[pval v (.slice A n c), pval v (.slice B n c2)] w fun e w' => e = .returned (.bool true) ∧ Below w.heap.size w w' := by
  have hup := Tryd.underlying28
  obtain rfl : n = v.ps.length := hr.1.symm
  have HR := Aside0.mk hr
  have HR2 := Aside0.mk hr2
  have HP := Aside0.mk hp
  unfold pval
  obtain ⟨pc, hpc⟩ : ∃ pc, pc = pcells v (.slice A v.ps.length c) := ⟨_, rfl⟩
  obtain ⟨qc, hqc⟩ : ∃ qc, qc = pcells v (.slice B v.ps.length c2) := ⟨_, rfl⟩
  rw [← hpc, ← hqc]
  have HPC := Aside0.mk (And.intro hpc hqc)
  clear hr hr2 hp hpc hqc
  go_enter Tryd.func13, Tryd.ntmps13
  go_upto_region 0 with fail
  go_cut [2, 3, 4] (fun v2 v3 v4 W => ∃ g gr : Nat, v2 = .pointer (some ⟨g, 0, none⟩) ∧ v3 = .pointer (some ⟨gr, 0, none⟩) ∧ v4 = .bool false ∧ Aside0 (V2 w W g gr pc qc))
  case first =>
    go_wp2_with fail
    go_meet
    case rel => exact ⟨_, _, rfl, rfl, rfl, ⟨V2.enter w pc qc⟩⟩
  case rest =>
    obtain ⟨g, gr, rfl, rfl, rfl, HV0⟩ := hcut
    have HV := Aside0.mk (show V2 w wc g gr (pcells v (.slice A v.ps.length c)) (pcells v (.slice B v.ps.length c2)) from by have h := HV0.out; rw [HPC.out.1, HPC.out.2] at h; exact h)
    have hc0 : wc.cell? ⟨g, 0, none⟩ = some (.int .i64 v.st) := (blk_cell HV.out.1 0).trans rfl
    have hc1 : wc.cell? ⟨g, 1, none⟩ = some (.int .u8 (v.u[0]?.getD 0)) := (blk_cell HV.out.1 1).trans rfl
    have hc2 : wc.cell? ⟨g, 2, none⟩ = some (.int .u8 (v.u[1]?.getD 0)) := (blk_cell HV.out.1 2).trans rfl
    have hc3 : wc.cell? ⟨g, 3, none⟩ = some (.int .u8 (v.u[2]?.getD 0)) := (blk_cell HV.out.1 3).trans rfl
    have hc4 : wc.cell? ⟨g, 4, none⟩ = some (.int .i64 v.u.length) := (blk_cell HV.out.1 4).trans rfl
    have hc5 : wc.cell? ⟨g, 5, none⟩ = some (.string v.mr) := (blk_cell HV.out.1 5).trans rfl
    have hc6 : wc.cell? ⟨g, 6, none⟩ = some (.slice A v.ps.length c) := (blk_cell HV.out.1 6).trans rfl
    have hc7 : wc.cell? ⟨g, 7, none⟩ = some (.string v.tx) := (blk_cell HV.out.1 7).trans rfl
    have hc8 : wc.cell? ⟨g, 8, none⟩ = some (.int .i64 v.wi) := (blk_cell HV.out.1 8).trans rfl
    have gc0 : wc.cell? ⟨gr, 0, none⟩ = some (.int .i64 v.st) := (blk_cell HV.out.2.1 0).trans rfl
    have gc1 : wc.cell? ⟨gr, 1, none⟩ = some (.int .u8 (v.u[0]?.getD 0)) := (blk_cell HV.out.2.1 1).trans rfl
    have gc2 : wc.cell? ⟨gr, 2, none⟩ = some (.int .u8 (v.u[1]?.getD 0)) := (blk_cell HV.out.2.1 2).trans rfl
    have gc3 : wc.cell? ⟨gr, 3, none⟩ = some (.int .u8 (v.u[2]?.getD 0)) := (blk_cell HV.out.2.1 3).trans rfl
    have gc4 : wc.cell? ⟨gr, 4, none⟩ = some (.int .i64 v.u.length) := (blk_cell HV.out.2.1 4).trans rfl
    have gc5 : wc.cell? ⟨gr, 5, none⟩ = some (.string v.mr) := (blk_cell HV.out.2.1 5).trans rfl
    have gc6 : wc.cell? ⟨gr, 6, none⟩ = some (.slice B v.ps.length c2) := (blk_cell HV.out.2.1 6).trans rfl
    have gc7 : wc.cell? ⟨gr, 7, none⟩ = some (.string v.tx) := (blk_cell HV.out.2.1 7).trans rfl
    have gc8 : wc.cell? ⟨gr, 8, none⟩ = some (.int .i64 v.wi) := (blk_cell HV.out.2.1 8).trans rfl
    have HINT := Aside0.mk (ints_c A B c c2 v.ps wc (Kd.C_below HR.out HV.out.2.2.2.2.2) (Kd.C_below HR2.out HV.out.2.2.2.2.2) (by have := HP.out; omega))
    have HBW := Aside0.mk HV.out.2.2.2.2.2
    have harr := fun W => ArrEq.eql_same (v.u[0]?.getD 0) (v.u[1]?.getD 0) (v.u[2]?.getD 0) W
    clear HV0 HPC HV
    go_wp2_with fail
    refine HINT.out.mono ?_
    rintro e w5 ⟨rfl, hb⟩
    have HB5 := Aside0.mk (below_kept HBW.out hb)
    clear hb HINT
    go_wp2
    go_ret
    exact ⟨rfl, HB5.out⟩
end Go.Proofs.YtkdkajcokoggiaaDoor.VtSame
