/- Several texts as one: VtRightA, VtDecEq, UtfRight, VtRightB, VtRightC. -/
import Derived.Test.YtkdkajcokoggiaaDoorUtfFeed
import Derived.Deep.CutBlock
import Derived.Test.YtkdkajcokoggiaaDoorArrEq
import Derived.Test.YtkdkajcokoggiaaDoorWEqStruct
import Derived.Test.YtkdkajcokoggiaaDoorVtInv
import Derived.Test.YtkdkajcokoggiaaDoorVtSmall
/- Of vt.Parser.Right: low, wide, marks, numbers and text, as contracts over every parser. -/
namespace Go.Proofs.YtkdkajcokoggiaaDoor.VtRightA
open Go.RowKit Go.Proofs.YtkdkajcokoggiaaDoor.Kit Go.Proofs.YtkdkajcokoggiaaDoor.Plain Go.Proofs.YtkdkajcokoggiaaDoor.Mine Go.Proofs.YtkdkajcokoggiaaDoor.UtfPure Go.Proofs.YtkdkajcokoggiaaDoor.UtfFull Go.Proofs.YtkdkajcokoggiaaDoor.UtfFeed Go.Proofs.YtkdkajcokoggiaaDoorW.PrintWords Go.Proofs.YtkdkajcokoggiaaDoorW.PrintLast Go.Proofs.YtkdkajcokoggiaaDoorW.PrintMore
set_option linter.unusedVariables false
set_option linter.unusedSimpArgs false
theorem cell_b2 {w w' : World} (hb : Below w.heap.size w w') {a : Addr} {v : Value} (hc : w.cell? a = some v) : w'.cell? a = some v := (hb.cell (World.block_lt_of_cell? w a hc)).trans hc
def lowB (c : Int) : Bool := decide (32 ≤ c) && decide (c < 48)
def wideB (c : Int) : Bool := lowB c || (decide (60 ≤ c) && decide (c ≤ 63))
def marksB (lo hi : Nat) (m : Int → Bool) (mr : ByteArray) : Bool := decide (lo ≤ mr.size) && (decide (mr.size ≤ hi) && (bytesOf mr).all m)
def numsB (ps : List Int) : Bool := ps.all (fun n => decide (0 ≤ n) && decide (n ≤ 9999)) && decide (ps.length ≤ 8)
def textB (tx : ByteArray) : Bool := (bytesOf tx).all (fun c => decide (32 ≤ c)) && decide (tx.size ≤ 40)
set_option maxHeartbeats 800000 in
set_option maxRecDepth 100000 in
theorem low_c (c : Int) (w : World) : Calls Tryd.prog 31 #[.int .u8 c] w fun e w' => e = .returned (.bool (lowB c)) ∧ Below w.heap.size w w' := by
  unfold lowB
  by_cases h1 : 32 ≤ c
  · by_cases h2 : c < 48
    · rw [decide_eq_true h1, decide_eq_true h2]
      go_enter Tryd.func31, Tryd.ntmps31
      go_wp2
      go_ret
      exact ⟨rfl, Below.refl _ _⟩
    · rw [decide_eq_true h1, decide_eq_false h2]
      have h3 : 48 ≤ c := by omega
      go_enter Tryd.func31, Tryd.ntmps31
      go_wp2
      go_ret
      exact ⟨rfl, Below.refl _ _⟩
  · rw [decide_eq_false h1]
    have h3 : c < 32 := by omega
    have h4 : decide (32 ≤ c) = false := decide_eq_false h1
    clear h1
    go_enter Tryd.func31, Tryd.ntmps31
    go_wp2
    go_ret
    exact ⟨rfl, Below.refl _ _⟩
set_option maxHeartbeats 800000 in
set_option maxRecDepth 100000 in
theorem wide_c (c : Int) (w : World) : Calls Tryd.prog 32 #[.int .u8 c] w fun e w' => e = .returned (.bool (wideB c)) ∧ Below w.heap.size w w' := by
  have HL := Aside0.mk (low_c c w)
  obtain ⟨r, hr⟩ : ∃ r, r = wideB c := ⟨_, rfl⟩
  rw [← hr]
  have HR := Aside0.mk hr
  obtain ⟨l, hl⟩ : ∃ l, l = lowB c := ⟨_, rfl⟩
  rw [← hl] at HL
  have HLB := Aside0.mk hl
  clear hr hl
  cases l
  · by_cases h1 : 60 ≤ c
    · by_cases h2 : c ≤ 63
      · go_enter Tryd.func32, Tryd.ntmps32
        go_wp2_with fail
        refine HL.out.mono ?_
        rintro e w1 ⟨rfl, hb⟩
        have HB := Aside0.mk hb
        have H1 := Aside0.mk (And.intro h1 h2)
        clear hb
        go_wp2
        go_ret
        exact ⟨by rw [HR.out, wideB, ← HLB.out, decide_eq_true H1.out.1, decide_eq_true H1.out.2]; rfl, HB.out⟩
      · have h3 : decide (c ≤ 63) = false := decide_eq_false h2
        have h4 : 63 < c := by omega
        have H1 := Aside0.mk (And.intro h1 h2)
        clear h2
        go_enter Tryd.func32, Tryd.ntmps32
        go_wp2_with fail
        refine HL.out.mono ?_
        rintro e w1 ⟨rfl, hb⟩
        have HB := Aside0.mk hb
        clear hb
        go_wp2
        go_ret
        exact ⟨by rw [HR.out, wideB, ← HLB.out, decide_eq_true H1.out.1, decide_eq_false (show ¬ c ≤ 63 by have := H1.out; omega)]; rfl, HB.out⟩
    · have h3 : decide (60 ≤ c) = false := decide_eq_false h1
      have h4 : c < 60 := by omega
      have H1 := Aside0.mk h1
      clear h1
      go_enter Tryd.func32, Tryd.ntmps32
      go_wp2_with fail
      refine HL.out.mono ?_
      rintro e w1 ⟨rfl, hb⟩
      have HB := Aside0.mk hb
      clear hb
      go_wp2
      go_ret
      exact ⟨by rw [HR.out, wideB, ← HLB.out, decide_eq_false (show ¬ 60 ≤ c by have := H1.out; omega)]; rfl, HB.out⟩
  · go_enter Tryd.func32, Tryd.ntmps32
    go_wp2_with fail
    refine HL.out.mono ?_
    rintro e w1 ⟨rfl, hb⟩
    have HB := Aside0.mk hb
    clear hb
    go_wp2
    go_ret
    exact ⟨by rw [HR.out, wideB, ← HLB.out]; rfl, HB.out⟩
/-- A list's test, index by index. -/
theorem all_true {l : List Int} {m : Int → Bool} (h : ∀ j, j < l.length → m (l.getD j 0) = true) : l.all m = true := by
  rw [List.all_eq_true]
  intro x hx
  obtain ⟨i, hi, rfl⟩ := List.mem_iff_getElem.1 hx
  have h1 := h i hi
  rwa [List.getD_eq_getElem?_getD, List.getElem?_eq_getElem hi] at h1
theorem all_false {l : List Int} {m : Int → Bool} (i : Nat) (hi : i < l.length) (h : m (l.getD i 0) = false) : l.all m = false := by
  rw [List.all_eq_false]
  rw [List.getD_eq_getElem?_getD, List.getElem?_eq_getElem hi] at h
  exact ⟨l[i], List.getElem_mem hi, by simpa using h⟩
theorem upto {p : Nat → Prop} {i : Nat} (h : ∀ j, j < i → p j) (hi : p i) : ∀ j, j < i + 1 → p j := fun j hj => (Nat.lt_or_ge j i).elim (fun a => h j a) (fun a => (show i = j by omega) ▸ hi)
set_option maxHeartbeats 1600000 in
set_option maxRecDepth 100000 in
theorem marks_low_c (m : Int → Bool) (hf : ∀ (c : Int) (W : World), Calls Tryd.prog 31 #[.int .u8 c] W fun e w' => e = .returned (.bool (m c)) ∧ Below W.heap.size W w') (st b0 b1 b2 n : Int) (mr : ByteArray) (pv : Value) (tx : ByteArray) (wi : Int) (lo hi : Nat) (w : World) (hz : mr.size ≤ 1000) :
    Calls Tryd.prog 30 #[.agg #[.int .i64 st, .int .u8 b0, .int .u8 b1, .int .u8 b2, .int .i64 n, .string mr, pv, .string tx, .int .i64 wi], .int .i64 (lo : Int), .int .i64 (hi : Int), .func (.func 31) #[] #[]] w fun e w' => e = .returned (.bool (marksB lo hi m mr)) ∧ Below w.heap.size w w' := by
  have hup := Tryd.underlying28
  have HFF := Aside0.mk hf
  have hzI : (mr.size : Int) ≤ 1000 := by omega
  have HZ := Aside0.mk hz
  obtain ⟨pc, hpc⟩ : ∃ pc : Array Value, pc = #[.int .i64 st, .int .u8 b0, .int .u8 b1, .int .u8 b2, .int .i64 n, .string mr, pv, .string tx, .int .i64 wi] := ⟨_, rfl⟩
  rw [show (.agg #[.int .i64 st, .int .u8 b0, .int .u8 b1, .int .u8 b2, .int .i64 n, .string mr, pv, .string tx, .int .i64 wi] : Value) = .agg pc from by rw [hpc]]
  have HPC := Aside0.mk hpc
  obtain ⟨r, hr⟩ : ∃ r, r = marksB lo hi m mr := ⟨_, rfl⟩
  rw [← hr]
  have HR := Aside0.mk hr
  clear hf hpc hr hz
  go_enter Tryd.func30, Tryd.ntmps30
  go_upto_region 0 with fail
  go_cut [4, 8] (fun v4 v8 W => ∃ g : Nat, v4 = .pointer (some ⟨g, 0, none⟩) ∧ v8 = .bool false ∧ Aside0 (W.heap[g]? = some (.cells pc 28 (0, 0))) ∧ Aside0 (Below w.heap.size w W))
  case first =>
    go_wp2_with fail
    go_meet
    case rel => exact ⟨_, rfl, rfl, ⟨blk_new _ _⟩, ⟨below_alloc (Below.refl _ _) _⟩⟩
  case rest =>
    obtain ⟨g, rfl, rfl, HG, HB⟩ := hcut
    have k5 : wc.cell? ⟨g, 5, none⟩ = some (.string mr) := (blk_cell HG.out 5).trans (by rw [HPC.out]; rfl)
    by_cases h1 : mr.size < lo
    · have h1' : (mr.size : Int) < lo := by omega
      have H1 := Aside0.mk h1
      clear h1
      go_wp2
      go_ret
      exact ⟨by rw [HR.out, marksB, decide_eq_false (by have := H1.out; omega)]; rfl, HB.out⟩
    · by_cases h2 : hi < mr.size
      · have h1' : (lo : Int) ≤ mr.size := by omega
        have h2' : (hi : Int) < mr.size := by omega
        have H2 := Aside0.mk h2
        clear h1 h2
        go_wp2
        go_ret
        exact ⟨by rw [HR.out, marksB, decide_eq_false (show ¬ mr.size ≤ hi by have := H2.out; omega), Bool.false_and, Bool.and_false]; rfl, HB.out⟩
      · have h1' : (lo : Int) ≤ mr.size := by omega
        have h2' : (mr.size : Int) ≤ hi := by omega
        have H12 := Aside0.mk (show lo ≤ mr.size ∧ mr.size ≤ hi from ⟨by omega, by omega⟩)
        have kb := fun W => print_bytes (P := Tryd.prog) 9 42 5 Tryd.underlying9 Tryd.underlying42 Tryd.underlying5 mr W
        obtain ⟨wb, hwb⟩ : ∃ wb, wb = Lib.bytesWorld wc 5 mr := ⟨_, rfl⟩
        have HRD := Aside0.mk (show ReadsInt wb .u8 (some ⟨wc.heap.size, 0, none⟩) mr.size (bytesOf mr) from by rw [hwb]; exact bytes_reads wc 5 mr (by omega))
        have HBB := Aside0.mk (show Below w.heap.size w wb from by rw [hwb]; exact bytes_below HB.out HB.out.size 5 mr)
        have HWB := Aside0.mk hwb
        clear h1 h2 hwb
        go_wp2_with fail
        rw [← HWB.out, show decide (mr.size < lo) = false from decide_eq_false (by have := H12.out; omega), show decide (hi < mr.size) = false from decide_eq_false (by have := H12.out; omega), Bool.or_false]
        go_loopg [27] mr.size (fun gk v27 W => ∃ i : Nat, v27 = .int .i64 (i : Int) ∧ Aside0 (gk + i = mr.size) ∧ Aside0 (Below wb.heap.size wb W) ∧ Aside0 (∀ j, j < i → m ((bytesOf mr).getD j 0) = true))
        case atStart => exact ⟨0, rfl, ⟨by omega⟩, ⟨Below.refl _ _⟩, ⟨fun j h => absurd h (Nat.not_lt_zero _)⟩⟩
        case round =>
          obtain ⟨i, rfl, HGK, HBW, HM⟩ := hrel
          have hgi := HGK.out
          by_cases hi : i < mr.size
          · obtain ⟨g0, rfl⟩ : ∃ g0, gk = g0 + 1 := ⟨gk - 1, by omega⟩
            obtain ⟨ad, ead, hcc⟩ := HRD.out.2.2 (by omega)
            injection ead with ead
            have hc0 := hcc i hi
            rw [← ead, show (⟨wc.heap.size, 0, none⟩ : Addr).add i = ⟨wc.heap.size, i, none⟩ from add_plain _ _] at hc0
            obtain ⟨x, hx⟩ : ∃ x, x = (bytesOf mr).getD i 0 := ⟨_, rfl⟩
            rw [← hx] at hc0
            have hc := cell_b2 HBW.out hc0
            have HX := Aside0.mk hx
            have hil : (i : Int) < mr.size := by omega
            have HI := Aside0.mk hi
            have HFX := Aside0.mk (HFF.out x wr)
            clear hx hcc ead hc0 hgi hi
            go_wp2_with fail
            refine HFX.out.mono ?_
            rintro e w5 ⟨rfl, hb⟩
            have HB5 := Aside0.mk (HBW.out.trans (hb.mono HBW.out.size))
            obtain ⟨mb, hmb⟩ : ∃ mb, mb = m x := ⟨_, rfl⟩
            rw [← hmb]
            have HMB := Aside0.mk hmb
            clear hb hmb hc
            cases mb
            · go_wp2
              go_ret
              exact ⟨by rw [HR.out, marksB, all_false i (by rw [bytesOf_length]; exact HI.out) (by rw [← HX.out]; exact HMB.out.symm), Bool.and_false, Bool.and_false]; rfl, HBB.out.trans (HB5.out.mono HBB.out.size)⟩
            · go_wp2_with fail
              go_roundg g0
              case measure => omega
              case rel => exact ⟨i + 1, by first | go_num | (congr 1; unfold wrap64; omega), ⟨by have := HGK.out; omega⟩, HB5, ⟨upto HM.out (by rw [← HX.out]; exact HMB.out.symm)⟩⟩
          · have hil : (mr.size : Int) ≤ i := by omega
            have HI := Aside0.mk hi
            clear hgi hi
            go_wp2
            go_ret
            exact ⟨by rw [HR.out, marksB, decide_eq_true H12.out.1, decide_eq_true H12.out.2, all_true (fun j hj => HM.out j (by rw [bytesOf_length] at hj; have := HI.out; omega))]; rfl, HBB.out.trans (HBW.out.mono HBB.out.size)⟩
set_option maxHeartbeats 1600000 in
set_option maxRecDepth 100000 in
theorem marks_wide_c (m : Int → Bool) (hf : ∀ (c : Int) (W : World), Calls Tryd.prog 32 #[.int .u8 c] W fun e w' => e = .returned (.bool (m c)) ∧ Below W.heap.size W w') (st b0 b1 b2 n : Int) (mr : ByteArray) (pv : Value) (tx : ByteArray) (wi : Int) (lo hi : Nat) (w : World) (hz : mr.size ≤ 1000) :
    Calls Tryd.prog 30 #[.agg #[.int .i64 st, .int .u8 b0, .int .u8 b1, .int .u8 b2, .int .i64 n, .string mr, pv, .string tx, .int .i64 wi], .int .i64 (lo : Int), .int .i64 (hi : Int), .func (.func 32) #[] #[]] w fun e w' => e = .returned (.bool (marksB lo hi m mr)) ∧ Below w.heap.size w w' := by
  have hup := Tryd.underlying28
  have HFF := Aside0.mk hf
  have hzI : (mr.size : Int) ≤ 1000 := by omega
  have HZ := Aside0.mk hz
  obtain ⟨pc, hpc⟩ : ∃ pc : Array Value, pc = #[.int .i64 st, .int .u8 b0, .int .u8 b1, .int .u8 b2, .int .i64 n, .string mr, pv, .string tx, .int .i64 wi] := ⟨_, rfl⟩
  rw [show (.agg #[.int .i64 st, .int .u8 b0, .int .u8 b1, .int .u8 b2, .int .i64 n, .string mr, pv, .string tx, .int .i64 wi] : Value) = .agg pc from by rw [hpc]]
  have HPC := Aside0.mk hpc
  obtain ⟨r, hr⟩ : ∃ r, r = marksB lo hi m mr := ⟨_, rfl⟩
  rw [← hr]
  have HR := Aside0.mk hr
  clear hf hpc hr hz
  go_enter Tryd.func30, Tryd.ntmps30
  go_upto_region 0 with fail
  go_cut [4, 8] (fun v4 v8 W => ∃ g : Nat, v4 = .pointer (some ⟨g, 0, none⟩) ∧ v8 = .bool false ∧ Aside0 (W.heap[g]? = some (.cells pc 28 (0, 0))) ∧ Aside0 (Below w.heap.size w W))
  case first =>
    go_wp2_with fail
    go_meet
    case rel => exact ⟨_, rfl, rfl, ⟨blk_new _ _⟩, ⟨below_alloc (Below.refl _ _) _⟩⟩
  case rest =>
    obtain ⟨g, rfl, rfl, HG, HB⟩ := hcut
    have k5 : wc.cell? ⟨g, 5, none⟩ = some (.string mr) := (blk_cell HG.out 5).trans (by rw [HPC.out]; rfl)
    by_cases h1 : mr.size < lo
    · have h1' : (mr.size : Int) < lo := by omega
      have H1 := Aside0.mk h1
      clear h1
      go_wp2
      go_ret
      exact ⟨by rw [HR.out, marksB, decide_eq_false (by have := H1.out; omega)]; rfl, HB.out⟩
    · by_cases h2 : hi < mr.size
      · have h1' : (lo : Int) ≤ mr.size := by omega
        have h2' : (hi : Int) < mr.size := by omega
        have H2 := Aside0.mk h2
        clear h1 h2
        go_wp2
        go_ret
        exact ⟨by rw [HR.out, marksB, decide_eq_false (show ¬ mr.size ≤ hi by have := H2.out; omega), Bool.false_and, Bool.and_false]; rfl, HB.out⟩
      · have h1' : (lo : Int) ≤ mr.size := by omega
        have h2' : (mr.size : Int) ≤ hi := by omega
        have H12 := Aside0.mk (show lo ≤ mr.size ∧ mr.size ≤ hi from ⟨by omega, by omega⟩)
        have kb := fun W => print_bytes (P := Tryd.prog) 9 42 5 Tryd.underlying9 Tryd.underlying42 Tryd.underlying5 mr W
        obtain ⟨wb, hwb⟩ : ∃ wb, wb = Lib.bytesWorld wc 5 mr := ⟨_, rfl⟩
        have HRD := Aside0.mk (show ReadsInt wb .u8 (some ⟨wc.heap.size, 0, none⟩) mr.size (bytesOf mr) from by rw [hwb]; exact bytes_reads wc 5 mr (by omega))
        have HBB := Aside0.mk (show Below w.heap.size w wb from by rw [hwb]; exact bytes_below HB.out HB.out.size 5 mr)
        have HWB := Aside0.mk hwb
        clear h1 h2 hwb
        go_wp2_with fail
        rw [← HWB.out, show decide (mr.size < lo) = false from decide_eq_false (by have := H12.out; omega), show decide (hi < mr.size) = false from decide_eq_false (by have := H12.out; omega), Bool.or_false]
        go_loopg [27] mr.size (fun gk v27 W => ∃ i : Nat, v27 = .int .i64 (i : Int) ∧ Aside0 (gk + i = mr.size) ∧ Aside0 (Below wb.heap.size wb W) ∧ Aside0 (∀ j, j < i → m ((bytesOf mr).getD j 0) = true))
        case atStart => exact ⟨0, rfl, ⟨by omega⟩, ⟨Below.refl _ _⟩, ⟨fun j h => absurd h (Nat.not_lt_zero _)⟩⟩
        case round =>
          obtain ⟨i, rfl, HGK, HBW, HM⟩ := hrel
          have hgi := HGK.out
          by_cases hi : i < mr.size
          · obtain ⟨g0, rfl⟩ : ∃ g0, gk = g0 + 1 := ⟨gk - 1, by omega⟩
            obtain ⟨ad, ead, hcc⟩ := HRD.out.2.2 (by omega)
            injection ead with ead
            have hc0 := hcc i hi
            rw [← ead, show (⟨wc.heap.size, 0, none⟩ : Addr).add i = ⟨wc.heap.size, i, none⟩ from add_plain _ _] at hc0
            obtain ⟨x, hx⟩ : ∃ x, x = (bytesOf mr).getD i 0 := ⟨_, rfl⟩
            rw [← hx] at hc0
            have hc := cell_b2 HBW.out hc0
            have HX := Aside0.mk hx
            have hil : (i : Int) < mr.size := by omega
            have HI := Aside0.mk hi
            have HFX := Aside0.mk (HFF.out x wr)
            clear hx hcc ead hc0 hgi hi
            go_wp2_with fail
            refine HFX.out.mono ?_
            rintro e w5 ⟨rfl, hb⟩
            have HB5 := Aside0.mk (HBW.out.trans (hb.mono HBW.out.size))
            obtain ⟨mb, hmb⟩ : ∃ mb, mb = m x := ⟨_, rfl⟩
            rw [← hmb]
            have HMB := Aside0.mk hmb
            clear hb hmb hc
            cases mb
            · go_wp2
              go_ret
              exact ⟨by rw [HR.out, marksB, all_false i (by rw [bytesOf_length]; exact HI.out) (by rw [← HX.out]; exact HMB.out.symm), Bool.and_false, Bool.and_false]; rfl, HBB.out.trans (HB5.out.mono HBB.out.size)⟩
            · go_wp2_with fail
              go_roundg g0
              case measure => omega
              case rel => exact ⟨i + 1, by first | go_num | (congr 1; unfold wrap64; omega), ⟨by have := HGK.out; omega⟩, HB5, ⟨upto HM.out (by rw [← HX.out]; exact HMB.out.symm)⟩⟩
          · have hil : (mr.size : Int) ≤ i := by omega
            have HI := Aside0.mk hi
            clear hgi hi
            go_wp2
            go_ret
            exact ⟨by rw [HR.out, marksB, decide_eq_true H12.out.1, decide_eq_true H12.out.2, all_true (fun j hj => HM.out j (by rw [bytesOf_length] at hj; have := HI.out; omega))]; rfl, HBB.out.trans (HBW.out.mono HBB.out.size)⟩
set_option maxHeartbeats 1600000 in
set_option maxRecDepth 100000 in
theorem text_c (st b0 b1 b2 n : Int) (mr : ByteArray) (pv : Value) (tx : ByteArray) (wi : Int) (w : World) (hz : tx.size ≤ 1000) :
    Calls Tryd.prog 34 #[.agg #[.int .i64 st, .int .u8 b0, .int .u8 b1, .int .u8 b2, .int .i64 n, .string mr, pv, .string tx, .int .i64 wi]] w fun e w' => e = .returned (.bool (textB tx)) ∧ Below w.heap.size w w' := by
  have hup := Tryd.underlying28
  have hzI : (tx.size : Int) ≤ 1000 := by omega
  have HZ := Aside0.mk hz
  obtain ⟨pc, hpc⟩ : ∃ pc : Array Value, pc = #[.int .i64 st, .int .u8 b0, .int .u8 b1, .int .u8 b2, .int .i64 n, .string mr, pv, .string tx, .int .i64 wi] := ⟨_, rfl⟩
  rw [show (.agg #[.int .i64 st, .int .u8 b0, .int .u8 b1, .int .u8 b2, .int .i64 n, .string mr, pv, .string tx, .int .i64 wi] : Value) = .agg pc from by rw [hpc]]
  have HPC := Aside0.mk hpc
  obtain ⟨r, hr⟩ : ∃ r, r = textB tx := ⟨_, rfl⟩
  rw [← hr]
  have HR := Aside0.mk hr
  clear hpc hr hz
  go_enter Tryd.func34, Tryd.ntmps34
  go_upto_region 0 with fail
  go_cut [1, 2] (fun v1 v2 W => ∃ g : Nat, v1 = .pointer (some ⟨g, 0, none⟩) ∧ v2 = .bool false ∧ Aside0 (W.heap[g]? = some (.cells pc 28 (0, 0))) ∧ Aside0 (Below w.heap.size w W))
  case first =>
    go_wp2_with fail
    go_meet
    case rel => exact ⟨_, rfl, rfl, ⟨blk_new _ _⟩, ⟨below_alloc (Below.refl _ _) _⟩⟩
  case rest =>
    obtain ⟨g, rfl, rfl, HG, HB⟩ := hcut
    have k7 : wc.cell? ⟨g, 7, none⟩ = some (.string tx) := (blk_cell HG.out 7).trans (by rw [HPC.out]; rfl)
    have kb := fun W => print_bytes (P := Tryd.prog) 9 42 5 Tryd.underlying9 Tryd.underlying42 Tryd.underlying5 tx W
    obtain ⟨wb, hwb⟩ : ∃ wb, wb = Lib.bytesWorld wc 5 tx := ⟨_, rfl⟩
    have HRD := Aside0.mk (show ReadsInt wb .u8 (some ⟨wc.heap.size, 0, none⟩) tx.size (bytesOf tx) from by rw [hwb]; exact bytes_reads wc 5 tx (by omega))
    have hbb0 : Below wc.heap.size wc wb := by rw [hwb]; exact bytes_below (Below.refl _ _) (Nat.le_refl _) 5 tx
    have HK7 := Aside0.mk (cell_b2 hbb0 k7)
    have HBB := Aside0.mk (show Below w.heap.size w wb from by rw [hwb]; exact bytes_below HB.out HB.out.size 5 tx)
    have HWB := Aside0.mk hwb
    clear hwb hbb0
    go_wp2_with fail
    rw [← HWB.out]
    go_loopg [9] tx.size (fun gk v9 W => ∃ i : Nat, v9 = .int .i64 (i : Int) ∧ Aside0 (gk + i = tx.size) ∧ W = wb ∧ Aside0 (∀ j, j < i → decide (32 ≤ (bytesOf tx).getD j 0) = true))
    case atStart => exact ⟨0, rfl, ⟨by omega⟩, rfl, ⟨fun j h => absurd h (Nat.not_lt_zero _)⟩⟩
    case round =>
      obtain ⟨i, rfl, HGK, rfl, HM⟩ := hrel
      have hgi := HGK.out
      by_cases hi : i < tx.size
      · obtain ⟨g0, rfl⟩ : ∃ g0, gk = g0 + 1 := ⟨gk - 1, by omega⟩
        obtain ⟨ad, ead, hcc⟩ := HRD.out.2.2 (by omega)
        injection ead with ead
        have hc0 := hcc i hi
        rw [← ead, show (⟨wc.heap.size, 0, none⟩ : Addr).add i = ⟨wc.heap.size, i, none⟩ from add_plain _ _] at hc0
        obtain ⟨x, hx⟩ : ∃ x, x = (bytesOf tx).getD i 0 := ⟨_, rfl⟩
        rw [← hx] at hc0
        have HX := Aside0.mk hx
        have hil : (i : Int) < tx.size := by omega
        have HI := Aside0.mk hi
        clear hx hcc ead hgi hi k7 kb
        by_cases h32 : x < 32
        · have H32 := Aside0.mk h32
          go_wp2
          go_ret
          exact ⟨by rw [HR.out, textB, all_false i (by rw [bytesOf_length]; exact HI.out) (by rw [← HX.out]; exact decide_eq_false (by have := H32.out; omega)), Bool.false_and]; rfl, HBB.out⟩
        · have h32' : 32 ≤ x := by omega
          have H32 := Aside0.mk h32'
          clear h32
          go_wp2_with fail
          go_roundg g0
          case measure => omega
          case rel => exact ⟨i + 1, by first | go_num | (congr 1; unfold wrap64; omega), ⟨by have := HGK.out; omega⟩, rfl, ⟨upto HM.out (by rw [← HX.out]; exact decide_eq_true H32.out)⟩⟩
      · have hil : (tx.size : Int) ≤ i := by omega
        have HI := Aside0.mk hi
        have hall : (bytesOf tx).all (fun c => decide (32 ≤ c)) = true := all_true (fun j hj => HM.out j (by rw [bytesOf_length] at hj; omega))
        have HALL := Aside0.mk hall
        have kk := HK7.out
        clear hgi hi hall k7 kb
        by_cases h40 : tx.size ≤ 40
        · have h40' : (tx.size : Int) ≤ 40 := by omega
          have H40 := Aside0.mk h40
          clear h40
          go_wp2
          go_ret
          exact ⟨by rw [HR.out, textB, HALL.out, decide_eq_true H40.out]; rfl, HBB.out⟩
        · have h40' : decide ((tx.size : Int) ≤ 40) = false := decide_eq_false (by omega)
          have h41 : (40 : Int) < tx.size := by omega
          have H40 := Aside0.mk h40
          clear h40
          go_wp2
          go_ret
          exact ⟨by rw [HR.out, textB, HALL.out, decide_eq_false H40.out]; rfl, HBB.out⟩
set_option maxHeartbeats 1600000 in
set_option maxRecDepth 100000 in
theorem numbers_c (st b0 b1 b2 n : Int) (mr : ByteArray) (A : Option Addr) (cp : Nat) (ps : List Int) (tx : ByteArray) (wi : Int) (w : World) (hps : Kd.C (Kd.int .i64) w A ps.length ps) (hz : ps.length ≤ 1000) :
    Calls Tryd.prog 33 #[.agg #[.int .i64 st, .int .u8 b0, .int .u8 b1, .int .u8 b2, .int .i64 n, .string mr, .slice A ps.length cp, .string tx, .int .i64 wi]] w fun e w' => e = .returned (.bool (numsB ps)) ∧ Below w.heap.size w w' := by
  have hup := Tryd.underlying28
  have hzI : (ps.length : Int) ≤ 1000 := by omega
  have HZ := Aside0.mk hz
  have HPS := Aside0.mk hps
  obtain ⟨pc, hpc⟩ : ∃ pc : Array Value, pc = #[.int .i64 st, .int .u8 b0, .int .u8 b1, .int .u8 b2, .int .i64 n, .string mr, .slice A ps.length cp, .string tx, .int .i64 wi] := ⟨_, rfl⟩
  rw [show (.agg #[.int .i64 st, .int .u8 b0, .int .u8 b1, .int .u8 b2, .int .i64 n, .string mr, .slice A ps.length cp, .string tx, .int .i64 wi] : Value) = .agg pc from by rw [hpc]]
  have HPC := Aside0.mk hpc
  obtain ⟨r, hr⟩ : ∃ r, r = numsB ps := ⟨_, rfl⟩
  rw [← hr]
  have HR := Aside0.mk hr
  clear hpc hr hz hps
  go_enter Tryd.func33, Tryd.ntmps33
  go_upto_region 0 with fail
  go_cut [1, 2] (fun v1 v2 W => ∃ g : Nat, v1 = .pointer (some ⟨g, 0, none⟩) ∧ v2 = .bool false ∧ Aside0 (W.heap[g]? = some (.cells pc 28 (0, 0))) ∧ Aside0 (Below w.heap.size w W))
  case first =>
    go_wp2_with fail
    go_meet
    case rel => exact ⟨_, rfl, rfl, ⟨blk_new _ _⟩, ⟨below_alloc (Below.refl _ _) _⟩⟩
  case rest =>
    obtain ⟨g, rfl, rfl, HG, HB⟩ := hcut
    have k6 : wc.cell? ⟨g, 6, none⟩ = some (.slice A ps.length cp) := (blk_cell HG.out 6).trans (by rw [HPC.out]; rfl)
    have HC := Aside0.mk (Kd.C_below HPS.out HB.out)
    go_wp2_with fail
    go_loopg [8] ps.length (fun gk v8 W => ∃ i : Nat, v8 = .int .i64 (i : Int) ∧ Aside0 (gk + i = ps.length) ∧ W = wc ∧ Aside0 (∀ j, j < i → (fun n : Int => decide (0 ≤ n) && decide (n ≤ 9999)) (ps.getD j 0) = true))
    case atStart => exact ⟨0, rfl, ⟨by omega⟩, rfl, ⟨fun j h => absurd h (Nat.not_lt_zero _)⟩⟩
    case round =>
      obtain ⟨i, rfl, HGK, rfl, HM⟩ := hrel
      have hgi := HGK.out
      by_cases hi : i < ps.length
      · obtain ⟨g0, rfl⟩ : ∃ g0, gk = g0 + 1 := ⟨gk - 1, by omega⟩
        obtain ⟨ad, ead, hc0⟩ := Kd.at_int HC.out (i : Int) (by omega) (by omega)
        obtain ⟨x, hx⟩ : ∃ x, x = rd ps (i : Int) := ⟨_, rfl⟩
        rw [Int.toNat_natCast, ← hx] at hc0
        have HX := Aside0.mk (show x = ps.getD i 0 from by rw [hx]; unfold rd; rw [Int.toNat_natCast])
        have hil : (i : Int) < ps.length := by omega
        have HI := Aside0.mk hi
        subst ead
        clear hx hgi hi
        by_cases h0 : x < 0
        · have H0 := Aside0.mk h0
          go_wp2
          go_ret
          exact ⟨by rw [HR.out, numsB, all_false i HI.out (by show (decide (0 ≤ ps.getD i 0) && decide (ps.getD i 0 ≤ 9999)) = false; rw [← HX.out, decide_eq_false (by have := H0.out; omega)]; rfl), Bool.false_and]; rfl, HB.out⟩
        · by_cases h9 : 9999 < x
          · have H9 := Aside0.mk h9
            have h0' : (0 : Int) ≤ x := by omega
            clear h0
            go_wp2
            go_ret
            exact ⟨by rw [HR.out, numsB, all_false i HI.out (by show (decide (0 ≤ ps.getD i 0) && decide (ps.getD i 0 ≤ 9999)) = false; rw [← HX.out, decide_eq_false (show ¬ x ≤ 9999 by have := H9.out; omega), Bool.and_false]), Bool.false_and]; rfl, HB.out⟩
          · have h0' : (0 : Int) ≤ x := by omega
            have h9' : x ≤ 9999 := by omega
            have H09 := Aside0.mk (And.intro h0' h9')
            clear h0 h9
            go_wp2_with fail
            go_roundg g0
            case measure => omega
            case rel => exact ⟨i + 1, by first | go_num | (congr 1; unfold wrap64; omega), ⟨by have := HGK.out; omega⟩, rfl, ⟨upto HM.out (by show (decide (0 ≤ ps.getD i 0) && decide (ps.getD i 0 ≤ 9999)) = true; rw [← HX.out, decide_eq_true H09.out.1, decide_eq_true H09.out.2]; rfl)⟩⟩
      · have hil : (ps.length : Int) ≤ i := by omega
        have hall : ps.all (fun n => decide (0 ≤ n) && decide (n ≤ 9999)) = true := all_true (fun j hj => HM.out j (by omega))
        have HALL := Aside0.mk hall
        clear hgi hi hall
        by_cases h8 : ps.length ≤ 8
        · have h8' : (ps.length : Int) ≤ 8 := by omega
          have H8 := Aside0.mk h8
          clear h8
          go_wp2
          go_ret
          exact ⟨by rw [HR.out, numsB, HALL.out, decide_eq_true H8.out]; rfl, HB.out⟩
        · have h8' : decide ((ps.length : Int) ≤ 8) = false := decide_eq_false (by omega)
          have h9 : (8 : Int) < ps.length := by omega
          have H8 := Aside0.mk h8
          clear h8
          go_wp2
          go_ret
          exact ⟨by rw [HR.out, numsB, HALL.out, decide_eq_false H8.out]; rfl, HB.out⟩
end Go.Proofs.YtkdkajcokoggiaaDoor.VtRightA
/- Two utf.Decoder compared: the answer is whether they agree byte by byte and in the number. -/
namespace Go.Proofs.YtkdkajcokoggiaaDoor.VtDecEq
open Go.RowKit Go.Proofs.YtkdkajcokoggiaaDoor.Kit Go.Proofs.YtkdkajcokoggiaaDoorW.PrintWords
theorem in_arr (d : Nat) (a b c x y z : Int) (w : World) : (Op.equalIn (d + 2) 23 (.agg #[.int .u8 a, .int .u8 b, .int .u8 c]) (.agg #[.int .u8 x, .int .u8 y, .int .u8 z])).run Tryd.prog w = .ok (a == x && (b == y && c == z)) w := by
  have hp : Tryd.prog.plainKey 5 = true := by kernel_rfl
  have hc : Tryd.prog.cellsOf 5 = 1 := by kernel_rfl
  obtain ⟨i, hi⟩ := info_of_underlying Tryd.underlying5
  rw [run_equalIn_array w (d + 1) _ _ Tryd.underlying23 hi, hc]
  have hr : List.range 3 = [0, 1, 2] := rfl
  rw [hr]
  have hpt : ∀ (p q r : Int) (k : Nat) (v : Value) (W : World), (#[Value.int .u8 p, .int .u8 q, .int .u8 r])[k]? = some v → (part 5 #[Value.int .u8 p, .int .u8 q, .int .u8 r] k).run Tryd.prog W = .ok v W := fun p q r k v W h => run_part_plain W hp h
  have he : ∀ (p q : Int) (W : World), (Op.equalIn (d + 1) 5 (.int .u8 p) (.int .u8 q)).run Tryd.prog W = .ok (p == q) W := fun p q W => run_equalIn_int W d 5 .u8 .u8 p q Tryd.underlying5
  have p0 := fun p q r W => hpt p q r 0 (.int .u8 p) W rfl
  have p1 := fun p q r W => hpt p q r 1 (.int .u8 q) W rfl
  have p2 := fun p q r W => hpt p q r 2 (.int .u8 r) W rfl
  have e0 := fun W => he a x W
  have e1 := fun W => he b y W
  have e2 := fun W => he c z W
  obtain ⟨A, hA⟩ : ∃ A, (a == x) = A := ⟨_, rfl⟩
  obtain ⟨B, hB⟩ : ∃ A, (b == y) = A := ⟨_, rfl⟩
  obtain ⟨C, hC⟩ : ∃ A, (c == z) = A := ⟨_, rfl⟩
  rw [hA] at e0 ⊢
  rw [hB] at e1 ⊢
  rw [hC] at e2 ⊢
  clear he hA hB hC
  cases A <;> cases B <;> cases C <;> simp [Op.eqItems, Sem.run_pure, p0, p1, p2, e0, e1, e2, Sem.run_bind]
theorem part_arr (a b c n : Int) (w : World) : (part 23 #[.int .u8 a, .int .u8 b, .int .u8 c, .int .i64 n] 0).run Tryd.prog w = .ok (.agg #[.int .u8 a, .int .u8 b, .int .u8 c]) w := by
  kernel_rfl
theorem part_n (a b c n : Int) (w : World) : (part 3 #[.int .u8 a, .int .u8 b, .int .u8 c, .int .i64 n] 3).run Tryd.prog w = .ok (.int .i64 n) w := run_part_plain w (by kernel_rfl) rfl
theorem eql_dec (a b c n x y z m : Int) (w : World) : (binOp .eql 25 (.agg #[.int .u8 a, .int .u8 b, .int .u8 c, .int .i64 n]) (.agg #[.int .u8 x, .int .u8 y, .int .u8 z, .int .i64 m])).run Tryd.prog w = .ok (.bool ((a == x && (b == y && c == z)) && (n == m))) w := by
  have h := eqA_of (P := Tryd.prog) (d := 9999) (w := w) Tryd.underlying25 (by kernel_rfl) (eqf_cons (by rfl) (part_arr a b c n w) (part_arr x y z m w) (in_arr 9997 a b c x y z w) (eqf_last (by rfl) (part_n a b c n w) (part_n x y z m w) (run_equalIn_int w 9998 3 .i64 .i64 n m Tryd.underlying3)))
  rw [run_eql_struct, h]
  rfl
end Go.Proofs.YtkdkajcokoggiaaDoor.VtDecEq
/- utf.Decoder.Right as a contract, over every three bytes and every number. -/
namespace Go.Proofs.YtkdkajcokoggiaaDoor.UtfRight
open Go.RowKit Go.Proofs.YtkdkajcokoggiaaDoor.Kit Go.Proofs.YtkdkajcokoggiaaDoor.Plain Go.Proofs.YtkdkajcokoggiaaDoor.Mine Go.Proofs.YtkdkajcokoggiaaDoor.UtfPure Go.Proofs.YtkdkajcokoggiaaDoor.UtfFull Go.Proofs.YtkdkajcokoggiaaDoor.UtfDec Go.Proofs.YtkdkajcokoggiaaDoor.UtfFeed Go.Proofs.YtkdkajcokoggiaaDoorW.PrintWords Go.Proofs.YtkdkajcokoggiaaDoorW.PrintLast Go.Proofs.YtkdkajcokoggiaaDoorW.PrintMore
open Go.Lib (Utf8Tabs)
set_option linter.unusedVariables false
set_option linter.unusedSimpArgs false
/-- What Right tells of three bytes and a number from 0 to 3. -/
def rightN (l : List Int) (m : Nat) : Bool := (l.drop m).all (· == 0) && (decide (m = 0) || !full (l.take m))
def rightB (l : List Int) (n : Int) : Bool := decide (0 ≤ n) && (decide (n ≤ 3) && rightN l n.toNat)
theorem tail_C {W : World} {g : Nat} {b0 b1 b2 n : Int} (h : W.heap[g]? = some (.cells #[.int .u8 b0, .int .u8 b1, .int .u8 b2, .int .i64 n] 25 (0, 0))) (i : Nat) (hi : i < 3) : W.cell? ⟨g, i, none⟩ = some (.int .u8 ([b0, b1, b2].getD i 0)) := by
  rw [blk_cell h i]
  match i, hi with
  | 0, _ => rfl
  | 1, _ => rfl
  | 2, _ => rfl
  | i + 3, hi => omega
theorem head_C {W : World} {g m : Nat} {b0 b1 b2 n : Int} (h : W.heap[g]? = some (.cells #[.int .u8 b0, .int .u8 b1, .int .u8 b2, .int .i64 n] 25 (0, 0))) (hm : m ≤ 3) : Kd.C (Kd.int .u8) W (some ⟨g, 0, none⟩) ([b0, b1, b2].take m).length ([b0, b1, b2].take m) := by
  refine Kd.C_of_reads (enc := Value.int .u8) (d := (0 : Int)) (h1 := fun _ => rfl) ⟨rfl, by rw [List.length_take]; simp; omega, fun _ => ⟨_, rfl, fun j hj => ?_⟩⟩
  have e : (⟨g, 0, none⟩ : Addr).add j = ⟨g, j, none⟩ := by unfold Addr.add; split <;> simp_all
  have hj2 : j < 3 ∧ j < m := by rw [List.length_take] at hj; simp at hj; omega
  rw [e, tail_C h j hj2.1]
  show some (Value.int .u8 _) = some (Value.int .u8 (([b0, b1, b2].take m).getD j 0))
  rw [List.getD_eq_getElem?_getD, List.getD_eq_getElem?_getD, List.getElem?_take_of_lt hj2.2]
theorem drop_step (l : List Int) (m i : Nat) (h : m + i < l.length) (h0 : ∀ j, j < i → l.getD (m + j) 0 = 0) (hx : l.getD (m + i) 0 ≠ 0) : rightN l m = false := by
  unfold rightN
  rw [Bool.and_eq_false_iff]
  left
  rw [List.all_eq_false]
  refine ⟨l[m + i], List.mem_iff_getElem.2 ⟨i, by rw [List.length_drop]; omega, by rw [List.getElem_drop]⟩, ?_⟩
  rw [List.getD_eq_getElem?_getD, List.getElem?_eq_getElem h] at hx
  simpa using hx
theorem upto_step {p : Nat → Prop} {i : Nat} (h : ∀ j, j < i → p j) (hi : p i) : ∀ j, j < i + 1 → p j := fun j hj => (Nat.lt_or_ge j i).elim (fun a => h j a) (fun a => (show i = j by omega) ▸ hi)
theorem drop_all (l : List Int) (m : Nat) (h0 : ∀ j, m + j < l.length → l.getD (m + j) 0 = 0) : (l.drop m).all (· == 0) = true := by
  rw [List.all_eq_true]
  intro x hx
  obtain ⟨i, hi, rfl⟩ := List.mem_iff_getElem.1 hx
  rw [List.length_drop] at hi
  have h := h0 i (by omega)
  rw [List.getD_eq_getElem?_getD, List.getElem?_eq_getElem (by omega)] at h
  rw [List.getElem_drop]
  simpa using h
set_option maxHeartbeats 1600000 in
set_option maxRecDepth 100000 in
theorem right_out (b0 b1 b2 n : Int) (w : World) (h : n < 0 ∨ 3 < n) :
    Calls Tryd.prog 18 #[.agg #[.int .u8 b0, .int .u8 b1, .int .u8 b2, .int .i64 n]] w fun e w' => e = .returned (.bool false) ∧ Below w.heap.size w w' := by
  have hu := Tryd.underlying25
  rcases h with h | h
  · go_enter Tryd.func18, Tryd.ntmps18
    go_wp2
    go_ret
    exact ⟨rfl, below_alloc (Below.refl _ _) _⟩
  · have h2 : (0 : Int) ≤ n := by omega
    go_enter Tryd.func18, Tryd.ntmps18
    go_wp2
    go_ret
    exact ⟨rfl, below_alloc (Below.refl _ _) _⟩
set_option maxHeartbeats 3200000 in
set_option maxRecDepth 100000 in
theorem right_in (b0 b1 b2 : Int) (m : Nat) (w : World) (hT : Utf8Tabs 0 1 w) (hb : Bytes [b0, b1, b2]) (hm : m < 3) :
    Calls Tryd.prog 18 #[.agg #[.int .u8 b0, .int .u8 b1, .int .u8 b2, .int .i64 m]] w fun e w' => e = .returned (.bool (rightN [b0, b1, b2] m)) ∧ Below w.heap.size w w' := by
  have hu := Tryd.underlying25
  have hm3 : ¬ 3 = m := by omega
  have h0 : (0 : Int) ≤ m := by omega
  have h3 : (m : Int) ≤ 3 := by omega
  have HM := Aside0.mk hm
  clear hm
  have HT := Aside0.mk hT
  have HBY := Aside0.mk hb
  obtain ⟨r, hr⟩ : ∃ r, r = rightN [b0, b1, b2] m := ⟨_, rfl⟩
  rw [← hr]
  have HR := Aside0.mk hr
  clear hT hb hr
  go_enter Tryd.func18, Tryd.ntmps18
  go_upto_region 1 with fail
  obtain ⟨w1, hw1⟩ : ∃ w1, w1 = w.alloc (.cells #[.int .u8 b0, .int .u8 b1, .int .u8 b2, .int .i64 m] 25) := ⟨_, rfl⟩
  obtain ⟨g, hg⟩ : ∃ g, g = w.heap.size := ⟨_, rfl⟩
  have HK := Aside0.mk (show w1.heap[g]? = some (.cells #[.int .u8 b0, .int .u8 b1, .int .u8 b2, .int .i64 m] 25 (0, 0)) from by rw [hw1, hg]; exact blk_new w _)
  have HB1 := Aside0.mk (show Below w.heap.size w w1 from by rw [hw1]; exact below_alloc (Below.refl _ _) _)
  rw [← hw1, ← hg]
  have HFUL := Aside0.mk (fun (hne : 0 < m) => full_c (some ⟨g, 0, none⟩) 3 ([b0, b1, b2].take m) w1 (tabs_below HT.out HB1.out) (head_C HK.out (Nat.le_of_lt HM.out)) (fun x hx => HBY.out x (List.mem_of_mem_take hx)) (by rw [List.length_take]; simp; try omega))
  have hln : ([b0, b1, b2].take m).length = m := by rw [List.length_take]; simp; try omega
  rw [hln] at HFUL
  clear hw1 hg hln HT HBY
  have hc3 : w1.cell? ⟨g, 3, none⟩ = some (.int .i64 m) := (blk_cell HK.out 3).trans rfl
  go_wp2
  go_loopg [18] (3 - m) (fun g0 v18 W => ∃ (i : Nat), v18 = .int .i64 (i : Int) ∧ Aside0 (g0 + i = 3 - m) ∧ Aside0 (∀ j, j < i → [b0, b1, b2].getD (m + j) 0 = 0) ∧ W = w1)
  case atStart => exact ⟨0, rfl, ⟨by omega⟩, ⟨fun j hj => by omega⟩, rfl⟩
  case round =>
    obtain ⟨i, rfl, HG, HZ, rfl⟩ := hrel
    have hgi := HG.out
    by_cases hi : i < 3 - m
    · obtain ⟨g0, rfl⟩ : ∃ g0, gk = g0 + 1 := ⟨gk - 1, by omega⟩
      obtain ⟨x, hx⟩ : ∃ x, x = [b0, b1, b2].getD (m + i) 0 := ⟨_, rfl⟩
      have hc := tail_C HK.out (m + i) (by omega)
      rw [← hx] at hc
      have hil : (i : Int) < ((3 - m : Nat) : Int) := by omega
      have HX := Aside0.mk hx
      clear hx hgi hi
      by_cases hx0 : x = 0
      · have hxe : (x == 0) = true := by simp [hx0]
        have HX0 := Aside0.mk hx0
        clear hx0
        go_wp2_with fail
        go_roundg g0
        case measure => omega
        case rel => exact ⟨i + 1, by first | go_num | (congr 1; unfold wrap64; omega), ⟨by have := HG.out; omega⟩, ⟨upto_step HZ.out (by rw [← HX.out]; exact HX0.out)⟩, rfl⟩
      · have hxe : (x == 0) = false := beq_eq_false_iff_ne.mpr hx0
        have HX0 := Aside0.mk hx0
        clear hx0
        go_wp2_with fail
        go_ret
        have hf := drop_step [b0, b1, b2] m i (by have := HG.out; simp; omega) HZ.out (by rw [← HX.out]; exact HX0.out)
        rw [← HR.out] at hf
        exact ⟨by rw [hf]; rfl, HB1.out⟩
    · have hil : ((3 - m : Nat) : Int) ≤ i := by omega
      have hall := drop_all [b0, b1, b2] m (fun j hj => HZ.out j (by simp at hj; omega))
      have HALL := Aside0.mk hall
      clear hgi hall
      by_cases hz : m = 0
      · have hze : ((m : Int) == 0) = true := by simp [hz]
        have HM0 := Aside0.mk hz
        clear hz
        go_wp2_with fail
        go_ret
        refine ⟨?_, HB1.out⟩
        rw [HR.out, rightN, HALL.out, HM0.out]
        rfl
      · have hze : ((m : Int) == 0) = false := beq_eq_false_iff_ne.mpr (by omega)
        have HM0 := Aside0.mk hz
        clear hz
        go_wp2_with fail
        refine (HFUL.out (by have := HM0.out; omega)).mono ?_
        rintro e w2 ⟨rfl, hb2⟩
        have HB2 := Aside0.mk (below_kept HB1.out hb2)
        obtain ⟨f, hf⟩ : ∃ f, f = full ([b0, b1, b2].take m) := ⟨_, rfl⟩
        rw [← hf]
        have HF := Aside0.mk hf
        clear hb2 hf
        go_wp2_with fail
        go_ret
        refine ⟨?_, HB2.out⟩
        rw [HR.out, rightN, HALL.out, ← HF.out]
        simp [HM0.out]
set_option maxHeartbeats 3200000 in
set_option maxRecDepth 100000 in
theorem right_all (b0 b1 b2 : Int) (w : World) (hT : Utf8Tabs 0 1 w) (hb : Bytes [b0, b1, b2]) :
    Calls Tryd.prog 18 #[.agg #[.int .u8 b0, .int .u8 b1, .int .u8 b2, .int .i64 3]] w fun e w' => e = .returned (.bool (rightN [b0, b1, b2] 3)) ∧ Below w.heap.size w w' := by
  have hu := Tryd.underlying25
  have HT := Aside0.mk hT
  have HBY := Aside0.mk hb
  obtain ⟨r, hr⟩ : ∃ r, r = rightN [b0, b1, b2] 3 := ⟨_, rfl⟩
  rw [← hr]
  have HR := Aside0.mk hr
  clear hT hb hr
  go_enter Tryd.func18, Tryd.ntmps18
  go_upto_region 1 with fail
  obtain ⟨w1, hw1⟩ : ∃ w1, w1 = w.alloc (.cells #[.int .u8 b0, .int .u8 b1, .int .u8 b2, .int .i64 3] 25) := ⟨_, rfl⟩
  obtain ⟨g, hg⟩ : ∃ g, g = w.heap.size := ⟨_, rfl⟩
  have HK := Aside0.mk (show w1.heap[g]? = some (.cells #[.int .u8 b0, .int .u8 b1, .int .u8 b2, .int .i64 3] 25 (0, 0)) from by rw [hw1, hg]; exact blk_new w _)
  have HB1 := Aside0.mk (show Below w.heap.size w w1 from by rw [hw1]; exact below_alloc (Below.refl _ _) _)
  rw [← hw1, ← hg]
  have HFUL := Aside0.mk (fun (hne : 0 < 3) => full_c (some ⟨g, 0, none⟩) 3 ([b0, b1, b2].take 3) w1 (tabs_below HT.out HB1.out) (head_C HK.out (Nat.le_refl _)) (fun x hx => HBY.out x (List.mem_of_mem_take hx)) (by rw [List.length_take]; simp; try omega))
  have hln : ([b0, b1, b2].take 3).length = 3 := by rw [List.length_take]; simp; try omega
  rw [hln] at HFUL
  clear hw1 hg hln HT HBY
  have hc3 : w1.cell? ⟨g, 3, none⟩ = some (.int .i64 3) := (blk_cell HK.out 3).trans rfl
  go_wp2
  go_loopg [18] 0 (fun g0 v18 W => v18 = .int .i64 0 ∧ W = w1)
  case atStart => exact ⟨rfl, rfl⟩
  case round =>
    obtain ⟨rfl, rfl⟩ := hrel
    go_wp2_with fail
    refine (HFUL.out (by omega)).mono ?_
    rintro e w2 ⟨rfl, hb2⟩
    have HB2 := Aside0.mk (below_kept HB1.out hb2)
    obtain ⟨f, hf⟩ : ∃ f, f = full ([b0, b1, b2].take 3) := ⟨_, rfl⟩
    rw [← hf]
    have HF := Aside0.mk hf
    clear hb2 hf
    go_wp2_with fail
    go_ret
    refine ⟨?_, HB2.out⟩
    rw [HR.out, rightN, ← HF.out]
    simp
theorem right_c (b0 b1 b2 n : Int) (w : World) (hT : Utf8Tabs 0 1 w) (hb : Bytes [b0, b1, b2]) :
    Calls Tryd.prog 18 #[.agg #[.int .u8 b0, .int .u8 b1, .int .u8 b2, .int .i64 n]] w fun e w' => e = .returned (.bool (rightB [b0, b1, b2] n)) ∧ Below w.heap.size w w' := by
  by_cases h : n < 0 ∨ 3 < n
  · have e : rightB [b0, b1, b2] n = false := by
      unfold rightB
      rcases h with h | h
      · rw [decide_eq_false (show ¬ 0 ≤ n by omega)]; rfl
      · rw [decide_eq_false (show ¬ n ≤ 3 by omega)]; simp
    rw [e]
    exact right_out b0 b1 b2 n w h
  · obtain ⟨m, rfl⟩ : ∃ m : Nat, n = m := ⟨n.toNat, by omega⟩
    have e : rightB [b0, b1, b2] m = rightN [b0, b1, b2] m := by
      unfold rightB
      rw [decide_eq_true (show (0 : Int) ≤ m by omega), decide_eq_true (show (m : Int) ≤ 3 by omega)]
      rfl
    rw [e]
    by_cases hm : m < 3
    · exact right_in b0 b1 b2 m w hT hb hm
    · obtain rfl : m = 3 := by omega
      exact right_all b0 b1 b2 w hT hb
end Go.Proofs.YtkdkajcokoggiaaDoor.UtfRight
/- vt.Parser.Right as a contract, over every parser. -/
namespace Go.Proofs.YtkdkajcokoggiaaDoor.VtRightB
open Go.RowKit Go.Proofs.YtkdkajcokoggiaaDoor.Kit Go.Proofs.YtkdkajcokoggiaaDoor.Plain Go.Proofs.YtkdkajcokoggiaaDoor.Mine Go.Proofs.YtkdkajcokoggiaaDoor.UtfPure Go.Proofs.YtkdkajcokoggiaaDoor.UtfFull Go.Proofs.YtkdkajcokoggiaaDoor.UtfFeed Go.Proofs.YtkdkajcokoggiaaDoor.UtfRight Go.Proofs.YtkdkajcokoggiaaDoor.VtRightA Go.Proofs.YtkdkajcokoggiaaDoorW.PrintWords Go.Proofs.YtkdkajcokoggiaaDoorW.PrintLast Go.Proofs.YtkdkajcokoggiaaDoorW.PrintMore
open Go.Lib (Utf8Tabs)
set_option linter.unusedVariables false
set_option linter.unusedSimpArgs false
/-- What Right tells, out of its parts: B bare, U unmarked, Z no parameters, E no text. -/
def rr (st wi : Int) (B U Z E RB M1 M0 N T : Bool) : Bool :=
  if (st ≠ 7 ∧ wi ≠ 0) ∨ (st ≠ 0 ∧ B = false) then false
  else if st = 0 then RB && (U && E)
  else if st = 1 then U && E
  else if st = 2 then M1 && (Z && E)
  else if st = 3 ∨ st = 4 then M0 && (N && E)
  else if st = 7 then decide (wi = 5 ∨ wi = 6) && (U && T)
  else if st = 5 ∨ st = 6 then U && T
  else false
def bareB (b0 b1 b2 n : Int) : Bool := (b0 == 0 && (b1 == 0 && b2 == 0)) && (n == 0)
def rightR (st b0 b1 b2 n : Int) (mr tx : ByteArray) (ps : List Int) (wi : Int) : Bool :=
  rr st wi (bareB b0 b1 b2 n) (mr.toList.isEmpty && (ps.length == 0)) (ps.length == 0) tx.toList.isEmpty (rightB [b0, b1, b2] n) (marksB 1 2 lowB mr) (marksB 0 2 wideB mr) (numsB ps) (textB tx)
set_option maxHeartbeats 6400000 in
set_option maxRecDepth 100000 in
theorem right_c (st b0 b1 b2 n : Int) (mr : ByteArray) (A : Option Addr) (cp : Nat) (ps : List Int) (tx : ByteArray) (wi : Int) (w : World) (hT : Utf8Tabs 0 1 w) (hb : Bytes [b0, b1, b2]) (hps : Kd.C (Kd.int .i64) w A ps.length ps) (hz1 : mr.size ≤ 1000) (hz2 : tx.size ≤ 1000) (hz3 : ps.length ≤ 1000) :
    Calls Tryd.prog 17 #[.agg #[.int .i64 st, .int .u8 b0, .int .u8 b1, .int .u8 b2, .int .i64 n, .string mr, .slice A ps.length cp, .string tx, .int .i64 wi]] w fun e w' => e = .returned (.bool (rightR st b0 b1 b2 n mr tx ps wi)) ∧ Below w.heap.size w w' := by
  have hup := Tryd.underlying28
  have HPS := Aside0.mk hps
  have HU := Aside0.mk (fun W (h : Below w.heap.size w W) => UtfRight.right_c b0 b1 b2 n W (tabs_below hT h) hb)
  have HM1 := Aside0.mk (show ∀ W, Calls Tryd.prog 30 #[.agg #[.int .i64 st, .int .u8 b0, .int .u8 b1, .int .u8 b2, .int .i64 n, .string mr, .slice A ps.length cp, .string tx, .int .i64 wi], .int .i64 1, .int .i64 2, .func (.func 31) #[] #[]] W (fun e w' => e = .returned (.bool (marksB 1 2 lowB mr)) ∧ Below W.heap.size W w') from fun W => marks_low_c lowB low_c st b0 b1 b2 n mr (.slice A ps.length cp) tx wi 1 2 W hz1)
  have HM0 := Aside0.mk (show ∀ W, Calls Tryd.prog 30 #[.agg #[.int .i64 st, .int .u8 b0, .int .u8 b1, .int .u8 b2, .int .i64 n, .string mr, .slice A ps.length cp, .string tx, .int .i64 wi], .int .i64 0, .int .i64 2, .func (.func 32) #[] #[]] W (fun e w' => e = .returned (.bool (marksB 0 2 wideB mr)) ∧ Below W.heap.size W w') from fun W => marks_wide_c wideB wide_c st b0 b1 b2 n mr (.slice A ps.length cp) tx wi 0 2 W hz1)
  have HNM := Aside0.mk (fun W (h : Below w.heap.size w W) => numbers_c st b0 b1 b2 n mr A cp ps tx wi W (Kd.C_below hps h) hz3)
  have HTX := Aside0.mk (fun W => text_c st b0 b1 b2 n mr (.slice A ps.length cp) tx wi W hz2)
  have heq := fun W => VtDecEq.eql_dec b0 b1 b2 n 0 0 0 0 W
  obtain ⟨r, hr⟩ : ∃ r, r = rightR st b0 b1 b2 n mr tx ps wi := ⟨_, rfl⟩
  rw [← hr]
  unfold rightR bareB at hr
  obtain ⟨B, hB⟩ : ∃ B, B = ((b0 == 0 && (b1 == 0 && b2 == 0)) && (n == 0)) := ⟨_, rfl⟩
  obtain ⟨E, hE⟩ : ∃ E, tx.toList.isEmpty = E := ⟨_, rfl⟩
  obtain ⟨MZ, hMZ⟩ : ∃ E, mr.toList.isEmpty = E := ⟨_, rfl⟩
  obtain ⟨pl, hpl⟩ : ∃ pl, pl = ps.length := ⟨_, rfl⟩
  rw [← hpl] at HPS HM1 HM0 HNM HTX hr hz3 ⊢
  obtain ⟨Z, hZ⟩ : ∃ E, (pl == 0) = E := ⟨_, rfl⟩
  obtain ⟨U, hU⟩ : ∃ U, U = (MZ && Z) := ⟨_, rfl⟩
  obtain ⟨RB, hRB⟩ : ∃ E, E = rightB [b0, b1, b2] n := ⟨_, rfl⟩
  obtain ⟨M1, hM1⟩ : ∃ E, E = marksB 1 2 lowB mr := ⟨_, rfl⟩
  obtain ⟨M0, hM0⟩ : ∃ E, E = marksB 0 2 wideB mr := ⟨_, rfl⟩
  obtain ⟨NB, hNB⟩ : ∃ E, E = numsB ps := ⟨_, rfl⟩
  obtain ⟨TB, hTB⟩ : ∃ E, E = textB tx := ⟨_, rfl⟩
  rw [← hB] at hr heq
  rw [hE, hMZ, hZ, ← hU, ← hRB, ← hM1, ← hM0, ← hNB, ← hTB] at hr
  rw [← hRB] at HU
  rw [← hM1] at HM1
  rw [← hM0] at HM0
  rw [← hNB] at HNM
  rw [← hTB] at HTX
  have HR := Aside0.mk hr
  have HUU := Aside0.mk hU
  have hZI : ((pl : Int) == 0) = Z := by rw [← hZ]; cases pl <;> rfl
  have hplI : (pl : Int) ≤ 1000 := by omega
  obtain ⟨pc, hpc⟩ : ∃ pc : Array Value, pc = #[.int .i64 st, .int .u8 b0, .int .u8 b1, .int .u8 b2, .int .i64 n, .string mr, .slice A pl cp, .string tx, .int .i64 wi] := ⟨_, rfl⟩
  rw [show (.agg #[.int .i64 st, .int .u8 b0, .int .u8 b1, .int .u8 b2, .int .i64 n, .string mr, .slice A pl cp, .string tx, .int .i64 wi] : Value) = .agg pc from by rw [hpc]]
  have HPC := Aside0.mk hpc
  clear hpl hU hr hRB hM1 hM0 hNB hTB hB hpc hT hb hps hz1 hz2 hz3
  go_enter Tryd.func17, Tryd.ntmps17
  go_upto_region 0 with fail
  go_cut [1, 2] (fun v1 v2 W => ∃ g : Nat, v1 = .pointer (some ⟨g, 0, none⟩) ∧ v2 = .bool false ∧ Aside0 (W.heap[g]? = some (.cells pc 28 (0, 0))) ∧ Aside0 (Below w.heap.size w W))
  case first =>
    go_wp2_with fail
    go_meet
    case rel => exact ⟨_, rfl, rfl, ⟨blk_new _ _⟩, ⟨below_alloc (Below.refl _ _) _⟩⟩
  case rest =>
    obtain ⟨g, rfl, rfl, HG0, HB⟩ := hcut
    have HG := Aside0.mk (show wc.heap[g]? = some (.cells #[.int .i64 st, .int .u8 b0, .int .u8 b1, .int .u8 b2, .int .i64 n, .string mr, .slice A pl cp, .string tx, .int .i64 wi] 28 (0, 0)) from by rw [HG0.out, HPC.out])
    clear HG0 HPC
    have k0 : wc.cell? ⟨g, 0, none⟩ = some (.int .i64 st) := (blk_cell HG.out 0).trans rfl
    have k1 : wc.cell? ⟨g, 1, none⟩ = some (.int .u8 b0) := (blk_cell HG.out 1).trans rfl
    have k2 : wc.cell? ⟨g, 2, none⟩ = some (.int .u8 b1) := (blk_cell HG.out 2).trans rfl
    have k3 : wc.cell? ⟨g, 3, none⟩ = some (.int .u8 b2) := (blk_cell HG.out 3).trans rfl
    have k4 : wc.cell? ⟨g, 4, none⟩ = some (.int .i64 n) := (blk_cell HG.out 4).trans rfl
    have k5 : wc.cell? ⟨g, 5, none⟩ = some (.string mr) := (blk_cell HG.out 5).trans rfl
    have k6 : wc.cell? ⟨g, 6, none⟩ = some (.slice A pl cp) := (blk_cell HG.out 6).trans rfl
    have k7 : wc.cell? ⟨g, 7, none⟩ = some (.string tx) := (blk_cell HG.out 7).trans rfl
    have k8 : wc.cell? ⟨g, 8, none⟩ = some (.int .i64 wi) := (blk_cell HG.out 8).trans rfl
    go_upto_region 1 with fail
    go_cut [3] (fun v3 W => v3 = .bool B ∧ W = wc)
    case first =>
      go_wp2_with fail
      go_meet
      case rel => exact ⟨rfl, rfl⟩
    case rest =>
      obtain ⟨rfl, rfl⟩ := hcut
      go_upto_region 2 with fail
      go_cut [4] (fun v4 W => v4 = .bool U ∧ W = wc)
      case first =>
        cases MZ
        · go_wp2_with fail
          go_meet
          case rel => exact ⟨by rw [HUU.out]; rfl, rfl⟩
        · cases Z
          · go_wp2_with fail
            go_meet
            case rel => exact ⟨by rw [HUU.out]; rfl, rfl⟩
          · go_wp2_with fail
            go_meet
            case rel => exact ⟨by rw [HUU.out]; rfl, rfl⟩
      case rest =>
        obtain ⟨rfl, rfl⟩ := hcut
        clear heq hMZ
        rcases (show st = 0 ∨ st = 1 ∨ st = 2 ∨ st = 3 ∨ st = 4 ∨ st = 5 ∨ st = 6 ∨ st = 7 ∨ (st ≠ 0 ∧ st ≠ 1 ∧ st ≠ 2 ∧ st ≠ 3 ∧ st ≠ 4 ∧ st ≠ 5 ∧ st ≠ 6 ∧ st ≠ 7) by omega) with hk | hk | hk | hk | hk | hk | hk | hk | hk
        · subst hk
          by_cases hw : wi = 0
          · subst hw
            go_wp2_with fail
            refine (HU.out wc HB.out).mono ?_
            rintro e w5 ⟨rfl, hb⟩
            have HB5 := Aside0.mk (below_kept HB.out hb)
            have j7 := cell_b2 hb k7
            clear hb k0 k1 k2 k3 k4 k5 k6 k7 k8
            cases RB
            · cases U
              · cases E
                · go_wp2
                  go_ret
                  exact ⟨by rw [HR.out]; first | rfl | (simp [rr]; done) | (simp [rr, HW.out]; done), HB5.out⟩
                · go_wp2
                  go_ret
                  exact ⟨by rw [HR.out]; first | rfl | (simp [rr]; done) | (simp [rr, HW.out]; done), HB5.out⟩
              · cases E
                · go_wp2
                  go_ret
                  exact ⟨by rw [HR.out]; first | rfl | (simp [rr]; done) | (simp [rr, HW.out]; done), HB5.out⟩
                · go_wp2
                  go_ret
                  exact ⟨by rw [HR.out]; first | rfl | (simp [rr]; done) | (simp [rr, HW.out]; done), HB5.out⟩
            · cases U
              · cases E
                · go_wp2
                  go_ret
                  exact ⟨by rw [HR.out]; first | rfl | (simp [rr]; done) | (simp [rr, HW.out]; done), HB5.out⟩
                · go_wp2
                  go_ret
                  exact ⟨by rw [HR.out]; first | rfl | (simp [rr]; done) | (simp [rr, HW.out]; done), HB5.out⟩
              · cases E
                · go_wp2
                  go_ret
                  exact ⟨by rw [HR.out]; first | rfl | (simp [rr]; done) | (simp [rr, HW.out]; done), HB5.out⟩
                · go_wp2
                  go_ret
                  exact ⟨by rw [HR.out]; first | rfl | (simp [rr]; done) | (simp [rr, HW.out]; done), HB5.out⟩
          · have hwb : (wi == 0) = false := beq_eq_false_iff_ne.mpr hw
            have hwn : (wi != 0) = true := bne_iff_ne.mpr hw
            have HW := Aside0.mk hw
            clear hw
            go_wp2
            go_ret
            exact ⟨by rw [HR.out]; first | rfl | (simp [rr]; done) | (simp [rr, HW.out]; done), HB.out⟩
        · subst hk
          by_cases hw : wi = 0
          · subst hw
            cases B
            · go_wp2
              go_ret
              exact ⟨by rw [HR.out]; first | rfl | (simp [rr]; done) | (simp [rr, HW.out]; done), HB.out⟩
            · cases U
              · cases E
                · go_wp2
                  go_ret
                  exact ⟨by rw [HR.out]; first | rfl | (simp [rr]; done) | (simp [rr, HW.out]; done), HB.out⟩
                · go_wp2
                  go_ret
                  exact ⟨by rw [HR.out]; first | rfl | (simp [rr]; done) | (simp [rr, HW.out]; done), HB.out⟩
              · cases E
                · go_wp2
                  go_ret
                  exact ⟨by rw [HR.out]; first | rfl | (simp [rr]; done) | (simp [rr, HW.out]; done), HB.out⟩
                · go_wp2
                  go_ret
                  exact ⟨by rw [HR.out]; first | rfl | (simp [rr]; done) | (simp [rr, HW.out]; done), HB.out⟩
          · have hwb : (wi == 0) = false := beq_eq_false_iff_ne.mpr hw
            have hwn : (wi != 0) = true := bne_iff_ne.mpr hw
            have HW := Aside0.mk hw
            clear hw
            go_wp2
            go_ret
            exact ⟨by rw [HR.out]; first | rfl | (simp [rr]; done) | (simp [rr, HW.out]; done), HB.out⟩
        · subst hk
          by_cases hw : wi = 0
          · subst hw
            cases B
            · go_wp2
              go_ret
              exact ⟨by rw [HR.out]; first | rfl | (simp [rr]; done) | (simp [rr, HW.out]; done), HB.out⟩
            · go_wp2_with fail
              refine (HM1.out wc).mono ?_
              rintro e w5 ⟨rfl, hb⟩
              have HB5 := Aside0.mk (below_kept HB.out hb)
              have j6 := cell_b2 hb k6
              have j7 := cell_b2 hb k7
              clear hb k0 k1 k2 k3 k4 k5 k6 k7 k8
              cases M1
              · cases Z
                · cases E
                  · go_wp2
                    go_ret
                    exact ⟨by rw [HR.out]; first | rfl | (simp [rr]; done) | (simp [rr, HW.out]; done), HB5.out⟩
                  · go_wp2
                    go_ret
                    exact ⟨by rw [HR.out]; first | rfl | (simp [rr]; done) | (simp [rr, HW.out]; done), HB5.out⟩
                · cases E
                  · go_wp2
                    go_ret
                    exact ⟨by rw [HR.out]; first | rfl | (simp [rr]; done) | (simp [rr, HW.out]; done), HB5.out⟩
                  · go_wp2
                    go_ret
                    exact ⟨by rw [HR.out]; first | rfl | (simp [rr]; done) | (simp [rr, HW.out]; done), HB5.out⟩
              · cases Z
                · cases E
                  · go_wp2
                    go_ret
                    exact ⟨by rw [HR.out]; first | rfl | (simp [rr]; done) | (simp [rr, HW.out]; done), HB5.out⟩
                  · go_wp2
                    go_ret
                    exact ⟨by rw [HR.out]; first | rfl | (simp [rr]; done) | (simp [rr, HW.out]; done), HB5.out⟩
                · cases E
                  · go_wp2
                    go_ret
                    exact ⟨by rw [HR.out]; first | rfl | (simp [rr]; done) | (simp [rr, HW.out]; done), HB5.out⟩
                  · go_wp2
                    go_ret
                    exact ⟨by rw [HR.out]; first | rfl | (simp [rr]; done) | (simp [rr, HW.out]; done), HB5.out⟩
          · have hwb : (wi == 0) = false := beq_eq_false_iff_ne.mpr hw
            have hwn : (wi != 0) = true := bne_iff_ne.mpr hw
            have HW := Aside0.mk hw
            clear hw
            go_wp2
            go_ret
            exact ⟨by rw [HR.out]; first | rfl | (simp [rr]; done) | (simp [rr, HW.out]; done), HB.out⟩
        · subst hk
          by_cases hw : wi = 0
          · subst hw
            cases B
            · go_wp2
              go_ret
              exact ⟨by rw [HR.out]; first | rfl | (simp [rr]; done) | (simp [rr, HW.out]; done), HB.out⟩
            · go_wp2_with fail
              refine (HM0.out wc).mono ?_
              rintro e w5 ⟨rfl, hb⟩
              have HB5 := Aside0.mk (below_kept HB.out hb)
              have j0 := cell_b2 hb k0
              have j1 := cell_b2 hb k1
              have j2 := cell_b2 hb k2
              have j3 := cell_b2 hb k3
              have j4 := cell_b2 hb k4
              have j5 := cell_b2 hb k5
              have j6 := cell_b2 hb k6
              have j7 := cell_b2 hb k7
              have j8 := cell_b2 hb k8
              clear hb k0 k1 k2 k3 k4 k5 k6 k7 k8
              cases M0
              · go_wp2
                go_ret
                exact ⟨by rw [HR.out]; first | rfl | (simp [rr]; done) | (simp [rr, HW.out]; done), HB5.out⟩
              · go_wp2_with fail
                refine (HNM.out w5 HB5.out).mono ?_
                rintro e w6 ⟨rfl, hb⟩
                have HB6 := Aside0.mk (below_kept HB5.out hb)
                have i7 := cell_b2 hb j7
                clear hb j0 j1 j2 j3 j4 j5 j6 j7 j8
                cases NB
                · cases E
                  · go_wp2
                    go_ret
                    exact ⟨by rw [HR.out]; first | rfl | (simp [rr]; done) | (simp [rr, HW.out]; done), HB6.out⟩
                  · go_wp2
                    go_ret
                    exact ⟨by rw [HR.out]; first | rfl | (simp [rr]; done) | (simp [rr, HW.out]; done), HB6.out⟩
                · cases E
                  · go_wp2
                    go_ret
                    exact ⟨by rw [HR.out]; first | rfl | (simp [rr]; done) | (simp [rr, HW.out]; done), HB6.out⟩
                  · go_wp2
                    go_ret
                    exact ⟨by rw [HR.out]; first | rfl | (simp [rr]; done) | (simp [rr, HW.out]; done), HB6.out⟩
          · have hwb : (wi == 0) = false := beq_eq_false_iff_ne.mpr hw
            have hwn : (wi != 0) = true := bne_iff_ne.mpr hw
            have HW := Aside0.mk hw
            clear hw
            go_wp2
            go_ret
            exact ⟨by rw [HR.out]; first | rfl | (simp [rr]; done) | (simp [rr, HW.out]; done), HB.out⟩
        · subst hk
          by_cases hw : wi = 0
          · subst hw
            cases B
            · go_wp2
              go_ret
              exact ⟨by rw [HR.out]; first | rfl | (simp [rr]; done) | (simp [rr, HW.out]; done), HB.out⟩
            · go_wp2_with fail
              refine (HM0.out wc).mono ?_
              rintro e w5 ⟨rfl, hb⟩
              have HB5 := Aside0.mk (below_kept HB.out hb)
              have j0 := cell_b2 hb k0
              have j1 := cell_b2 hb k1
              have j2 := cell_b2 hb k2
              have j3 := cell_b2 hb k3
              have j4 := cell_b2 hb k4
              have j5 := cell_b2 hb k5
              have j6 := cell_b2 hb k6
              have j7 := cell_b2 hb k7
              have j8 := cell_b2 hb k8
              clear hb k0 k1 k2 k3 k4 k5 k6 k7 k8
              cases M0
              · go_wp2
                go_ret
                exact ⟨by rw [HR.out]; first | rfl | (simp [rr]; done) | (simp [rr, HW.out]; done), HB5.out⟩
              · go_wp2_with fail
                refine (HNM.out w5 HB5.out).mono ?_
                rintro e w6 ⟨rfl, hb⟩
                have HB6 := Aside0.mk (below_kept HB5.out hb)
                have i7 := cell_b2 hb j7
                clear hb j0 j1 j2 j3 j4 j5 j6 j7 j8
                cases NB
                · cases E
                  · go_wp2
                    go_ret
                    exact ⟨by rw [HR.out]; first | rfl | (simp [rr]; done) | (simp [rr, HW.out]; done), HB6.out⟩
                  · go_wp2
                    go_ret
                    exact ⟨by rw [HR.out]; first | rfl | (simp [rr]; done) | (simp [rr, HW.out]; done), HB6.out⟩
                · cases E
                  · go_wp2
                    go_ret
                    exact ⟨by rw [HR.out]; first | rfl | (simp [rr]; done) | (simp [rr, HW.out]; done), HB6.out⟩
                  · go_wp2
                    go_ret
                    exact ⟨by rw [HR.out]; first | rfl | (simp [rr]; done) | (simp [rr, HW.out]; done), HB6.out⟩
          · have hwb : (wi == 0) = false := beq_eq_false_iff_ne.mpr hw
            have hwn : (wi != 0) = true := bne_iff_ne.mpr hw
            have HW := Aside0.mk hw
            clear hw
            go_wp2
            go_ret
            exact ⟨by rw [HR.out]; first | rfl | (simp [rr]; done) | (simp [rr, HW.out]; done), HB.out⟩
        · subst hk
          by_cases hw : wi = 0
          · subst hw
            cases B
            · go_wp2
              go_ret
              exact ⟨by rw [HR.out]; first | rfl | (simp [rr]; done) | (simp [rr, HW.out]; done), HB.out⟩
            · cases U
              · go_wp2
                go_ret
                exact ⟨by rw [HR.out]; first | rfl | (simp [rr]; done) | (simp [rr, HW.out]; done), HB.out⟩
              · go_wp2_with fail
                refine (HTX.out wc).mono ?_
                rintro e w5 ⟨rfl, hb⟩
                have HB5 := Aside0.mk (below_kept HB.out hb)
                clear hb k0 k1 k2 k3 k4 k5 k6 k7 k8
                cases TB
                · go_wp2
                  go_ret
                  exact ⟨by rw [HR.out]; first | rfl | (simp [rr]; done) | (simp [rr, HW.out]; done), HB5.out⟩
                · go_wp2
                  go_ret
                  exact ⟨by rw [HR.out]; first | rfl | (simp [rr]; done) | (simp [rr, HW.out]; done), HB5.out⟩
          · have hwb : (wi == 0) = false := beq_eq_false_iff_ne.mpr hw
            have hwn : (wi != 0) = true := bne_iff_ne.mpr hw
            have HW := Aside0.mk hw
            clear hw
            go_wp2
            go_ret
            exact ⟨by rw [HR.out]; first | rfl | (simp [rr]; done) | (simp [rr, HW.out]; done), HB.out⟩
        · subst hk
          by_cases hw : wi = 0
          · subst hw
            cases B
            · go_wp2
              go_ret
              exact ⟨by rw [HR.out]; first | rfl | (simp [rr]; done) | (simp [rr, HW.out]; done), HB.out⟩
            · cases U
              · go_wp2
                go_ret
                exact ⟨by rw [HR.out]; first | rfl | (simp [rr]; done) | (simp [rr, HW.out]; done), HB.out⟩
              · go_wp2_with fail
                refine (HTX.out wc).mono ?_
                rintro e w5 ⟨rfl, hb⟩
                have HB5 := Aside0.mk (below_kept HB.out hb)
                clear hb k0 k1 k2 k3 k4 k5 k6 k7 k8
                cases TB
                · go_wp2
                  go_ret
                  exact ⟨by rw [HR.out]; first | rfl | (simp [rr]; done) | (simp [rr, HW.out]; done), HB5.out⟩
                · go_wp2
                  go_ret
                  exact ⟨by rw [HR.out]; first | rfl | (simp [rr]; done) | (simp [rr, HW.out]; done), HB5.out⟩
          · have hwb : (wi == 0) = false := beq_eq_false_iff_ne.mpr hw
            have hwn : (wi != 0) = true := bne_iff_ne.mpr hw
            have HW := Aside0.mk hw
            clear hw
            go_wp2
            go_ret
            exact ⟨by rw [HR.out]; first | rfl | (simp [rr]; done) | (simp [rr, HW.out]; done), HB.out⟩
        · subst hk
          cases B
          · by_cases hw : wi = 5
            · subst hw
              go_wp2
              go_ret
              exact ⟨by rw [HR.out]; first | rfl | (simp [rr]; done) | (simp [rr, HW.out]; done), HB.out⟩
            · by_cases hw2 : wi = 6
              · subst hw2
                go_wp2
                go_ret
                exact ⟨by rw [HR.out]; first | rfl | (simp [rr]; done) | (simp [rr, HW.out]; done), HB.out⟩
              · have HW := Aside0.mk hw
                clear hw hw2
                go_wp2
                go_ret
                exact ⟨by rw [HR.out]; first | rfl | (simp [rr]; done) | (simp [rr, HW.out]; done), HB.out⟩
          · by_cases hw5 : wi = 5
            · subst hw5
              cases U
              · go_wp2
                go_ret
                exact ⟨by rw [HR.out]; first | rfl | (simp [rr]; done) | (simp [rr, HW.out]; done), HB.out⟩
              · go_wp2_with fail
                refine (HTX.out wc).mono ?_
                rintro e w5 ⟨rfl, hb⟩
                have HB5 := Aside0.mk (below_kept HB.out hb)
                clear hb k0 k1 k2 k3 k4 k5 k6 k7 k8
                cases TB
                · go_wp2
                  go_ret
                  exact ⟨by rw [HR.out]; first | rfl | (simp [rr]; done) | (simp [rr, HW.out]; done), HB5.out⟩
                · go_wp2
                  go_ret
                  exact ⟨by rw [HR.out]; first | rfl | (simp [rr]; done) | (simp [rr, HW.out]; done), HB5.out⟩
            · by_cases hw6 : wi = 6
              · subst hw6
                cases U
                · go_wp2
                  go_ret
                  exact ⟨by rw [HR.out]; first | rfl | (simp [rr]; done) | (simp [rr, HW.out]; done), HB.out⟩
                · go_wp2_with fail
                  refine (HTX.out wc).mono ?_
                  rintro e w5 ⟨rfl, hb⟩
                  have HB5 := Aside0.mk (below_kept HB.out hb)
                  clear hb k0 k1 k2 k3 k4 k5 k6 k7 k8
                  cases TB
                  · go_wp2
                    go_ret
                    exact ⟨by rw [HR.out]; first | rfl | (simp [rr]; done) | (simp [rr, HW.out]; done), HB5.out⟩
                  · go_wp2
                    go_ret
                    exact ⟨by rw [HR.out]; first | rfl | (simp [rr]; done) | (simp [rr, HW.out]; done), HB5.out⟩
              · have h5 : (wi == 5) = false := beq_eq_false_iff_ne.mpr hw5
                have h6 : (wi == 6) = false := beq_eq_false_iff_ne.mpr hw6
                have n5 : (wi != 5) = true := bne_iff_ne.mpr hw5
                have n6 : (wi != 6) = true := bne_iff_ne.mpr hw6
                have HW := Aside0.mk (And.intro hw5 hw6)
                clear hw5 hw6
                go_wp2
                go_ret
                exact ⟨by rw [HR.out]; first | rfl | (simp [rr]; done) | (simp [rr, HW.out]; done), HB.out⟩
        · obtain ⟨h0, h1, h2, h3, h4, h5, h6, h7⟩ := hk
          have e0 : (st == 0) = false := beq_eq_false_iff_ne.mpr h0
          have e1 : (st == 1) = false := beq_eq_false_iff_ne.mpr h1
          have e2 : (st == 2) = false := beq_eq_false_iff_ne.mpr h2
          have e3 : (st == 3) = false := beq_eq_false_iff_ne.mpr h3
          have e4 : (st == 4) = false := beq_eq_false_iff_ne.mpr h4
          have e5 : (st == 5) = false := beq_eq_false_iff_ne.mpr h5
          have e6 : (st == 6) = false := beq_eq_false_iff_ne.mpr h6
          have e7 : (st == 7) = false := beq_eq_false_iff_ne.mpr h7
          have n0 : (st != 0) = true := bne_iff_ne.mpr h0
          have n7 : (st != 7) = true := bne_iff_ne.mpr h7
          have HS := Aside0.mk (show st ≠ 0 ∧ st ≠ 1 ∧ st ≠ 2 ∧ st ≠ 3 ∧ st ≠ 4 ∧ st ≠ 5 ∧ st ≠ 6 ∧ st ≠ 7 from ⟨h0, h1, h2, h3, h4, h5, h6, h7⟩)
          clear h0 h1 h2 h3 h4 h5 h6 h7
          by_cases hw : wi = 0
          · subst hw
            cases B
            · go_wp2
              go_ret
              exact ⟨by rw [HR.out]; first | rfl | (simp [rr, HS.out]; done) | (simp [rr, HS.out, HW.out]; done), HB.out⟩
            · go_wp2
              go_ret
              exact ⟨by rw [HR.out]; first | rfl | (simp [rr, HS.out]; done) | (simp [rr, HS.out, HW.out]; done), HB.out⟩
          · have hwb : (wi == 0) = false := beq_eq_false_iff_ne.mpr hw
            have hwn : (wi != 0) = true := bne_iff_ne.mpr hw
            have HW := Aside0.mk hw
            clear hw
            go_wp2
            go_ret
            exact ⟨by rw [HR.out]; first | rfl | (simp [rr, HS.out]; done) | (simp [rr, HS.out, HW.out]; done), HB.out⟩
end Go.Proofs.YtkdkajcokoggiaaDoor.VtRightB
/- A parser that has the form that its state has is told right. -/
namespace Go.Proofs.YtkdkajcokoggiaaDoor.VtRightC
open Go.RowKit Go.Proofs.YtkdkajcokoggiaaDoor.Kit Go.Proofs.YtkdkajcokoggiaaDoor.Plain Go.Proofs.YtkdkajcokoggiaaDoor.Mine Go.Proofs.YtkdkajcokoggiaaDoor.UtfPure Go.Proofs.YtkdkajcokoggiaaDoor.UtfFull Go.Proofs.YtkdkajcokoggiaaDoor.UtfFeed Go.Proofs.YtkdkajcokoggiaaDoor.UtfRight Go.Proofs.YtkdkajcokoggiaaDoor.UtfPart Go.Proofs.YtkdkajcokoggiaaDoor.VtPure Go.Proofs.YtkdkajcokoggiaaDoor.VtSmall Go.Proofs.YtkdkajcokoggiaaDoor.VtInv Go.Proofs.YtkdkajcokoggiaaDoor.VtRightA Go.Proofs.YtkdkajcokoggiaaDoor.VtRightB Go.Proofs.YtkdkajcokoggiaaDoorW.PrintWords Go.Proofs.YtkdkajcokoggiaaDoorW.PrintLast Go.Proofs.YtkdkajcokoggiaaDoorW.PrintMore
open Go.Lib (Utf8Tabs)
set_option linter.unusedVariables false
set_option linter.unusedSimpArgs false
theorem right_of_part {p : List Int} (h : Part p) : rightB [p[0]?.getD 0, p[1]?.getD 0, p[2]?.getD 0] (p.length : Int) = true := by
  obtain ⟨_, h2, h3⟩ := h
  match p, h2, h3 with
  | [], _, _ => rfl
  | [a], h2, _ => have h := h2.resolve_left (by simp); simp [rightB, rightN, h]
  | [a, b], h2, _ => have h := h2.resolve_left (by simp); simp [rightB, rightN, h]
  | [a, b, c], h2, _ => have h := h2.resolve_left (by simp); simp [rightB, rightN, h]
  | _ :: _ :: _ :: _ :: _, _, h3 => simp at h3
theorem nob_empty : nob.toList.isEmpty = true := by
  have h : nob.toList = [] := by unfold nob; simp
  rw [h]; rfl
theorem part_bytes {p : List Int} (h : Bytes p) : Bytes [p[0]?.getD 0, p[1]?.getD 0, p[2]?.getD 0] := by
  have key : ∀ i : Nat, 0 ≤ p[i]?.getD 0 ∧ p[i]?.getD 0 < 256 := fun i => by
    cases e : p[i]? with
    | none => exact ⟨Int.le_refl _, by decide⟩
    | some x => exact h x (List.mem_of_getElem? e)
  intro x hx
  simp only [List.mem_cons, List.not_mem_nil, or_false] at hx
  rcases hx with rfl | rfl | rfl
  · exact key 0
  · exact key 1
  · exact key 2
theorem right_form {v : PR} (h : PForm v) : rightR v.st (v.u[0]?.getD 0) (v.u[1]?.getD 0) (v.u[2]?.getD 0) v.u.length v.mr v.tx v.ps v.wi = true := by
  have h0 := h.st0
  have h7 := h.st7
  have hB : v.st ≠ 0 → bareB (v.u[0]?.getD 0) (v.u[1]?.getD 0) (v.u[2]?.getD 0) v.u.length = true := fun hs => by rw [h.u0 hs]; rfl
  have hmr : v.st ≠ 2 → v.st ≠ 3 → v.st ≠ 4 → v.mr.toList.isEmpty = true := fun a b c => by rw [h.mr0 a b c]; exact nob_empty
  have hps : v.st ≠ 3 → v.st ≠ 4 → (v.ps.length == 0) = true := fun a b => by rw [h.ps0 a b]; rfl
  have htx : v.st < 5 → v.tx.toList.isEmpty = true := fun a => by rw [h.tx0 a]; exact nob_empty
  have hN : numsB v.ps = true := by
    unfold numsB
    rw [Bool.and_eq_true]
    refine ⟨List.all_eq_true.2 fun x hx => ?_, decide_eq_true h.ps8⟩
    have := h.psb x hx
    rw [Bool.and_eq_true]
    exact ⟨decide_eq_true this.1, decide_eq_true this.2⟩
  have hT : textB v.tx = true := by
    unfold textB
    rw [Bool.and_eq_true]
    exact ⟨List.all_eq_true.2 fun x hx => decide_eq_true (h.txb x hx), decide_eq_true h.tx40⟩
  have hM1 : v.st = 2 → marksB 1 2 lowB v.mr = true := fun hs => by
    unfold marksB
    rw [Bool.and_eq_true, Bool.and_eq_true]
    refine ⟨decide_eq_true (h.mr1 hs), decide_eq_true h.mr2, List.all_eq_true.2 fun x hx => ?_⟩
    have := h.mrb x hx
    unfold lowB
    rw [Bool.and_eq_true]
    exact ⟨decide_eq_true this.1, decide_eq_true (by omega)⟩
  have hM0 : marksB 0 2 wideB v.mr = true := by
    unfold marksB
    rw [Bool.and_eq_true, Bool.and_eq_true]
    refine ⟨decide_eq_true (Nat.zero_le _), decide_eq_true h.mr2, List.all_eq_true.2 fun x hx => ?_⟩
    have := h.mrb x hx
    unfold wideB lowB
    rw [Bool.or_eq_true, Bool.and_eq_true, Bool.and_eq_true]
    rcases this.2 with h1 | h1
    · exact .inl ⟨decide_eq_true this.1, decide_eq_true (by omega)⟩
    · exact .inr ⟨decide_eq_true h1.2.1, decide_eq_true h1.2.2⟩
  have hR := right_of_part h.u
  unfold rightR
  rcases (show v.st = 0 ∨ v.st = 1 ∨ v.st = 2 ∨ v.st = 3 ∨ v.st = 4 ∨ v.st = 5 ∨ v.st = 6 ∨ v.st = 7 by omega) with e | e | e | e | e | e | e | e
  · rw [hR, hmr (by omega) (by omega) (by omega), hps (by omega) (by omega), htx (by omega), e, h.wi0 (by omega)]; rfl
  · rw [hB (by omega), hmr (by omega) (by omega) (by omega), hps (by omega) (by omega), htx (by omega), e, h.wi0 (by omega)]; rfl
  · rw [hB (by omega), hM1 e, hps (by omega) (by omega), htx (by omega), e, h.wi0 (by omega)]; rfl
  · rw [hB (by omega), hM0, hN, htx (by omega), e, h.wi0 (by omega)]; rfl
  · rw [hB (by omega), hM0, hN, htx (by omega), e, h.wi0 (by omega)]; rfl
  · rw [hB (by omega), hT, hmr (by omega) (by omega) (by omega), hps (by omega) (by omega), e, h.wi0 (by omega)]; rfl
  · rw [hB (by omega), hT, hmr (by omega) (by omega) (by omega), hps (by omega) (by omega), e, h.wi0 (by omega)]; rfl
  · rw [hB (by omega), hT, hmr (by omega) (by omega) (by omega), hps (by omega) (by omega), e]
    rcases h.wi7 e with e2 | e2 <;> rw [e2] <;> rfl
theorem form_c (v : PR) (h : PForm v) (A : Option Addr) (n cp : Nat) (w : World) (hps : Kd.C (Kd.int .i64) w A n v.ps) (hT : Utf8Tabs 0 1 w) :
    Calls Tryd.prog 17 #[.agg #[.int .i64 v.st, .int .u8 (v.u[0]?.getD 0), .int .u8 (v.u[1]?.getD 0), .int .u8 (v.u[2]?.getD 0), .int .i64 v.u.length, .string v.mr, .slice A n cp, .string v.tx, .int .i64 v.wi]] w fun e w' => e = .returned (.bool true) ∧ Below w.heap.size w w' := by
  obtain rfl : n = v.ps.length := hps.1.symm
  have hc := VtRightB.right_c v.st (v.u[0]?.getD 0) (v.u[1]?.getD 0) (v.u[2]?.getD 0) v.u.length v.mr A cp v.ps v.tx v.wi w hT (part_bytes h.u.1) hps (Nat.le_trans h.mr2 (by decide)) (Nat.le_trans h.tx40 (by decide)) (Nat.le_trans h.ps8 (by decide))
  rw [right_form h] at hc
  exact hc
end Go.Proofs.YtkdkajcokoggiaaDoor.VtRightC
