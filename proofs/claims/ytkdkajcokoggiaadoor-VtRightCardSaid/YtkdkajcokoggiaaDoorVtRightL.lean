/- Several texts as one: Arr3, VtOpen, VtRightP, VtRight. -/
import Derived.Test.YtkdkajcokoggiaaDoorKit
import Derived.ChangeSame
import Derived.OpenShut
import Derived.Laws.IdiomArrays
import Derived.Test.YtkdkajcokoggiaaDoorUtfPure2
import Derived.Deep.Slices
import Derived.Deep.Fields
import Derived.ChangeSlices
import Derived.ChangeArms
import Derived.Test.YtkdkajcokoggiaaDoorVtRightAll
import Derived.Test.YtkdkajcokoggiaaDoorVtFit
/- An array of three integers as a parameter: opened, and shut. -/
namespace Go.Proofs.YtkdkajcokoggiaaDoor.Arr3
open Go.ChangeShapes Go.WideShapes
section
variable {H : Type} {enc : TypeId × Value → H} {P : Program} {w : World} {base : Nat} {spare : Nat → Bool} {held : Bool}
theorem list3 {α : Type} (l : List α) (h : (⟨l⟩ : Array α).size = 3) : ∃ a b c, l = [a, b, c] := by
  match l, h with
  | [a, b, c], _ => exact ⟨a, b, c, rfl⟩
theorem open_arr3 {r : Reach} {b0 : Nat} {t e : TypeId} {k : IntKind} {v : Value} {d : DataW H} {p : List MemPlace} (ht : P.underlying t = some (.array 3 e)) (he : P.underlying e = some (.int k)) (hc : P.cellsOf t = 3) (hce : P.cellsOf e = 1)
    (hval : Value.okWide P w r b0 t v) (h : DataW.Trod enc P w base spare held t v d p) :
    ∃ x y z : Int, v = .agg #[.int k x, .int k y, .int k z] ∧ d = .agg [.lit (.int k x), .lit (.int k y), .lit (.int k z)] ∧ p = [] ∧ (Lit.int k x).wf = true ∧ (Lit.int k y).wf = true ∧ (Lit.int k z).wf = true := by
  obtain ⟨cs, rfl, hsz⟩ : ∃ cs, v = .agg cs ∧ cs.size = P.cellsOf t := by
    simp only [Value.okWide, ht] at hval
    obtain ⟨cs, h1, h2, _⟩ := hval
    exact ⟨cs, h1, h2⟩
  rw [hc] at hsz
  obtain ⟨l⟩ := cs
  obtain ⟨c0, c1, c2, rfl⟩ := list3 l hsz
  obtain ⟨fuel, hf⟩ := h
  obtain ⟨y0, y1, y2, m, hx, hy0, hy1, hy2⟩ := trod_array3 ht hce hf
  obtain ⟨x0, e0, rfl, w0⟩ := DataW.trod_int he hy0
  obtain ⟨x1, e1, rfl, w1⟩ := DataW.trod_int he hy1
  obtain ⟨x2, e2, rfl, w2⟩ := DataW.trod_int he hy2
  simp at e0 e1 e2
  subst e0 e1 e2
  simp only [Prod.mk.injEq] at hx
  obtain ⟨rfl, rfl⟩ := hx
  exact ⟨x0, x1, x2, rfl, rfl, rfl, w0, w1, w2⟩
theorem shut_arr3 {t e : TypeId} {k : IntKind} {x y z : Int} (ht : P.underlying t = some (.array 3 e)) (he : P.underlying e = some (.int k)) (hc : P.cellsOf t = 3) (hce : P.cellsOf e = 1)
    (w0 : (Lit.int k x).wf = true) (w1 : (Lit.int k y).wf = true) (w2 : (Lit.int k z).wf = true) :
    DataW.Trod enc P w base spare held t (.agg #[.int k x, .int k y, .int k z]) (.agg [.lit (.int k x), .lit (.int k y), .lit (.int k z)]) [] := by
  refine ⟨2, ?_⟩
  have r3 : List.range 3 = [0, 1, 2] := rfl
  simp [DataW.trod, Value.cells, ht, he, hc, hce, r3, w0, w1, w2]
end
end Go.Proofs.YtkdkajcokoggiaaDoor.Arr3
/- A parser as a law's argument, opened. -/
namespace Go.Proofs.YtkdkajcokoggiaaDoor.VtOpen
open Go.RowKit Go.ChangeShapes Go.WideShapes Go.Deep Go.Proofs.YtkdkajcokoggiaaDoor.UtfPure Go.Proofs.YtkdkajcokoggiaaDoorW.PrintWords
section
variable {H : Type} {enc : TypeId × Value → H} {w : World} {base : Nat} {spare : Nat → Bool} {held : Bool}
theorem el_ints2 {P : Program} {k : IntKind} {t e : TypeId} {fuel : Nat} {cs : List Value} {x : DataW H × List MemPlace} (ht : P.underlying t = some (.slice e)) (he : P.underlying e = some (.int k)) (hc : P.cellsOf e = 1)
    (h : DataW.trod enc P w base spare held fuel t cs = some x) : ∃ (A : Option Addr) (c : Nat) (l : List Int), cs = [.slice A l.length c] ∧ Kd.C (Kd.int k) w A l.length l := by
  rcases open_ints ht he hc h with ⟨rfl, _⟩ | ⟨x, l, c, zs, rfl, _, hl, hm, hz, _, hcell, hwz⟩
  · exact ⟨none, 0, [], rfl, Kd.C_nil _ _⟩
  · have hlz : l ≤ zs.length := by rw [hz]; split <;> omega
    refine ⟨some x, c, zs.take l, by rw [List.length_take, Nat.min_eq_left hlz], ?_⟩
    refine Kd.C_of_reads (enc := Value.int k) (d := (0 : Int)) (h1 := fun _ => rfl) ⟨rfl, by rw [List.length_take]; simp only [maxLen] at hm; omega, fun _ => ⟨_, rfl, fun j hj => ?_⟩⟩
    rw [List.length_take] at hj
    rw [hcell j (by omega)]
    simp [List.getD_eq_getElem?_getD, show j < l from by omega]
theorem byte_wf {x : Int} (h : (Lit.int .u8 x).wf = true) : 0 ≤ x ∧ x < 256 := by
  simp [Lit.wf, IntKind.min, IntKind.max, IntKind.signed, IntKind.bits] at h
  omega
theorem open_parser {r : Reach} {b0 : Nat} {v : Value} {d : DataW H} {p : List MemPlace} (hval : Value.okWide Tryd.prog w r b0 28 v) (h : DataW.Trod enc Tryd.prog w base spare held 28 v d p) :
    ∃ (st x0 x1 x2 n : Int) (mr : ByteArray) (A : Option Addr) (cp : Nat) (ps : List Int) (tx : ByteArray) (wi : Int), v = .agg #[.int .i64 st, .int .u8 x0, .int .u8 x1, .int .u8 x2, .int .i64 n, .string mr, .slice A ps.length cp, .string tx, .int .i64 wi] ∧ Kd.C (Kd.int .i64) w A ps.length ps ∧ Bytes [x0, x1, x2] := by
  obtain ⟨cs, rfl, hsz⟩ : ∃ cs, v = .agg cs ∧ cs.size = Tryd.prog.cellsOf 28 := by
    simp only [Value.okWide, Tryd.underlying28] at hval
    obtain ⟨cs, h1, h2, _⟩ := hval
    exact ⟨cs, h1, h2⟩
  obtain ⟨fuel, hf⟩ := h
  have hf2 : DataW.trod enc Tryd.prog w base spare held fuel 28 cs.toList = some (d, p) := hf
  obtain ⟨xs, n, _, _, hl, hlen, hfs⟩ := DataW.trod_struct Tryd.underlying28 hf2
  have hc : Tryd.prog.cellsOf 28 = 9 := by kernel_rfl
  have c3 : Tryd.prog.cellsOf 3 = 1 := by kernel_rfl
  have c9 : Tryd.prog.cellsOf 9 = 1 := by kernel_rfl
  have c26 : Tryd.prog.cellsOf 26 = 1 := by kernel_rfl
  have c25 : Tryd.prog.cellsOf 25 = 4 := by kernel_rfl
  have c23 : Tryd.prog.cellsOf 23 = 3 := by kernel_rfl
  have c5 : Tryd.prog.cellsOf 5 = 1 := by kernel_rfl
  rw [hc] at hl
  obtain ⟨cl⟩ := cs
  match cl, hl with
  | [v0, v1, v2, v3, v4, v5, v6, v7, v8], _ =>
    match xs, hlen with
    | [y0, y1, y2, y3, y4, y5], _ =>
      have h0 : DataW.trod enc Tryd.prog w base spare held _ 3 (([v0, v1, v2, v3, v4, v5, v6, v7, v8].drop 0).take (Tryd.prog.cellsOf 3)) = some y0 := hfs 0 _ rfl
      rw [c3] at h0
      have h1 : DataW.trod enc Tryd.prog w base spare held _ 25 (([v0, v1, v2, v3, v4, v5, v6, v7, v8].drop 1).take (Tryd.prog.cellsOf 25)) = some y1 := hfs 1 _ rfl
      rw [c25] at h1
      have h2 : DataW.trod enc Tryd.prog w base spare held _ 9 (([v0, v1, v2, v3, v4, v5, v6, v7, v8].drop 5).take (Tryd.prog.cellsOf 9)) = some y2 := hfs 2 _ rfl
      rw [c9] at h2
      have h3 : DataW.trod enc Tryd.prog w base spare held _ 26 (([v0, v1, v2, v3, v4, v5, v6, v7, v8].drop 6).take (Tryd.prog.cellsOf 26)) = some y3 := hfs 3 _ rfl
      rw [c26] at h3
      have h4 : DataW.trod enc Tryd.prog w base spare held _ 9 (([v0, v1, v2, v3, v4, v5, v6, v7, v8].drop 7).take (Tryd.prog.cellsOf 9)) = some y4 := hfs 4 _ rfl
      rw [c9] at h4
      have h5 : DataW.trod enc Tryd.prog w base spare held _ 3 (([v0, v1, v2, v3, v4, v5, v6, v7, v8].drop 8).take (Tryd.prog.cellsOf 3)) = some y5 := hfs 5 _ rfl
      rw [c3] at h5
      obtain ⟨a0, e0, _, _⟩ := DataW.trod_int Tryd.underlying3 h0
      obtain ⟨a2, e2, _, _⟩ := DataW.trod_string Tryd.underlying9 h2
      obtain ⟨A, cp, ps, e3, hps⟩ := el_ints2 Tryd.underlying26 Tryd.underlying3 c3 h3
      obtain ⟨a4, e4, _, _⟩ := DataW.trod_string Tryd.underlying9 h4
      obtain ⟨a5, e5, _, _⟩ := DataW.trod_int Tryd.underlying3 h5
      have h1' : DataW.trod enc Tryd.prog w base spare held _ 25 [v1, v2, v3, v4] = some y1 := h1
      obtain ⟨zs, m, _, _, _, hlen2, hgs⟩ := DataW.trod_struct Tryd.underlying25 h1'
      match zs, hlen2 with
      | [z0, z1], _ =>
        have g0 : DataW.trod enc Tryd.prog w base spare held _ 23 (([v1, v2, v3, v4].drop 0).take (Tryd.prog.cellsOf 23)) = some z0 := hgs 0 _ rfl
        rw [c23] at g0
        have g1 : DataW.trod enc Tryd.prog w base spare held _ 3 (([v1, v2, v3, v4].drop 3).take (Tryd.prog.cellsOf 3)) = some z1 := hgs 1 _ rfl
        rw [c3] at g1
        obtain ⟨a1, e1, _, _⟩ := DataW.trod_int Tryd.underlying3 g1
        have g0' : DataW.trod enc Tryd.prog w base spare held _ 23 [v1, v2, v3] = some z0 := g0
        obtain ⟨q0, q1, q2, m2, hx, hq0, hq1, hq2⟩ := trod_array3 Tryd.underlying23 c5 g0'
        obtain ⟨x0, f0, _, w0⟩ := DataW.trod_int Tryd.underlying5 hq0
        obtain ⟨x1, f1, _, w1⟩ := DataW.trod_int Tryd.underlying5 hq1
        obtain ⟨x2, f2, _, w2⟩ := DataW.trod_int Tryd.underlying5 hq2
        simp at e0 e1 e2 e3 e4 e5 f0 f1 f2
        subst e0 e1 e2 e3 e4 e5 f0 f1 f2
        refine ⟨a0, x0, x1, x2, a1, a2, A, cp, ps, a4, a5, rfl, hps, fun x hx => ?_⟩
        simp only [List.mem_cons, List.not_mem_nil, or_false] at hx
        rcases hx with rfl | rfl | rfl
        · exact byte_wf w0
        · exact byte_wf w1
        · exact byte_wf w2
end
end Go.Proofs.YtkdkajcokoggiaaDoor.VtOpen
/- What the statement VtRight says of a parser is what Right tells: plain laws. -/
namespace Go.Proofs.YtkdkajcokoggiaaDoor.VtRightP
open Go.RowKit Go.Proofs.YtkdkajcokoggiaaDoor.Plain Go.Proofs.YtkdkajcokoggiaaDoor.Mine Go.Proofs.YtkdkajcokoggiaaDoor.UtfPure Go.Proofs.YtkdkajcokoggiaaDoor.UtfRight Go.Proofs.YtkdkajcokoggiaaDoor.VtRightA Go.Proofs.YtkdkajcokoggiaaDoor.VtRightB Go.Proofs.YtkdkajcokoggiaaDoorW.PrintWords
set_option linter.unusedVariables false
set_option linter.unusedSimpArgs false
def mkB (CS : Bool) (c : Int) : Bool := decide (32 ≤ c) && (decide (c ≤ 47) || ((CS && decide (60 ≤ c)) && decide (c ≤ 63)))
def nmB (n : Int) : Bool := decide (0 ≤ n) && decide (n ≤ 9999)
def ok1 (st : Int) (N RB AR : Bool) : Bool := (decide (0 ≤ st) && decide (st ≤ 7)) && (((st == 0) && RB) || (N && AR))
def ok2 (o : Bool) (st wi : Int) : Bool := o && (((st == 7) && ((wi == 5) || (wi == 6))) || ((st != 7) && (wi == 0)))
def ok3 (o Z CS P8 E TX T40 : Bool) : Bool := (((o && (Z || CS)) && P8) && (E || TX)) && T40
def ok4 (o M2 MZ CS : Bool) (st : Int) : Bool := ((o && M2) && ((MZ || CS) || (st == 2))) && ((st != 2) || !MZ)
/-- All of it, out of its parts. -/
def okAll (st : Int) (N : Bool) (wi : Int) (RB AR Z CS P8 E TX T40 M2 MZ MK PS TA : Bool) : Bool := ((ok4 (ok3 (ok2 (ok1 st N RB AR) st wi) Z CS P8 E TX T40) M2 MZ CS st && MK) && PS) && TA
theorem low_is (c : Int) : lowB c = mkB false c := by
  unfold lowB mkB
  have : decide (c < 48) = decide (c ≤ 47) := by by_cases h : c < 48 <;> simp [h] <;> omega
  rw [this, Bool.false_and, Bool.false_and, Bool.or_false]
theorem wide_is (c : Int) : wideB c = mkB true c := by
  unfold wideB lowB mkB
  by_cases h1 : 32 ≤ c <;> by_cases h2 : c ≤ 47 <;> by_cases h3 : 60 ≤ c <;> by_cases h4 : c ≤ 63 <;> simp [h1, h2, h3, h4] <;> omega
theorem empty_size (s : ByteArray) : s.toList.isEmpty = decide (s.size = 0) := by
  rw [← data_length s]
  have h : s.toList = s.data.toList := ByteArray.toList_eq s
  rw [h]
  cases s.data.toList <;> rfl
theorem empty_bytes {s : ByteArray} (h : s.toList.isEmpty = true) : bytesOf s = [] := by
  rw [empty_size] at h
  have := of_decide_eq_true h
  exact List.eq_nil_of_length_eq_zero (by rw [bytesOf_length]; exact this)
/-- What is known of the parts. -/
def partsOk (RB AR N Z P8 E T40 M2 MZ MF MT PS TA : Bool) : Bool := (!(AR && N) || RB) && ((!Z || (P8 && PS)) && ((!E || (T40 && TA)) && (!MZ || (M2 && (MF && MT)))))
theorem core_0_0 : ∀ (RB AR N Z P8 E T40 M2 MZ MF MT PS TA : Bool), partsOk RB AR N Z P8 E T40 M2 MZ MF MT PS TA = true → rr 0 0 (AR && N) (MZ && Z) Z E RB (!MZ && (M2 && MF)) (M2 && MT) (PS && P8) (TA && T40) = okAll 0 N 0 RB AR Z false P8 E false T40 M2 MZ MF PS TA := by decide +kernel
theorem core_1_0 : ∀ (RB AR N Z P8 E T40 M2 MZ MF MT PS TA : Bool), partsOk RB AR N Z P8 E T40 M2 MZ MF MT PS TA = true → rr 1 0 (AR && N) (MZ && Z) Z E RB (!MZ && (M2 && MF)) (M2 && MT) (PS && P8) (TA && T40) = okAll 1 N 0 RB AR Z false P8 E false T40 M2 MZ MF PS TA := by decide +kernel
theorem core_2_0 : ∀ (RB AR N Z P8 E T40 M2 MZ MF MT PS TA : Bool), partsOk RB AR N Z P8 E T40 M2 MZ MF MT PS TA = true → rr 2 0 (AR && N) (MZ && Z) Z E RB (!MZ && (M2 && MF)) (M2 && MT) (PS && P8) (TA && T40) = okAll 2 N 0 RB AR Z false P8 E false T40 M2 MZ MF PS TA := by decide +kernel
theorem core_3_0 : ∀ (RB AR N Z P8 E T40 M2 MZ MF MT PS TA : Bool), partsOk RB AR N Z P8 E T40 M2 MZ MF MT PS TA = true → rr 3 0 (AR && N) (MZ && Z) Z E RB (!MZ && (M2 && MF)) (M2 && MT) (PS && P8) (TA && T40) = okAll 3 N 0 RB AR Z true P8 E false T40 M2 MZ MT PS TA := by decide +kernel
theorem core_4_0 : ∀ (RB AR N Z P8 E T40 M2 MZ MF MT PS TA : Bool), partsOk RB AR N Z P8 E T40 M2 MZ MF MT PS TA = true → rr 4 0 (AR && N) (MZ && Z) Z E RB (!MZ && (M2 && MF)) (M2 && MT) (PS && P8) (TA && T40) = okAll 4 N 0 RB AR Z true P8 E false T40 M2 MZ MT PS TA := by decide +kernel
theorem core_5_0 : ∀ (RB AR N Z P8 E T40 M2 MZ MF MT PS TA : Bool), partsOk RB AR N Z P8 E T40 M2 MZ MF MT PS TA = true → rr 5 0 (AR && N) (MZ && Z) Z E RB (!MZ && (M2 && MF)) (M2 && MT) (PS && P8) (TA && T40) = okAll 5 N 0 RB AR Z false P8 E true T40 M2 MZ MF PS TA := by decide +kernel
theorem core_6_0 : ∀ (RB AR N Z P8 E T40 M2 MZ MF MT PS TA : Bool), partsOk RB AR N Z P8 E T40 M2 MZ MF MT PS TA = true → rr 6 0 (AR && N) (MZ && Z) Z E RB (!MZ && (M2 && MF)) (M2 && MT) (PS && P8) (TA && T40) = okAll 6 N 0 RB AR Z false P8 E true T40 M2 MZ MF PS TA := by decide +kernel
theorem core_7_5 : ∀ (RB AR N Z P8 E T40 M2 MZ MF MT PS TA : Bool), partsOk RB AR N Z P8 E T40 M2 MZ MF MT PS TA = true → rr 7 5 (AR && N) (MZ && Z) Z E RB (!MZ && (M2 && MF)) (M2 && MT) (PS && P8) (TA && T40) = okAll 7 N 5 RB AR Z false P8 E true T40 M2 MZ MF PS TA := by decide +kernel
theorem core_7_6 : ∀ (RB AR N Z P8 E T40 M2 MZ MF MT PS TA : Bool), partsOk RB AR N Z P8 E T40 M2 MZ MF MT PS TA = true → rr 7 6 (AR && N) (MZ && Z) Z E RB (!MZ && (M2 && MF)) (M2 && MT) (PS && P8) (TA && T40) = okAll 7 N 6 RB AR Z false P8 E true T40 M2 MZ MF PS TA := by decide +kernel
theorem right_is (st b0 b1 b2 n : Int) (mr tx : ByteArray) (ps : List Int) (wi : Int) :
    rightR st b0 b1 b2 n mr tx ps wi = okAll st (n == 0) wi (rightB [b0, b1, b2] n) (b0 == 0 && (b1 == 0 && b2 == 0)) (ps.length == 0) ((st == 3) || (st == 4)) (decide (ps.length ≤ 8)) tx.toList.isEmpty (((st == 5) || (st == 6)) || (st == 7)) (decide (tx.size ≤ 40)) (decide (mr.size ≤ 2)) mr.toList.isEmpty
      ((bytesOf mr).all (mkB ((st == 3) || (st == 4)))) (ps.all nmB) ((bytesOf tx).all (fun c => decide (32 ≤ c))) := by
  have hAR : (b0 == 0 && (b1 == 0 && b2 == 0)) && (n == 0) = true → rightB [b0, b1, b2] n = true := fun h => by
    simp only [Bool.and_eq_true, beq_iff_eq] at h
    obtain ⟨⟨rfl, rfl, rfl⟩, hn⟩ := h
    obtain rfl : n = 0 := by simpa using hn
    rfl
  have hZ : (ps.length == 0) = true → decide (ps.length ≤ 8) = true ∧ ps.all nmB = true := fun h => by
    have : ps = [] := List.eq_nil_of_length_eq_zero (beq_iff_eq.1 h)
    rw [this]; exact ⟨rfl, rfl⟩
  have hE : tx.toList.isEmpty = true → decide (tx.size ≤ 40) = true ∧ (bytesOf tx).all (fun c => decide (32 ≤ c)) = true := fun h => by
    refine ⟨?_, by rw [empty_bytes h]; rfl⟩
    rw [empty_size] at h
    have := of_decide_eq_true h
    exact decide_eq_true (by omega)
  have hM : ∀ m, mr.toList.isEmpty = true → decide (mr.size ≤ 2) = true ∧ (bytesOf mr).all m = true := fun m h => by
    refine ⟨?_, by rw [empty_bytes h]; rfl⟩
    rw [empty_size] at h
    have := of_decide_eq_true h
    exact decide_eq_true (by omega)
  have hM1 : marksB 1 2 lowB mr = (!mr.toList.isEmpty && (decide (mr.size ≤ 2) && (bytesOf mr).all (mkB false))) := by
    unfold marksB
    rw [show lowB = mkB false from funext low_is, empty_size]
    congr 1
    by_cases h : mr.size = 0
    · simp [h]
    · simp [h]; omega
  have hM0 : marksB 0 2 wideB mr = (decide (mr.size ≤ 2) && (bytesOf mr).all (mkB true)) := by
    unfold marksB
    rw [show wideB = mkB true from funext wide_is, decide_eq_true (Nat.zero_le _), Bool.true_and]
  have hN : numsB ps = (ps.all nmB && decide (ps.length ≤ 8)) := rfl
  have hT : textB tx = ((bytesOf tx).all (fun c => decide (32 ≤ c)) && decide (tx.size ≤ 40)) := rfl
  have hparts : partsOk (rightB [b0, b1, b2] n) (b0 == 0 && (b1 == 0 && b2 == 0)) (n == 0) (ps.length == 0) (decide (ps.length ≤ 8)) tx.toList.isEmpty (decide (tx.size ≤ 40)) (decide (mr.size ≤ 2)) mr.toList.isEmpty ((bytesOf mr).all (mkB false)) ((bytesOf mr).all (mkB true)) (ps.all nmB) ((bytesOf tx).all (fun c => decide (32 ≤ c))) = true := by
    have h4 := hM (mkB false)
    have h5 := hM (mkB true)
    unfold partsOk
    simp only [Bool.and_eq_true, Bool.or_eq_true, Bool.not_eq_true'] at *
    refine ⟨?_, ?_, ?_, ?_⟩
    · rcases h : ((b0 == 0 && (b1 == 0 && b2 == 0)) && (n == 0)) with _ | _
      · exact .inl rfl
      · right
        apply hAR
        simpa using h
    · rcases h : (ps.length == 0) with _ | _
      · exact .inl rfl
      · exact .inr (hZ h)
    · rcases h : tx.toList.isEmpty with _ | _
      · exact .inl rfl
      · exact .inr (hE h)
    · rcases h : mr.toList.isEmpty with _ | _
      · exact .inl rfl
      · exact .inr ⟨(h4 h).1, (h4 h).2, (h5 h).2⟩
  unfold rightR bareB
  rw [hM1, hM0, hN, hT]
  revert hparts
  clear hAR hZ hE hM hM1 hM0 hN hT
  generalize rightB [b0, b1, b2] n = RB
  generalize (b0 == 0 && (b1 == 0 && b2 == 0)) = AR
  generalize (n == 0) = N
  generalize (ps.length == 0) = Z
  generalize decide (ps.length ≤ 8) = P8
  generalize ps.all nmB = PS
  generalize tx.toList.isEmpty = E
  generalize decide (tx.size ≤ 40) = T40
  generalize (bytesOf tx).all (fun c => decide (32 ≤ c)) = TA
  generalize mr.toList.isEmpty = MZ
  generalize decide (mr.size ≤ 2) = M2
  intro hp
  rcases (show st = 0 ∨ st = 1 ∨ st = 2 ∨ st = 3 ∨ st = 4 ∨ st = 5 ∨ st = 6 ∨ st = 7 ∨ (st < 0 ∨ 7 < st) by omega) with hk | hk | hk | hk | hk | hk | hk | hk | hk
  · subst hk
    by_cases hw : wi = 0
    · subst hw
      exact core_0_0 _ _ _ _ _ _ _ _ _ _ _ _ _ hp
    · have hwb : (wi == 0) = false := beq_eq_false_iff_ne.mpr hw
      have h1 : rr 0 wi (AR && N) (MZ && Z) Z E RB (!MZ && (M2 && (bytesOf mr).all (mkB false))) (M2 && (bytesOf mr).all (mkB true)) (PS && P8) (TA && T40) = false := by unfold rr; rw [if_pos (.inl ⟨by decide, hw⟩)]
      rw [h1]
      unfold okAll ok4 ok3 ok2
      rw [hwb, show ((0 : Int) == 7) = false from rfl]
      simp
  · subst hk
    by_cases hw : wi = 0
    · subst hw
      exact core_1_0 _ _ _ _ _ _ _ _ _ _ _ _ _ hp
    · have hwb : (wi == 0) = false := beq_eq_false_iff_ne.mpr hw
      have h1 : rr 1 wi (AR && N) (MZ && Z) Z E RB (!MZ && (M2 && (bytesOf mr).all (mkB false))) (M2 && (bytesOf mr).all (mkB true)) (PS && P8) (TA && T40) = false := by unfold rr; rw [if_pos (.inl ⟨by decide, hw⟩)]
      rw [h1]
      unfold okAll ok4 ok3 ok2
      rw [hwb, show ((1 : Int) == 7) = false from rfl]
      simp
  · subst hk
    by_cases hw : wi = 0
    · subst hw
      exact core_2_0 _ _ _ _ _ _ _ _ _ _ _ _ _ hp
    · have hwb : (wi == 0) = false := beq_eq_false_iff_ne.mpr hw
      have h1 : rr 2 wi (AR && N) (MZ && Z) Z E RB (!MZ && (M2 && (bytesOf mr).all (mkB false))) (M2 && (bytesOf mr).all (mkB true)) (PS && P8) (TA && T40) = false := by unfold rr; rw [if_pos (.inl ⟨by decide, hw⟩)]
      rw [h1]
      unfold okAll ok4 ok3 ok2
      rw [hwb, show ((2 : Int) == 7) = false from rfl]
      simp
  · subst hk
    by_cases hw : wi = 0
    · subst hw
      exact core_3_0 _ _ _ _ _ _ _ _ _ _ _ _ _ hp
    · have hwb : (wi == 0) = false := beq_eq_false_iff_ne.mpr hw
      have h1 : rr 3 wi (AR && N) (MZ && Z) Z E RB (!MZ && (M2 && (bytesOf mr).all (mkB false))) (M2 && (bytesOf mr).all (mkB true)) (PS && P8) (TA && T40) = false := by unfold rr; rw [if_pos (.inl ⟨by decide, hw⟩)]
      rw [h1]
      unfold okAll ok4 ok3 ok2
      rw [hwb, show ((3 : Int) == 7) = false from rfl]
      simp
  · subst hk
    by_cases hw : wi = 0
    · subst hw
      exact core_4_0 _ _ _ _ _ _ _ _ _ _ _ _ _ hp
    · have hwb : (wi == 0) = false := beq_eq_false_iff_ne.mpr hw
      have h1 : rr 4 wi (AR && N) (MZ && Z) Z E RB (!MZ && (M2 && (bytesOf mr).all (mkB false))) (M2 && (bytesOf mr).all (mkB true)) (PS && P8) (TA && T40) = false := by unfold rr; rw [if_pos (.inl ⟨by decide, hw⟩)]
      rw [h1]
      unfold okAll ok4 ok3 ok2
      rw [hwb, show ((4 : Int) == 7) = false from rfl]
      simp
  · subst hk
    by_cases hw : wi = 0
    · subst hw
      exact core_5_0 _ _ _ _ _ _ _ _ _ _ _ _ _ hp
    · have hwb : (wi == 0) = false := beq_eq_false_iff_ne.mpr hw
      have h1 : rr 5 wi (AR && N) (MZ && Z) Z E RB (!MZ && (M2 && (bytesOf mr).all (mkB false))) (M2 && (bytesOf mr).all (mkB true)) (PS && P8) (TA && T40) = false := by unfold rr; rw [if_pos (.inl ⟨by decide, hw⟩)]
      rw [h1]
      unfold okAll ok4 ok3 ok2
      rw [hwb, show ((5 : Int) == 7) = false from rfl]
      simp
  · subst hk
    by_cases hw : wi = 0
    · subst hw
      exact core_6_0 _ _ _ _ _ _ _ _ _ _ _ _ _ hp
    · have hwb : (wi == 0) = false := beq_eq_false_iff_ne.mpr hw
      have h1 : rr 6 wi (AR && N) (MZ && Z) Z E RB (!MZ && (M2 && (bytesOf mr).all (mkB false))) (M2 && (bytesOf mr).all (mkB true)) (PS && P8) (TA && T40) = false := by unfold rr; rw [if_pos (.inl ⟨by decide, hw⟩)]
      rw [h1]
      unfold okAll ok4 ok3 ok2
      rw [hwb, show ((6 : Int) == 7) = false from rfl]
      simp
  · subst hk
    by_cases hw : wi = 5
    · subst hw
      exact core_7_5 _ _ _ _ _ _ _ _ _ _ _ _ _ hp
    · by_cases hw2 : wi = 6
      · subst hw2
        exact core_7_6 _ _ _ _ _ _ _ _ _ _ _ _ _ hp
      · have h5 : (wi == 5) = false := beq_eq_false_iff_ne.mpr hw
        have h6 : (wi == 6) = false := beq_eq_false_iff_ne.mpr hw2
        have h1 : rr 7 wi (AR && N) (MZ && Z) Z E RB (!MZ && (M2 && (bytesOf mr).all (mkB false))) (M2 && (bytesOf mr).all (mkB true)) (PS && P8) (TA && T40) = false := by
          unfold rr
          rw [decide_eq_false (show ¬ (wi = 5 ∨ wi = 6) by omega)]
          simp
        rw [h1]
        unfold okAll ok4 ok3 ok2
        rw [h5, h6, show ((7 : Int) != 7) = false from rfl]
        simp
  · have h1 : ∀ B U Z E RB M1 M0 NB T, rr st wi B U Z E RB M1 M0 NB T = false := by
      intro B U Z E RB M1 M0 NB T
      unfold rr
      split
      · rfl
      · rw [if_neg (by omega), if_neg (by omega), if_neg (by omega), if_neg (by omega), if_neg (by omega), if_neg (by omega)]
    rw [h1]
    have h2 : (decide (0 ≤ st) && decide (st ≤ 7)) = false := by
      rcases hk with h | h
      · rw [decide_eq_false (show ¬ 0 ≤ st by omega)]; rfl
      · rw [decide_eq_false (show ¬ st ≤ 7 by omega), Bool.and_false]
    unfold okAll ok4 ok3 ok2 ok1
    rw [h2]
    simp
end Go.Proofs.YtkdkajcokoggiaaDoor.VtRightP
/- The law VtRight returns true: a walk through its text; the library's two tables hold what their texts lay. -/
namespace Go.Proofs.YtkdkajcokoggiaaDoor.VtRight
open Go.RowKit Go.Proofs.YtkdkajcokoggiaaDoor.Kit Go.Proofs.YtkdkajcokoggiaaDoor.Plain Go.Proofs.YtkdkajcokoggiaaDoor.Mine Go.Proofs.YtkdkajcokoggiaaDoor.UtfPure Go.Proofs.YtkdkajcokoggiaaDoor.UtfFull Go.Proofs.YtkdkajcokoggiaaDoor.UtfFeed Go.Proofs.YtkdkajcokoggiaaDoor.UtfRight Go.Proofs.YtkdkajcokoggiaaDoor.VtRightA Go.Proofs.YtkdkajcokoggiaaDoor.VtRightB Go.Proofs.YtkdkajcokoggiaaDoor.VtRightP Go.Proofs.YtkdkajcokoggiaaDoor.VtFit Go.Proofs.YtkdkajcokoggiaaDoorW.PrintWords Go.Proofs.YtkdkajcokoggiaaDoorW.PrintLast Go.Proofs.YtkdkajcokoggiaaDoorW.PrintMore
open Go.Lib (Utf8Tabs)
set_option linter.unusedVariables false
set_option linter.unusedSimpArgs false
set_option maxHeartbeats 1600000 in
set_option maxRecDepth 100000 in
theorem big_c (st b0 b1 b2 n : Int) (mr : ByteArray) (A : Option Addr) (pl cp : Nat) (ps : List Int) (tx : ByteArray) (wi : Int) (w : World) (hT : Utf8Tabs 0 1 w) (h : 10 < mr.size ∨ 100 < tx.size ∨ 20 < pl) : Calls Tryd.prog 9 #[.agg #[.int .i64 st, .int .u8 b0, .int .u8 b1, .int .u8 b2, .int .i64 n, .string mr, .slice A pl cp, .string tx, .int .i64 wi]] w fun e w' => e = .returned (.bool true) ∧ Below w.heap.size w w' := by
  have HT := Aside0.mk hT
  have h' : 10 < (mr.size : Int) ∨ ((mr.size : Int) ≤ 10 ∧ 100 < (tx.size : Int)) ∨ ((mr.size : Int) ≤ 10 ∧ (tx.size : Int) ≤ 100 ∧ 20 < (pl : Int)) := by omega
  have HH := Aside0.mk h'
  clear hT h h'
  have hup := Tryd.underlying28
  obtain ⟨pc, hpc⟩ : ∃ pc : Array Value, pc = #[.int .i64 st, .int .u8 b0, .int .u8 b1, .int .u8 b2, .int .i64 n, .string mr, .slice A pl cp, .string tx, .int .i64 wi] := ⟨_, rfl⟩
  rw [show (.agg #[.int .i64 st, .int .u8 b0, .int .u8 b1, .int .u8 b2, .int .i64 n, .string mr, .slice A pl cp, .string tx, .int .i64 wi] : Value) = .agg pc from by rw [hpc]]
  have HPC := Aside0.mk hpc
  clear hpc
  go_enter Tryd.func9, Tryd.ntmps9
  go_upto_region 0 with fail
  go_cut [1, 2] from 9000 to 9000 (fun v1 v2 W => ∃ g : Nat, v1 = .pointer (some ⟨g, 0, none⟩) ∧ v2 = .bool false ∧ Aside0 (W.heap[g]? = some (.cells #[.int .i64 st, .int .u8 b0, .int .u8 b1, .int .u8 b2, .int .i64 n, .string mr, .slice A pl cp, .string tx, .int .i64 wi] 28 (0, 0))) ∧ Aside0 (Below w.heap.size w W))
  case first =>
    go_wp2_with fail
    go_meet
    case rel => exact ⟨_, rfl, rfl, ⟨by have h := blk_new w (.cells pc 28); rw [HPC.out] at h ⊢; exact h⟩, ⟨below_alloc (Below.refl _ _) _⟩⟩
  case rest =>
    obtain ⟨g, rfl, rfl, HG0, HB0⟩ := hcut
    clear HPC
    go_wp2_with fail
    refine (fit_c wc (tabs_below HT.out HB0.out)).mono ?_
    rintro e w1 ⟨rfl, hb⟩
    have HG := Aside0.mk (blk_below HG0.out hb)
    have HB := Aside0.mk (below_kept HB0.out hb)
    clear hb HG0 HB0
    have k0 : w1.cell? ⟨g, 0, none⟩ = some (.int .i64 st) := (blk_cell HG.out 0).trans rfl
    have k1 : w1.cell? ⟨g, 1, none⟩ = some (.int .u8 b0) := (blk_cell HG.out 1).trans rfl
    have k2 : w1.cell? ⟨g, 2, none⟩ = some (.int .u8 b1) := (blk_cell HG.out 2).trans rfl
    have k3 : w1.cell? ⟨g, 3, none⟩ = some (.int .u8 b2) := (blk_cell HG.out 3).trans rfl
    have k4 : w1.cell? ⟨g, 4, none⟩ = some (.int .i64 n) := (blk_cell HG.out 4).trans rfl
    have k5 : w1.cell? ⟨g, 5, none⟩ = some (.string mr) := (blk_cell HG.out 5).trans rfl
    have k6 : w1.cell? ⟨g, 6, none⟩ = some (.slice A pl cp) := (blk_cell HG.out 6).trans rfl
    have k7 : w1.cell? ⟨g, 7, none⟩ = some (.string tx) := (blk_cell HG.out 7).trans rfl
    have k8 : w1.cell? ⟨g, 8, none⟩ = some (.int .i64 wi) := (blk_cell HG.out 8).trans rfl
    rcases HH.out with h1 | ⟨h1, h2⟩ | ⟨h1, h2, h3⟩
    · go_wp2
      go_ret
      exact ⟨rfl, HB.out⟩
    · go_wp2
      go_ret
      exact ⟨rfl, HB.out⟩
    · go_wp2
      go_ret
      exact ⟨rfl, HB.out⟩
set_option maxHeartbeats 12800000 in
set_option maxRecDepth 100000 in
theorem small_c (st b0 b1 b2 n : Int) (mr : ByteArray) (A : Option Addr) (pl cp : Nat) (ps : List Int) (tx : ByteArray) (wi : Int) (w : World) (hT : Utf8Tabs 0 1 w) (hb : Bytes [b0, b1, b2]) (hpl : ps.length = pl) (hps : Kd.C (Kd.int .i64) w A pl ps) (hz1 : mr.size ≤ 10) (hz2 : tx.size ≤ 100) (hz3 : pl ≤ 20) : Calls Tryd.prog 9 #[.agg #[.int .i64 st, .int .u8 b0, .int .u8 b1, .int .u8 b2, .int .i64 n, .string mr, .slice A pl cp, .string tx, .int .i64 wi]] w fun e w' => e = .returned (.bool true) ∧ Below w.heap.size w w' := by
  have HT := Aside0.mk hT
  have HPS := Aside0.mk hps
  have HPL := Aside0.mk hpl
  have hz1I : (mr.size : Int) ≤ 10 := by omega
  have hz2I : (tx.size : Int) ≤ 100 := by omega
  have hz3I : (pl : Int) ≤ 20 := by omega
  have HUR := Aside0.mk (fun W (h : Below w.heap.size w W) => UtfRight.right_c b0 b1 b2 n W (tabs_below hT h) hb)
  have HRR := Aside0.mk (show ∀ W, Below w.heap.size w W → Calls Tryd.prog 17 #[.agg #[.int .i64 st, .int .u8 b0, .int .u8 b1, .int .u8 b2, .int .i64 n, .string mr, .slice A pl cp, .string tx, .int .i64 wi]] W (fun e w' => e = .returned (.bool (rightR st b0 b1 b2 n mr tx ps wi)) ∧ Below W.heap.size W w') from by subst hpl; exact fun W h => VtRightB.right_c st b0 b1 b2 n mr A cp ps tx wi W (tabs_below hT h) hb (Kd.C_below hps h) (by omega) (by omega) (by omega))
  have hfin := right_is st b0 b1 b2 n mr tx ps wi
  rw [hpl] at hfin
  obtain ⟨r, hr⟩ : ∃ r, r = rightR st b0 b1 b2 n mr tx ps wi := ⟨_, rfl⟩
  rw [← hr] at HRR hfin
  have harr := fun W => ArrEq.eql_arr b0 b1 b2 0 0 0 W
  obtain ⟨AR, hAR⟩ : ∃ x, (b0 == 0 && (b1 == 0 && b2 == 0)) = x := ⟨_, rfl⟩
  rw [hAR] at harr hfin
  obtain ⟨RB, hRB⟩ : ∃ x, rightB [b0, b1, b2] n = x := ⟨_, rfl⟩
  rw [hRB] at HUR hfin
  obtain ⟨E, hE⟩ : ∃ x, tx.toList.isEmpty = x := ⟨_, rfl⟩
  obtain ⟨MZ, hMZ⟩ : ∃ x, mr.toList.isEmpty = x := ⟨_, rfl⟩
  obtain ⟨Z, hZ⟩ : ∃ x, (pl == 0) = x := ⟨_, rfl⟩
  obtain ⟨P8, hP8⟩ : ∃ x, decide (pl ≤ 8) = x := ⟨_, rfl⟩
  obtain ⟨T40, hT40⟩ : ∃ x, decide (tx.size ≤ 40) = x := ⟨_, rfl⟩
  obtain ⟨M2, hM2⟩ : ∃ x, decide (mr.size ≤ 2) = x := ⟨_, rfl⟩
  obtain ⟨CS, hCS⟩ : ∃ x, x = ((st == 3) || (st == 4)) := ⟨_, rfl⟩
  obtain ⟨TX, hTX⟩ : ∃ x, x = (((st == 5) || (st == 6)) || (st == 7)) := ⟨_, rfl⟩
  rw [hE, hMZ, hZ, hP8, hT40, hM2, ← hCS, ← hTX] at hfin
  have HCS := Aside0.mk hCS
  have HTX := Aside0.mk hTX
  have HP8 := Aside0.mk hP8
  have HT40 := Aside0.mk hT40
  have HM2 := Aside0.mk hM2
  have hZI : ((pl : Int) == 0) = Z := by rw [← hZ]; cases pl <;> rfl
  unfold okAll at hfin
  obtain ⟨OK1, hOK1⟩ : ∃ x, x = ok1 st (n == 0) RB AR := ⟨_, rfl⟩
  rw [← hOK1] at hfin
  obtain ⟨OK2, hOK2⟩ : ∃ x, x = ok2 OK1 st wi := ⟨_, rfl⟩
  rw [← hOK2] at hfin
  obtain ⟨OK3, hOK3⟩ : ∃ x, x = ok3 OK2 Z CS P8 E TX T40 := ⟨_, rfl⟩
  rw [← hOK3] at hfin
  obtain ⟨OK4, hOK4⟩ : ∃ x, x = ok4 OK3 M2 MZ CS st := ⟨_, rfl⟩
  rw [← hOK4] at hfin
  have HOK1 := Aside0.mk hOK1
  have HOK2 := Aside0.mk hOK2
  have HOK3 := Aside0.mk hOK3
  have HOK4 := Aside0.mk hOK4
  have HFIN := Aside0.mk hfin
  clear hT hb hpl hps hz1 hz2 hz3 hfin hr hAR hRB hP8 hT40 hM2 hCS hTX hOK1 hOK2 hOK3 hOK4
  have hup := Tryd.underlying28
  obtain ⟨pc, hpc⟩ : ∃ pc : Array Value, pc = #[.int .i64 st, .int .u8 b0, .int .u8 b1, .int .u8 b2, .int .i64 n, .string mr, .slice A pl cp, .string tx, .int .i64 wi] := ⟨_, rfl⟩
  rw [show (.agg #[.int .i64 st, .int .u8 b0, .int .u8 b1, .int .u8 b2, .int .i64 n, .string mr, .slice A pl cp, .string tx, .int .i64 wi] : Value) = .agg pc from by rw [hpc]]
  have HPC := Aside0.mk hpc
  clear hpc
  go_enter Tryd.func9, Tryd.ntmps9
  go_upto_region 0 with fail
  go_cut [1, 2] from 9000 to 9000 (fun v1 v2 W => ∃ g : Nat, v1 = .pointer (some ⟨g, 0, none⟩) ∧ v2 = .bool false ∧ Aside0 (W.heap[g]? = some (.cells #[.int .i64 st, .int .u8 b0, .int .u8 b1, .int .u8 b2, .int .i64 n, .string mr, .slice A pl cp, .string tx, .int .i64 wi] 28 (0, 0))) ∧ Aside0 (Below w.heap.size w W))
  case first =>
    go_wp2_with fail
    go_meet
    case rel => exact ⟨_, rfl, rfl, ⟨by have h := blk_new w (.cells pc 28); rw [HPC.out] at h ⊢; exact h⟩, ⟨below_alloc (Below.refl _ _) _⟩⟩
  case rest =>
    obtain ⟨g, rfl, rfl, HG0, HB0⟩ := hcut
    clear HPC
    go_wp2_with fail
    refine (fit_c wc (tabs_below HT.out HB0.out)).mono ?_
    rintro e w1 ⟨rfl, hb⟩
    have HG := Aside0.mk (blk_below HG0.out hb)
    have HB := Aside0.mk (below_kept HB0.out hb)
    clear hb HG0 HB0
    have k0 : w1.cell? ⟨g, 0, none⟩ = some (.int .i64 st) := (blk_cell HG.out 0).trans rfl
    have k1 : w1.cell? ⟨g, 1, none⟩ = some (.int .u8 b0) := (blk_cell HG.out 1).trans rfl
    have k2 : w1.cell? ⟨g, 2, none⟩ = some (.int .u8 b1) := (blk_cell HG.out 2).trans rfl
    have k3 : w1.cell? ⟨g, 3, none⟩ = some (.int .u8 b2) := (blk_cell HG.out 3).trans rfl
    have k4 : w1.cell? ⟨g, 4, none⟩ = some (.int .i64 n) := (blk_cell HG.out 4).trans rfl
    have k5 : w1.cell? ⟨g, 5, none⟩ = some (.string mr) := (blk_cell HG.out 5).trans rfl
    have k6 : w1.cell? ⟨g, 6, none⟩ = some (.slice A pl cp) := (blk_cell HG.out 6).trans rfl
    have k7 : w1.cell? ⟨g, 7, none⟩ = some (.string tx) := (blk_cell HG.out 7).trans rfl
    have k8 : w1.cell? ⟨g, 8, none⟩ = some (.int .i64 wi) := (blk_cell HG.out 8).trans rfl
    go_upto_region 5 with fail
    go_cut [3] from 9000 to 9000 (fun v3 W => v3 = .bool CS ∧ W = w1)
    case first =>
      by_cases h3 : st = 3
      · subst h3
        go_wp2_with fail
        go_meet
        case rel => exact ⟨by rw [HCS.out]; first | rfl | (simp; done), rfl⟩
      · by_cases h4 : st = 4
        · subst h4
          go_wp2_with fail
          go_meet
          case rel => exact ⟨by rw [HCS.out]; first | rfl | (simp; done), rfl⟩
        · have HN3 := Aside0.mk h3
          have HN4 := Aside0.mk h4
          have e_st3 : (st == 3) = false := beq_eq_false_iff_ne.mpr h3
          have n_st3 : (st != 3) = true := bne_iff_ne.mpr h3
          have e_st4 : (st == 4) = false := beq_eq_false_iff_ne.mpr h4
          have n_st4 : (st != 4) = true := bne_iff_ne.mpr h4
          clear h3 h4
          go_wp2_with fail
          go_meet
          case rel => exact ⟨by rw [HCS.out, beq_eq_false_iff_ne.mpr HN3.out, beq_eq_false_iff_ne.mpr HN4.out]; rfl, rfl⟩
    case rest =>
      obtain ⟨rfl, hW⟩ := hcut
      subst hW
      go_upto_region 6 with fail
      go_cut [4] from 9000 to 9000 (fun v4 W => v4 = .bool TX ∧ W = wc)
      case first =>
        by_cases h5 : st = 5
        · subst h5
          go_wp2_with fail
          go_meet
          case rel => exact ⟨by rw [HTX.out]; first | rfl | (simp; done), rfl⟩
        · by_cases h6 : st = 6
          · subst h6
            go_wp2_with fail
            go_meet
            case rel => exact ⟨by rw [HTX.out]; first | rfl | (simp; done), rfl⟩
          · by_cases h7 : st = 7
            · subst h7
              go_wp2_with fail
              go_meet
              case rel => exact ⟨by rw [HTX.out]; first | rfl | (simp; done), rfl⟩
            · have HN5 := Aside0.mk h5
              have e_st5 : (st == 5) = false := beq_eq_false_iff_ne.mpr h5
              have n_st5 : (st != 5) = true := bne_iff_ne.mpr h5
              have HN6 := Aside0.mk h6
              have e_st6 : (st == 6) = false := beq_eq_false_iff_ne.mpr h6
              have n_st6 : (st != 6) = true := bne_iff_ne.mpr h6
              have HN7 := Aside0.mk h7
              have e_st7 : (st == 7) = false := beq_eq_false_iff_ne.mpr h7
              have n_st7 : (st != 7) = true := bne_iff_ne.mpr h7
              clear h5 h6 h7
              go_wp2_with fail
              go_meet
              case rel => exact ⟨by rw [HTX.out, beq_eq_false_iff_ne.mpr HN5.out, beq_eq_false_iff_ne.mpr HN6.out, beq_eq_false_iff_ne.mpr HN7.out]; rfl, rfl⟩
      case rest =>
        obtain ⟨rfl, hW⟩ := hcut
        subst hW
        go_upto_region 7 with fail
        go_cut [5] from 9000 to 9000 (fun v5 W => v5 = .bool OK1 ∧ Aside0 (Below wc.heap.size wc W))
        case first =>
          by_cases hlo : st < 0
          · have HQ29 := Aside0.mk (show decide (0 ≤ st) = false from decide_eq_false (by omega))
            have od := HQ29.out
            go_wp2_with fail
            go_meet
            case rel => exact ⟨by rw [HOK1.out]; first | rfl | (simp [ok1, HQ29.out]; done), ⟨Below.refl _ _⟩⟩
          · by_cases hhi : 7 < st
            · have HQ30 := Aside0.mk (show decide (st ≤ 7) = false from decide_eq_false (by omega))
              have HQ31 := Aside0.mk (show decide (0 ≤ st) = true from decide_eq_true (by omega))
              have od := HQ30.out
              have os : 0 ≤ st := by omega
              go_wp2_with fail
              go_meet
              case rel => exact ⟨by rw [HOK1.out]; first | rfl | (simp [ok1, HQ30.out, HQ31.out]; done), ⟨Below.refl _ _⟩⟩
            · by_cases hs0 : st = 0
              · subst hs0
                go_wp2_with fail
                refine (HUR.out wc HB.out).mono ?_
                rintro e w5 ⟨rfl, hb⟩
                have HBX := Aside0.mk hb
                have j1 := cell_b2 hb k1
                have j2 := cell_b2 hb k2
                have j3 := cell_b2 hb k3
                have j4 := cell_b2 hb k4
                clear hb k0 k1 k2 k3 k4 k5 k6 k7 k8
                cases RB
                · by_cases hn : n = 0
                  · subst hn
                    cases AR
                    · go_wp2_with fail
                      go_meet
                      case rel => exact ⟨by rw [HOK1.out]; first | rfl | (simp [ok1]; done), HBX⟩
                    · go_wp2_with fail
                      go_meet
                      case rel => exact ⟨by rw [HOK1.out]; first | rfl | (simp [ok1]; done), HBX⟩
                  · have HQ32 := Aside0.mk (show (n == 0) = false from beq_eq_false_iff_ne.mpr hn)
                    have HQ33 := Aside0.mk (show (n != 0) = true from bne_iff_ne.mpr hn)
                    have oe_HQ32 := HQ32.out
                    have on_HQ33 := HQ33.out
                    clear hn
                    go_wp2_with fail
                    go_meet
                    case rel => exact ⟨by rw [HOK1.out]; first | rfl | (simp [ok1, HQ32.out, HQ33.out]; done), HBX⟩
                · go_wp2_with fail
                  go_meet
                  case rel => exact ⟨by rw [HOK1.out]; first | rfl | (simp [ok1]; done), HBX⟩
              · have HQ34 := Aside0.mk (show decide (st ≤ 7) = true from decide_eq_true (by omega))
                have HQ35 := Aside0.mk (show decide (0 ≤ st) = true from decide_eq_true (by omega))
                have os : 0 ≤ st := by omega
                have os7 : st ≤ 7 := by omega
                have HQ36 := Aside0.mk (show (st == 0) = false from beq_eq_false_iff_ne.mpr hs0)
                have HQ37 := Aside0.mk (show (st != 0) = true from bne_iff_ne.mpr hs0)
                have oe_HQ36 := HQ36.out
                have on_HQ37 := HQ37.out
                clear hs0
                by_cases hn : n = 0
                · subst hn
                  cases AR
                  · go_wp2_with fail
                    go_meet
                    case rel => exact ⟨by rw [HOK1.out]; first | rfl | (simp [ok1, HQ34.out, HQ35.out, HQ36.out, HQ37.out]; done), ⟨Below.refl _ _⟩⟩
                  · go_wp2_with fail
                    go_meet
                    case rel => exact ⟨by rw [HOK1.out]; first | rfl | (simp [ok1, HQ34.out, HQ35.out, HQ36.out, HQ37.out]; done), ⟨Below.refl _ _⟩⟩
                · have HQ38 := Aside0.mk (show (n == 0) = false from beq_eq_false_iff_ne.mpr hn)
                  have HQ39 := Aside0.mk (show (n != 0) = true from bne_iff_ne.mpr hn)
                  have oe_HQ38 := HQ38.out
                  have on_HQ39 := HQ39.out
                  clear hn
                  go_wp2_with fail
                  go_meet
                  case rel => exact ⟨by rw [HOK1.out]; first | rfl | (simp [ok1, HQ34.out, HQ35.out, HQ36.out, HQ37.out, HQ38.out, HQ39.out]; done), ⟨Below.refl _ _⟩⟩
        case rest =>
          obtain ⟨rfl, HBW⟩ := hcut
          have HG2 := Aside0.mk (blk_below HG.out HBW.out)
          have HB2 := Aside0.mk (below_kept HB.out HBW.out)
          clear HG HB HBW k0 k1 k2 k3 k4 k5 k6 k7 k8
          have HG := Aside0.mk HG2.out
          have HB := Aside0.mk HB2.out
          clear HG2 HB2
          have k0 : wc.cell? ⟨g, 0, none⟩ = some (.int .i64 st) := (blk_cell HG.out 0).trans rfl
          have k1 : wc.cell? ⟨g, 1, none⟩ = some (.int .u8 b0) := (blk_cell HG.out 1).trans rfl
          have k2 : wc.cell? ⟨g, 2, none⟩ = some (.int .u8 b1) := (blk_cell HG.out 2).trans rfl
          have k3 : wc.cell? ⟨g, 3, none⟩ = some (.int .u8 b2) := (blk_cell HG.out 3).trans rfl
          have k4 : wc.cell? ⟨g, 4, none⟩ = some (.int .i64 n) := (blk_cell HG.out 4).trans rfl
          have k5 : wc.cell? ⟨g, 5, none⟩ = some (.string mr) := (blk_cell HG.out 5).trans rfl
          have k6 : wc.cell? ⟨g, 6, none⟩ = some (.slice A pl cp) := (blk_cell HG.out 6).trans rfl
          have k7 : wc.cell? ⟨g, 7, none⟩ = some (.string tx) := (blk_cell HG.out 7).trans rfl
          have k8 : wc.cell? ⟨g, 8, none⟩ = some (.int .i64 wi) := (blk_cell HG.out 8).trans rfl
          go_upto_region 8 with fail
          go_cut [5] from 9000 to 9000 (fun v5 W => v5 = .bool OK2 ∧ W = wc)
          case first =>
            cases OK1
            · go_wp2_with fail
              go_meet
              case rel => exact ⟨by rw [HOK2.out]; first | rfl | (simp [ok2]; done), rfl⟩
            · by_cases h7 : st = 7
              · subst h7
                by_cases w5 : wi = 5
                · subst w5
                  go_wp2_with fail
                  go_meet
                  case rel => exact ⟨by rw [HOK2.out]; first | rfl | (simp [ok2]; done), rfl⟩
                · by_cases w6 : wi = 6
                  · subst w6
                    go_wp2_with fail
                    go_meet
                    case rel => exact ⟨by rw [HOK2.out]; first | rfl | (simp [ok2]; done), rfl⟩
                  · have HQ21 := Aside0.mk (show (wi == 5) = false from beq_eq_false_iff_ne.mpr w5)
                    have HQ22 := Aside0.mk (show (wi != 5) = true from bne_iff_ne.mpr w5)
                    have oe_HQ21 := HQ21.out
                    have on_HQ22 := HQ22.out
                    clear w5
                    have HQ23 := Aside0.mk (show (wi == 6) = false from beq_eq_false_iff_ne.mpr w6)
                    have HQ24 := Aside0.mk (show (wi != 6) = true from bne_iff_ne.mpr w6)
                    have oe_HQ23 := HQ23.out
                    have on_HQ24 := HQ24.out
                    clear w6
                    go_wp2_with fail
                    go_meet
                    case rel => exact ⟨by rw [HOK2.out]; first | rfl | (simp [ok2, HQ21.out, HQ22.out, HQ23.out, HQ24.out]; done), rfl⟩
              · have HQ25 := Aside0.mk (show (st == 7) = false from beq_eq_false_iff_ne.mpr h7)
                have HQ26 := Aside0.mk (show (st != 7) = true from bne_iff_ne.mpr h7)
                have oe_HQ25 := HQ25.out
                have on_HQ26 := HQ26.out
                clear h7
                by_cases w0 : wi = 0
                · subst w0
                  go_wp2_with fail
                  go_meet
                  case rel => exact ⟨by rw [HOK2.out]; first | rfl | (simp [ok2, HQ25.out, HQ26.out]; done), rfl⟩
                · have HQ27 := Aside0.mk (show (wi == 0) = false from beq_eq_false_iff_ne.mpr w0)
                  have HQ28 := Aside0.mk (show (wi != 0) = true from bne_iff_ne.mpr w0)
                  have oe_HQ27 := HQ27.out
                  have on_HQ28 := HQ28.out
                  clear w0
                  go_wp2_with fail
                  go_meet
                  case rel => exact ⟨by rw [HOK2.out]; first | rfl | (simp [ok2, HQ25.out, HQ26.out, HQ27.out, HQ28.out]; done), rfl⟩
          case rest =>
            obtain ⟨rfl, hW⟩ := hcut
            subst hW
            go_upto_region 9 with fail
            go_cut [5] from 9000 to 9000 (fun v5 W => v5 = .bool OK3 ∧ W = wc)
            case first =>
              cases OK2
              · go_wp2_with fail
                go_meet
                case rel => exact ⟨by rw [HOK3.out]; first | rfl | (simp [ok3]; done), rfl⟩
              · cases Z
                · cases CS
                  · go_wp2_with fail
                    go_meet
                    case rel => exact ⟨by rw [HOK3.out]; first | rfl | (simp [ok3]; done), rfl⟩
                  · cases P8
                    · have l1 : decide ((pl : Int) ≤ 8) = false := by have h := of_decide_eq_false HP8.out; exact decide_eq_false (by omega)
                      have l2 : (8 : Int) < (pl : Int) := by have h := of_decide_eq_false HP8.out; omega
                      go_wp2_with fail
                      go_meet
                      case rel => exact ⟨by rw [HOK3.out]; first | rfl | (simp [ok3]; done), rfl⟩
                    · have m2 : (pl : Int) ≤ 8 := by have h := of_decide_eq_true HP8.out; omega
                      cases E
                      · cases TX
                        · go_wp2_with fail
                          go_meet
                          case rel => exact ⟨by rw [HOK3.out]; first | rfl | (simp [ok3]; done), rfl⟩
                        · cases T40
                          · have l1 : decide ((tx.size : Int) ≤ 40) = false := by have h := of_decide_eq_false HT40.out; exact decide_eq_false (by omega)
                            have l2 : (40 : Int) < (tx.size : Int) := by have h := of_decide_eq_false HT40.out; omega
                            go_wp2_with fail
                            go_meet
                            case rel => exact ⟨by rw [HOK3.out]; first | rfl | (simp [ok3]; done), rfl⟩
                          · have l2 : (tx.size : Int) ≤ 40 := by have h := of_decide_eq_true HT40.out; omega
                            go_wp2_with fail
                            go_meet
                            case rel => exact ⟨by rw [HOK3.out]; first | rfl | (simp [ok3]; done), rfl⟩
                      · cases T40
                        · have l1 : decide ((tx.size : Int) ≤ 40) = false := by have h := of_decide_eq_false HT40.out; exact decide_eq_false (by omega)
                          have l2 : (40 : Int) < (tx.size : Int) := by have h := of_decide_eq_false HT40.out; omega
                          go_wp2_with fail
                          go_meet
                          case rel => exact ⟨by rw [HOK3.out]; first | rfl | (simp [ok3]; done), rfl⟩
                        · have l2 : (tx.size : Int) ≤ 40 := by have h := of_decide_eq_true HT40.out; omega
                          go_wp2_with fail
                          go_meet
                          case rel => exact ⟨by rw [HOK3.out]; first | rfl | (simp [ok3]; done), rfl⟩
                · cases P8
                  · have l1 : decide ((pl : Int) ≤ 8) = false := by have h := of_decide_eq_false HP8.out; exact decide_eq_false (by omega)
                    have l2 : (8 : Int) < (pl : Int) := by have h := of_decide_eq_false HP8.out; omega
                    go_wp2_with fail
                    go_meet
                    case rel => exact ⟨by rw [HOK3.out]; first | rfl | (simp [ok3]; done), rfl⟩
                  · have m2 : (pl : Int) ≤ 8 := by have h := of_decide_eq_true HP8.out; omega
                    cases E
                    · cases TX
                      · go_wp2_with fail
                        go_meet
                        case rel => exact ⟨by rw [HOK3.out]; first | rfl | (simp [ok3]; done), rfl⟩
                      · cases T40
                        · have l1 : decide ((tx.size : Int) ≤ 40) = false := by have h := of_decide_eq_false HT40.out; exact decide_eq_false (by omega)
                          have l2 : (40 : Int) < (tx.size : Int) := by have h := of_decide_eq_false HT40.out; omega
                          go_wp2_with fail
                          go_meet
                          case rel => exact ⟨by rw [HOK3.out]; first | rfl | (simp [ok3]; done), rfl⟩
                        · have l2 : (tx.size : Int) ≤ 40 := by have h := of_decide_eq_true HT40.out; omega
                          go_wp2_with fail
                          go_meet
                          case rel => exact ⟨by rw [HOK3.out]; first | rfl | (simp [ok3]; done), rfl⟩
                    · cases T40
                      · have l1 : decide ((tx.size : Int) ≤ 40) = false := by have h := of_decide_eq_false HT40.out; exact decide_eq_false (by omega)
                        have l2 : (40 : Int) < (tx.size : Int) := by have h := of_decide_eq_false HT40.out; omega
                        go_wp2_with fail
                        go_meet
                        case rel => exact ⟨by rw [HOK3.out]; first | rfl | (simp [ok3]; done), rfl⟩
                      · have l2 : (tx.size : Int) ≤ 40 := by have h := of_decide_eq_true HT40.out; omega
                        go_wp2_with fail
                        go_meet
                        case rel => exact ⟨by rw [HOK3.out]; first | rfl | (simp [ok3]; done), rfl⟩
            case rest =>
              obtain ⟨rfl, hW⟩ := hcut
              subst hW
              go_upto_region 10 with fail
              go_cut [5] from 9000 to 9000 (fun v5 W => v5 = .bool OK4 ∧ W = wc)
              case first =>
                cases OK3
                · go_wp2_with fail
                  go_meet
                  case rel => exact ⟨by rw [HOK4.out]; first | rfl | (simp [ok4]; done), rfl⟩
                · cases M2
                  · have l1 : decide ((mr.size : Int) ≤ 2) = false := by have h := of_decide_eq_false HM2.out; exact decide_eq_false (by omega)
                    have l2 : (2 : Int) < (mr.size : Int) := by have h := of_decide_eq_false HM2.out; omega
                    go_wp2_with fail
                    go_meet
                    case rel => exact ⟨by rw [HOK4.out]; first | rfl | (simp [ok4]; done), rfl⟩
                  · have l2 : (mr.size : Int) ≤ 2 := by have h := of_decide_eq_true HM2.out; omega
                    cases MZ
                    · cases CS
                      · by_cases h2 : st = 2
                        · subst h2
                          go_wp2_with fail
                          go_meet
                          case rel => exact ⟨by rw [HOK4.out]; first | rfl | (simp [ok4]; done), rfl⟩
                        · have HQ15 := Aside0.mk (show (st == 2) = false from beq_eq_false_iff_ne.mpr h2)
                          have HQ16 := Aside0.mk (show (st != 2) = true from bne_iff_ne.mpr h2)
                          have oe_HQ15 := HQ15.out
                          have on_HQ16 := HQ16.out
                          clear h2
                          go_wp2_with fail
                          go_meet
                          case rel => exact ⟨by rw [HOK4.out]; first | rfl | (simp [ok4, HQ15.out, HQ16.out]; done), rfl⟩
                      · by_cases h2 : st = 2
                        · subst h2
                          go_wp2_with fail
                          go_meet
                          case rel => exact ⟨by rw [HOK4.out]; first | rfl | (simp [ok4]; done), rfl⟩
                        · have HQ17 := Aside0.mk (show (st == 2) = false from beq_eq_false_iff_ne.mpr h2)
                          have HQ18 := Aside0.mk (show (st != 2) = true from bne_iff_ne.mpr h2)
                          have oe_HQ17 := HQ17.out
                          have on_HQ18 := HQ18.out
                          clear h2
                          go_wp2_with fail
                          go_meet
                          case rel => exact ⟨by rw [HOK4.out]; first | rfl | (simp [ok4, HQ17.out, HQ18.out]; done), rfl⟩
                    · by_cases h2 : st = 2
                      · subst h2
                        go_wp2_with fail
                        go_meet
                        case rel => exact ⟨by rw [HOK4.out]; first | rfl | (simp [ok4]; done), rfl⟩
                      · have HQ19 := Aside0.mk (show (st == 2) = false from beq_eq_false_iff_ne.mpr h2)
                        have HQ20 := Aside0.mk (show (st != 2) = true from bne_iff_ne.mpr h2)
                        have oe_HQ19 := HQ19.out
                        have on_HQ20 := HQ20.out
                        clear h2
                        go_wp2_with fail
                        go_meet
                        case rel => exact ⟨by rw [HOK4.out]; first | rfl | (simp [ok4, HQ19.out, HQ20.out]; done), rfl⟩
              case rest =>
                obtain ⟨rfl, hW⟩ := hcut
                subst hW
                clear harr k0 k1 k2 k3 k4 k6 k7 k8 hE hMZ hZ hZI
                have kb := fun W => print_bytes (P := Tryd.prog) 9 42 5 Tryd.underlying9 Tryd.underlying42 Tryd.underlying5 mr W
                obtain ⟨wbM, hwb⟩ : ∃ wb, wb = Lib.bytesWorld wc 5 mr := ⟨_, rfl⟩
                have hrd : ReadsInt wbM .u8 (some ⟨wc.heap.size, 0, none⟩) mr.size (bytesOf mr) := by rw [hwb]; exact bytes_reads wc 5 mr (by omega)
                have hbb : Below wc.heap.size wc wbM := by rw [hwb]; exact bytes_below (Below.refl _ _) (Nat.le_refl _) 5 mr
                have HGM := Aside0.mk (blk_below HG.out hbb)
                have HBM := Aside0.mk (below_kept HB.out hbb)
                have HWB := Aside0.mk hwb
                have HRDM0 := Aside0.mk hrd
                obtain ⟨wzM, hwz⟩ : ∃ z, z = wc.heap.size := ⟨_, rfl⟩
                have HRDM := Aside0.mk (show ReadsInt wbM .u8 (some ⟨wzM, 0, none⟩) mr.size (bytesOf mr) from by rw [hwz]; exact hrd)
                have HWZ := Aside0.mk hwz
                clear hwb hrd hbb HRDM0 hwz
                go_wp2_with fail
                rw [← HWB.out, ← HWZ.out]
                clear kb k5 HG HB
                go_loopg [5, 172] mr.size (fun gk v5 v172 W => ∃ (i : Nat) (cur : Bool), v172 = .int .i64 (i : Int) ∧ v5 = .bool cur ∧ Aside0 (gk + i = mr.size) ∧ W = wbM ∧ Aside0 (cur = (OK4 && ((bytesOf mr).take i).all (mkB CS))))
                case atStart => exact ⟨0, OK4, rfl, rfl, ⟨by omega⟩, rfl, ⟨by rw [List.take_zero]; simp⟩⟩
                case round =>
                  obtain ⟨iM, curM, rfl, rfl, HGKM, hW, HCURM⟩ := hrel
                  subst hW
                  have hgi := HGKM.out
                  by_cases hi : iM < mr.size
                  · obtain ⟨g0, rfl⟩ : ∃ g0, gk = g0 + 1 := ⟨gk - 1, by omega⟩
                    obtain ⟨ad, ead, hcc⟩ := HRDM.out.2.2 (by omega)
                    injection ead with ead
                    have hc0 := hcc iM hi
                    rw [← ead, show (⟨wzM, 0, none⟩ : Addr).add iM = ⟨wzM, iM, none⟩ from add_plain _ _] at hc0
                    obtain ⟨x, hx⟩ : ∃ x, x = (bytesOf mr).getD iM 0 := ⟨_, rfl⟩
                    rw [← hx] at hc0
                    have hli : iM < (bytesOf mr).length := by rw [bytesOf_length]; exact hi
                    have hxx : x = (bytesOf mr)[iM] := by rw [hx, List.getD_eq_getElem?_getD, List.getElem?_eq_getElem hli]; rfl
                    clear hx hcc ead
                    have hil : (iM : Int) < mr.size := by omega
                    obtain ⟨nx, hnx⟩ : ∃ nx, nx = (curM && (mkB CS) x) := ⟨_, rfl⟩
                    have HNX := Aside0.mk hnx
                    have HST := Aside0.mk (show nx = (OK4 && ((bytesOf mr).take (iM + 1)).all (mkB CS)) from by
                      rw [hnx, HCURM.out, List.take_succ_eq_append_getElem hli, List.all_append, Bool.and_assoc]
                      congr 1
                      congr 1
                      rw [hxx]
                      simp)
                    clear hnx hgi hi hxx hli
                    go_upto_block 1 with fail
                    go_cut [5] from 9000 to 9000 (fun v5 W => v5 = .bool nx ∧ W = wr)
                    case first =>
                      cases curM
                      · go_wp2_with fail
                        go_meet
                        case rel => exact ⟨by rw [HNX.out]; first | rfl | (simp [mkB, nmB]; done), rfl⟩
                      · by_cases hq6 : 32 ≤ x
                        · have HQ7 := Aside0.mk (show decide (32 ≤ x) = true from decide_eq_true hq6)
                          by_cases hq8 : x ≤ 47
                          · have HQ9 := Aside0.mk (show decide (x ≤ 47) = true from decide_eq_true hq8)
                            go_wp2_with fail
                            go_meet
                            case rel => exact ⟨by rw [HNX.out]; first | rfl | (simp [mkB, nmB, HQ7.out, HQ9.out]; done), rfl⟩
                          · have HQ10 := Aside0.mk (show decide (x ≤ 47) = false from decide_eq_false hq8)
                            have odHQ10 := HQ10.out
                            have olHQ10 : 47 < x := by omega
                            clear hq8
                            cases CS
                            · go_wp2_with fail
                              go_meet
                              case rel => exact ⟨by rw [HNX.out]; first | rfl | (simp [mkB, nmB, HQ7.out, HQ10.out]; done), rfl⟩
                            · by_cases hq10 : 60 ≤ x
                              · have HQ11 := Aside0.mk (show decide (60 ≤ x) = true from decide_eq_true hq10)
                                by_cases hq12 : x ≤ 63
                                · have HQ13 := Aside0.mk (show decide (x ≤ 63) = true from decide_eq_true hq12)
                                  go_wp2_with fail
                                  go_meet
                                  case rel => exact ⟨by rw [HNX.out]; first | rfl | (simp [mkB, nmB, HQ7.out, HQ10.out, HQ11.out, HQ13.out]; done), rfl⟩
                                · have HQ14 := Aside0.mk (show decide (x ≤ 63) = false from decide_eq_false hq12)
                                  have odHQ14 := HQ14.out
                                  have olHQ14 : 63 < x := by omega
                                  clear hq12
                                  go_wp2_with fail
                                  go_meet
                                  case rel => exact ⟨by rw [HNX.out]; first | rfl | (simp [mkB, nmB, HQ7.out, HQ10.out, HQ11.out, HQ14.out]; done), rfl⟩
                              · have HQ12 := Aside0.mk (show decide (60 ≤ x) = false from decide_eq_false hq10)
                                have odHQ12 := HQ12.out
                                have olHQ12 : x < 60 := by omega
                                clear hq10
                                go_wp2_with fail
                                go_meet
                                case rel => exact ⟨by rw [HNX.out]; first | rfl | (simp [mkB, nmB, HQ7.out, HQ10.out, HQ12.out]; done), rfl⟩
                        · have HQ8 := Aside0.mk (show decide (32 ≤ x) = false from decide_eq_false hq6)
                          have odHQ8 := HQ8.out
                          have olHQ8 : x < 32 := by omega
                          clear hq6
                          go_wp2_with fail
                          go_meet
                          case rel => exact ⟨by rw [HNX.out]; first | rfl | (simp [mkB, nmB, HQ8.out]; done), rfl⟩
                    case rest =>
                      obtain ⟨rfl, hW⟩ := hcut
                      subst hW
                      go_wp2_with fail
                      go_roundg g0
                      case measure => omega
                      case rel => exact ⟨iM + 1, nx, by first | go_num | (congr 1; unfold wrap64; omega), rfl, ⟨by have := HGKM.out; omega⟩, rfl, HST⟩
                  · have hilM : (mr.size : Int) ≤ iM := by omega
                    have hcur := HCURM.out
                    rw [List.take_of_length_le (by rw [bytesOf_length]; omega)] at hcur
                    have HOKM := Aside0.mk hcur
                    clear hgi hi hcur HCURM HGKM
                    have k6 : wr.cell? ⟨g, 6, none⟩ = some (.slice A pl cp) := (blk_cell HGM.out 6).trans rfl
                    have HCP := Aside0.mk (Kd.C_below HPS.out HBM.out)
                    go_wp2_with fail
                    try rw [show decide (iM < mr.size) = false from decide_eq_false (by omega)]
                    clear k6
                    go_loopg [5, 200] pl (fun gk v5 v200 W => ∃ (i : Nat) (cur : Bool), v200 = .int .i64 (i : Int) ∧ v5 = .bool cur ∧ Aside0 (gk + i = pl) ∧ W = wr ∧ Aside0 (cur = (curM && (ps.take i).all nmB)))
                    case atStart => exact ⟨0, curM, rfl, rfl, ⟨by omega⟩, rfl, ⟨by rw [List.take_zero]; simp⟩⟩
                    case round =>
                      obtain ⟨iP, curP, rfl, rfl, HGKP, hW, HCURP⟩ := hrel
                      subst hW
                      have hgi := HGKP.out
                      by_cases hi : iP < pl
                      · obtain ⟨g0, rfl⟩ : ∃ g0, gk = g0 + 1 := ⟨gk - 1, by omega⟩
                        obtain ⟨ad, ead, hc0⟩ := Kd.at_int HCP.out (iP : Int) (by omega) (by omega)
                        obtain ⟨x, hx⟩ : ∃ x, x = rd ps (iP : Int) := ⟨_, rfl⟩
                        rw [Int.toNat_natCast, ← hx] at hc0
                        have hli : iP < ps.length := by rw [HPL.out]; exact hi
                        have hxx : x = ps[iP] := by rw [hx]; unfold rd; rw [Int.toNat_natCast, List.getD_eq_getElem?_getD, List.getElem?_eq_getElem hli]; rfl
                        subst ead
                        clear hx
                        have hil : (iP : Int) < pl := by omega
                        obtain ⟨nx, hnx⟩ : ∃ nx, nx = (curP && nmB x) := ⟨_, rfl⟩
                        have HNX := Aside0.mk hnx
                        have HST := Aside0.mk (show nx = (curM && (ps.take (iP + 1)).all nmB) from by
                          rw [hnx, HCURP.out, List.take_succ_eq_append_getElem hli, List.all_append, Bool.and_assoc]
                          congr 1
                          congr 1
                          rw [hxx]
                          simp)
                        clear hnx hgi hi hxx hli
                        go_upto_block 3 with fail
                        go_cut [5] from 9000 to 9000 (fun v5 W => v5 = .bool nx ∧ W = wr)
                        case first =>
                          cases curP
                          · go_wp2_with fail
                            go_meet
                            case rel => exact ⟨by rw [HNX.out]; first | rfl | (simp [mkB, nmB]; done), rfl⟩
                          · by_cases hq2 : 0 ≤ x
                            · have HQ3 := Aside0.mk (show decide (0 ≤ x) = true from decide_eq_true hq2)
                              by_cases hq4 : x ≤ 9999
                              · have HQ5 := Aside0.mk (show decide (x ≤ 9999) = true from decide_eq_true hq4)
                                go_wp2_with fail
                                go_meet
                                case rel => exact ⟨by rw [HNX.out]; first | rfl | (simp [mkB, nmB, HQ3.out, HQ5.out]; done), rfl⟩
                              · have HQ6 := Aside0.mk (show decide (x ≤ 9999) = false from decide_eq_false hq4)
                                have odHQ6 := HQ6.out
                                have olHQ6 : 9999 < x := by omega
                                clear hq4
                                go_wp2_with fail
                                go_meet
                                case rel => exact ⟨by rw [HNX.out]; first | rfl | (simp [mkB, nmB, HQ3.out, HQ6.out]; done), rfl⟩
                            · have HQ4 := Aside0.mk (show decide (0 ≤ x) = false from decide_eq_false hq2)
                              have odHQ4 := HQ4.out
                              have olHQ4 : x < 0 := by omega
                              clear hq2
                              go_wp2_with fail
                              go_meet
                              case rel => exact ⟨by rw [HNX.out]; first | rfl | (simp [mkB, nmB, HQ4.out]; done), rfl⟩
                        case rest =>
                          obtain ⟨rfl, hW⟩ := hcut
                          subst hW
                          go_wp2_with fail
                          go_roundg g0
                          case measure => omega
                          case rel => exact ⟨iP + 1, nx, by first | go_num | (congr 1; unfold wrap64; omega), rfl, ⟨by have := HGKP.out; omega⟩, rfl, HST⟩
                      · have hilP : (pl : Int) ≤ iP := by omega
                        have hcur := HCURP.out
                        rw [List.take_of_length_le (by rw [HPL.out]; omega)] at hcur
                        have HOKP := Aside0.mk hcur
                        clear hgi hi hcur HCURP HGKP
                        have k7 : wr.cell? ⟨g, 7, none⟩ = some (.string tx) := (blk_cell HGM.out 7).trans rfl
                        have kb := fun W => print_bytes (P := Tryd.prog) 9 42 5 Tryd.underlying9 Tryd.underlying42 Tryd.underlying5 tx W
                        obtain ⟨wbT, hwb⟩ : ∃ wb, wb = Lib.bytesWorld wr 5 tx := ⟨_, rfl⟩
                        have hrd : ReadsInt wbT .u8 (some ⟨wr.heap.size, 0, none⟩) tx.size (bytesOf tx) := by rw [hwb]; exact bytes_reads wr 5 tx (by omega)
                        have hbb : Below wr.heap.size wr wbT := by rw [hwb]; exact bytes_below (Below.refl _ _) (Nat.le_refl _) 5 tx
                        have HGT := Aside0.mk (blk_below HGM.out hbb)
                        have HBT := Aside0.mk (below_kept HBM.out hbb)
                        have HWB := Aside0.mk hwb
                        have HRDT0 := Aside0.mk hrd
                        obtain ⟨wzT, hwz⟩ : ∃ z, z = wr.heap.size := ⟨_, rfl⟩
                        have HRDT := Aside0.mk (show ReadsInt wbT .u8 (some ⟨wzT, 0, none⟩) tx.size (bytesOf tx) from by rw [hwz]; exact hrd)
                        have HWZ := Aside0.mk hwz
                        clear hwb hrd hbb HRDT0 hwz
                        go_wp2_with fail
                        rw [← HWB.out, ← HWZ.out]
                        try rw [show decide (iP < pl) = false from decide_eq_false (by omega)]
                        clear kb k7
                        go_loopg [5, 218] tx.size (fun gk v5 v218 W => ∃ (i : Nat) (cur : Bool), v218 = .int .i64 (i : Int) ∧ v5 = .bool cur ∧ Aside0 (gk + i = tx.size) ∧ W = wbT ∧ Aside0 (cur = (curP && ((bytesOf tx).take i).all (fun c => decide (32 ≤ c)))))
                        case atStart => exact ⟨0, curP, rfl, rfl, ⟨by omega⟩, rfl, ⟨by rw [List.take_zero]; simp⟩⟩
                        case round =>
                          obtain ⟨iT, curT, rfl, rfl, HGKT, hW, HCURT⟩ := hrel
                          subst hW
                          have hgi := HGKT.out
                          by_cases hi : iT < tx.size
                          · obtain ⟨g0, rfl⟩ : ∃ g0, gk = g0 + 1 := ⟨gk - 1, by omega⟩
                            obtain ⟨ad, ead, hcc⟩ := HRDT.out.2.2 (by omega)
                            injection ead with ead
                            have hc0 := hcc iT hi
                            rw [← ead, show (⟨wzT, 0, none⟩ : Addr).add iT = ⟨wzT, iT, none⟩ from add_plain _ _] at hc0
                            obtain ⟨x, hx⟩ : ∃ x, x = (bytesOf tx).getD iT 0 := ⟨_, rfl⟩
                            rw [← hx] at hc0
                            have hli : iT < (bytesOf tx).length := by rw [bytesOf_length]; exact hi
                            have hxx : x = (bytesOf tx)[iT] := by rw [hx, List.getD_eq_getElem?_getD, List.getElem?_eq_getElem hli]; rfl
                            clear hx hcc ead
                            have hil : (iT : Int) < tx.size := by omega
                            obtain ⟨nx, hnx⟩ : ∃ nx, nx = (curT && (fun c => decide (32 ≤ c)) x) := ⟨_, rfl⟩
                            have HNX := Aside0.mk hnx
                            have HST := Aside0.mk (show nx = (curP && ((bytesOf tx).take (iT + 1)).all (fun c => decide (32 ≤ c))) from by
                              rw [hnx, HCURT.out, List.take_succ_eq_append_getElem hli, List.all_append, Bool.and_assoc]
                              congr 1
                              congr 1
                              rw [hxx]
                              simp)
                            clear hnx hgi hi hxx hli
                            go_upto_block 5 with fail
                            go_cut [5] from 9000 to 9000 (fun v5 W => v5 = .bool nx ∧ W = wr)
                            case first =>
                              cases curT
                              · go_wp2_with fail
                                go_meet
                                case rel => exact ⟨by rw [HNX.out]; first | rfl | (simp [mkB, nmB]; done), rfl⟩
                              · by_cases hq0 : 32 ≤ x
                                · have HQ1 := Aside0.mk (show decide (32 ≤ x) = true from decide_eq_true hq0)
                                  go_wp2_with fail
                                  go_meet
                                  case rel => exact ⟨by rw [HNX.out]; first | rfl | (simp [mkB, nmB, HQ1.out]; done), rfl⟩
                                · have HQ2 := Aside0.mk (show decide (32 ≤ x) = false from decide_eq_false hq0)
                                  have odHQ2 := HQ2.out
                                  have olHQ2 : x < 32 := by omega
                                  clear hq0
                                  go_wp2_with fail
                                  go_meet
                                  case rel => exact ⟨by rw [HNX.out]; first | rfl | (simp [mkB, nmB, HQ2.out]; done), rfl⟩
                            case rest =>
                              obtain ⟨rfl, hW⟩ := hcut
                              subst hW
                              go_wp2_with fail
                              go_roundg g0
                              case measure => omega
                              case rel => exact ⟨iT + 1, nx, by first | go_num | (congr 1; unfold wrap64; omega), rfl, ⟨by have := HGKT.out; omega⟩, rfl, HST⟩
                          · have hilT : (tx.size : Int) ≤ iT := by omega
                            have hcur := HCURT.out
                            rw [List.take_of_length_le (by rw [bytesOf_length]; omega)] at hcur
                            have HOKT := Aside0.mk hcur
                            clear hgi hi hcur HCURT HGKT
                            have k0 : wr.cell? ⟨g, 0, none⟩ = some (.int .i64 st) := (blk_cell HGT.out 0).trans rfl
                            have k1 : wr.cell? ⟨g, 1, none⟩ = some (.int .u8 b0) := (blk_cell HGT.out 1).trans rfl
                            have k2 : wr.cell? ⟨g, 2, none⟩ = some (.int .u8 b1) := (blk_cell HGT.out 2).trans rfl
                            have k3 : wr.cell? ⟨g, 3, none⟩ = some (.int .u8 b2) := (blk_cell HGT.out 3).trans rfl
                            have k4 : wr.cell? ⟨g, 4, none⟩ = some (.int .i64 n) := (blk_cell HGT.out 4).trans rfl
                            have k5 : wr.cell? ⟨g, 5, none⟩ = some (.string mr) := (blk_cell HGT.out 5).trans rfl
                            have k6 : wr.cell? ⟨g, 6, none⟩ = some (.slice A pl cp) := (blk_cell HGT.out 6).trans rfl
                            have k7 : wr.cell? ⟨g, 7, none⟩ = some (.string tx) := (blk_cell HGT.out 7).trans rfl
                            have k8 : wr.cell? ⟨g, 8, none⟩ = some (.int .i64 wi) := (blk_cell HGT.out 8).trans rfl
                            have hfin := HFIN.out
                            rw [← HOKM.out, ← HOKP.out, ← HOKT.out] at hfin
                            have HEND := Aside0.mk hfin
                            clear hfin
                            go_wp2_with fail
                            refine (HRR.out wr HBT.out).mono ?_
                            rintro e w9 ⟨rfl, hb⟩
                            have HB9 := Aside0.mk (below_kept HBT.out hb)
                            clear hb k0 k1 k2 k3 k4 k5 k6 k7 k8
                            rw [HEND.out]
                            cases curT
                            · go_wp2
                              go_ret
                              exact ⟨rfl, HB9.out⟩
                            · go_wp2
                              go_ret
                              exact ⟨rfl, HB9.out⟩
theorem right_row {w : World} (st b0 b1 b2 n : Int) (mr : ByteArray) (A : Option Addr) (pl cp : Nat) (ps : List Int) (tx : ByteArray) (wi : Int) (hT : Utf8Tabs 0 1 w) (hb : Bytes [b0, b1, b2]) (hpl : ps.length = pl) (hps : Kd.C (Kd.int .i64) w A pl ps) : Calls Tryd.prog 9 #[.agg #[.int .i64 st, .int .u8 b0, .int .u8 b1, .int .u8 b2, .int .i64 n, .string mr, .slice A pl cp, .string tx, .int .i64 wi]] w fun e w' => e = .returned (.bool true) ∧ Below w.heap.size w w' := by
  by_cases h : 10 < mr.size ∨ 100 < tx.size ∨ 20 < pl
  · exact big_c st b0 b1 b2 n mr A pl cp ps tx wi w hT h
  · exact small_c st b0 b1 b2 n mr A pl cp ps tx wi w hT hb hpl hps (by omega) (by omega) (by omega)
theorem right_row2 {w : World} (st b0 b1 b2 n : Int) (mr : ByteArray) (A : Option Addr) (cp : Nat) (ps : List Int) (tx : ByteArray) (wi : Int) (hps : Kd.C (Kd.int .i64) w A ps.length ps) (hb : Bytes [b0, b1, b2]) (hT : Utf8Tabs 0 1 w) : Calls Tryd.prog 9 #[.agg #[.int .i64 st, .int .u8 b0, .int .u8 b1, .int .u8 b2, .int .i64 n, .string mr, .slice A ps.length cp, .string tx, .int .i64 wi]] w fun e w' => e = .returned (.bool true) ∧ Below w.heap.size w w' :=
  right_row st b0 b1 b2 n mr A ps.length cp ps tx wi hT hb rfl hps
end Go.Proofs.YtkdkajcokoggiaaDoor.VtRight
