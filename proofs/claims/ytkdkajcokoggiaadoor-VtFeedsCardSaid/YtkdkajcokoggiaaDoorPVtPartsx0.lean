-- PRINTED BY print.sh 35421559b90ae4d0a3588c463048766b98c2df88dd9212a6774a882060cdf62d: not written by this session
import Derived.Test.YtkdkajcokoggiaaDoorProg
import Derived.Below
import Derived.Deep.Draws
import Derived.Deep.AppendLies
import Derived.Maps.AppendAt
import Derived.OwnWalk
import Derived.Laws.BytesArg
import Derived.Laws.MakeOwn
import Derived.Laws.OwnMore
import Derived.Deep.OwnRows
import Derived.Tactics
import Derived.Lib.ConvBytes
import Derived.Laws.Slices
import Derived.WalkKit
import Derived.KernelRfl
import Derived.RowKit3
import Derived.Deep.LoopGhost
import Derived.Deep.QuietTactic
import Derived.BigQuiet
import Derived.WideLaws
import Derived.Deep.DeepCutAuto
import Derived.Deep.CutBlock
import Derived.Deep.RegionHeld3
import Derived.Laws.Rows
import Derived.Lib.AppendStr
import Derived.ArgAppend
import Derived.Laws.IdiomCopy
import Derived.OrdersHeld
import Derived.Laws.BitsLemmas
import Derived.RowKit
import Derived.Test.YtkdkajcokoggiaaDoorWWords
import Derived.Test.YtkdkajcokoggiaaDoorWLast
import Derived.Test.YtkdkajcokoggiaaDoorWTab
import Derived.Test.YtkdkajcokoggiaaDoorWFour
import Derived.Test.YtkdkajcokoggiaaDoorWQPut
import Derived.Test.YtkdkajcokoggiaaDoorWApart
import Derived.Test.YtkdkajcokoggiaaDoorWArr
import Derived.Test.YtkdkajcokoggiaaDoorWZeros
import Derived.Test.YtkdkajcokoggiaaDoorWFoot
import Derived.Test.YtkdkajcokoggiaaDoorWKept
import Derived.Test.YtkdkajcokoggiaaDoorWShare
import Derived.Test.YtkdkajcokoggiaaDoorWN
import Derived.Test.YtkdkajcokoggiaaDoorWFootNe
import Derived.Test.YtkdkajcokoggiaaDoorWAt
import Derived.Test.YtkdkajcokoggiaaDoorWEqStruct
import Derived.Test.YtkdkajcokoggiaaDoorWRepsOne
import Derived.Test.YtkdkajcokoggiaaDoorWInv
import Derived.Test.YtkdkajcokoggiaaDoorWInvWords
import Derived.Test.YtkdkajcokoggiaaDoorWGuard
import Derived.Test.YtkdkajcokoggiaaDoorWNEv
import Derived.Test.YtkdkajcokoggiaaDoorWMore
namespace Go.Proofs.YtkdkajcokoggiaaDoor.PVtParts
open Go.RowKit Go.Proofs.YtkdkajcokoggiaaDoorW.PrintWords Go.Proofs.YtkdkajcokoggiaaDoorW.PrintLast Go.Proofs.YtkdkajcokoggiaaDoorW.PrintMore
attribute [local go_sem] max2_int min2_int max_two min_two max_three min_three max_four min_four   -- for this text's walks alone
set_option linter.unusedVariables false
set_option linter.unusedSimpArgs false



def errW : Option Int → Value
  | none => .nilIface
  | some c => .iface 0 (.int .i64 c)
theorem errW_none : errW none = .nilIface := rfl
theorem errW_some (c : Int) : errW (some c) = .iface 0 (.int .i64 c) := rfl

-- the values' own types
def rd_L4 (xs : List (List Int)) (i : Int) : (List Int) := xs.getD i.toNat ([] : List Int)
theorem at_L4 {w : World} {A : Option Addr} {n : Nat} {xs : List (List Int)} (h : Kd.C (Kd.slice 3 (Kd.int .i64)) w A n xs) (i : Int) (h0 : 0 ≤ i) (h1 : i < n) : ∃ ad A0 c0, A = some ad ∧ w.cell? (ad.add i.toNat) = some (.slice A0 (rd_L4 xs i).length c0) ∧ (rd_L4 xs i).length ≤ c0 ∧ (Kd.int .i64).C w A0 (rd_L4 xs i).length (rd_L4 xs i) := by
  obtain ⟨ad, c, e, _, hK, hc0⟩ := Kd.C_get h ([] : List Int) i h0 h1
  have hc : ∀ j u, c[j]? = some u → w.cell? (ad.add (i.toNat * 1 + j)) = some u := hc0
  obtain ⟨A0, c0, rfl, l0, g0⟩ := hK
  exact ⟨ad, A0, c0, e, by have hq := hc 0 _ rfl; rwa [Nat.mul_one, Nat.add_zero] at hq, l0, g0⟩

/-! #### struct type 37 -/
structure S37 where
  f0 : Int
  f1 : Int
  f2 : Int
  f3 : ByteArray
  f4 : (List Int)
  f5 : ByteArray
def z37 : S37 := ⟨(0 : Int), (0 : Int), (0 : Int), (⟨#[]⟩ : ByteArray), ([] : List Int), (⟨#[]⟩ : ByteArray)⟩
def k37 : Kd S37 := Kd.iso (Kd.pair (Kd.int .i64) (Kd.pair (Kd.int .i32) (Kd.pair (Kd.int .u8) (Kd.pair Kd.string (Kd.pair (Kd.slice 3 (Kd.int .i64)) Kd.string))))) (fun x : S37 => (x.f0, x.f1, x.f2, x.f3, x.f4, x.f5))
theorem k37_open {w : World} {x : S37} {cs : List Value} (h : k37.K w x cs) : ∃ A4 c4, cs = [.int .i64 x.f0, .int .i32 x.f1, .int .u8 x.f2, .string x.f3, .slice A4 x.f4.length c4, .string x.f5] ∧ x.f4.length ≤ c4 ∧ (Kd.int .i64).C w A4 x.f4.length x.f4 := by
  obtain ⟨_, _, rfl, rfl, ⟨_, _, rfl, rfl, ⟨_, _, rfl, rfl, ⟨_, _, rfl, rfl, ⟨_, _, rfl, ⟨A4, c4, rfl, l4, g4⟩, rfl⟩⟩⟩⟩⟩ := h
  exact ⟨A4, c4, rfl, l4, g4⟩
theorem k37_openM {w : World} {base : Nat} {ok : Nat → Prop} {x : S37} {cs : List Value} (h : k37.M w base ok x cs) : ∃ v4, cs = [.int .i64 x.f0, .int .i32 x.f1, .int .u8 x.f2, .string x.f3, v4, .string x.f5] ∧ (Kd.int .i64).R 3 w base ok v4 x.f4 := by
  obtain ⟨_, _, rfl, rfl, ⟨_, _, rfl, rfl, ⟨_, _, rfl, rfl, ⟨_, _, rfl, rfl, ⟨_, _, rfl, ⟨v4, rfl, g4⟩, rfl⟩⟩⟩⟩⟩ := h
  exact ⟨v4, rfl, g4⟩
theorem k37_mk (w : World) (x : S37) {A4 : Option Addr} {c4 : Nat} (l4 : x.f4.length ≤ c4) (g4 : (Kd.int .i64).C w A4 x.f4.length x.f4) : k37.K w x [.int .i64 x.f0, .int .i32 x.f1, .int .u8 x.f2, .string x.f3, .slice A4 x.f4.length c4, .string x.f5] := ⟨[.int .i64 x.f0], [.int .i32 x.f1, .int .u8 x.f2, .string x.f3, .slice A4 x.f4.length c4, .string x.f5], rfl, rfl, ⟨[.int .i32 x.f1], [.int .u8 x.f2, .string x.f3, .slice A4 x.f4.length c4, .string x.f5], rfl, rfl, ⟨[.int .u8 x.f2], [.string x.f3, .slice A4 x.f4.length c4, .string x.f5], rfl, rfl, ⟨[.string x.f3], [.slice A4 x.f4.length c4, .string x.f5], rfl, rfl, ⟨[.slice A4 x.f4.length c4], [.string x.f5], rfl, ⟨A4, c4, rfl, l4, g4⟩, rfl⟩⟩⟩⟩⟩
theorem k37_mkM (w : World) (base : Nat) (ok : Nat → Prop) (x : S37) {v4 : Value} (g4 : (Kd.int .i64).R 3 w base ok v4 x.f4) : k37.M w base ok x [.int .i64 x.f0, .int .i32 x.f1, .int .u8 x.f2, .string x.f3, v4, .string x.f5] := ⟨[.int .i64 x.f0], [.int .i32 x.f1, .int .u8 x.f2, .string x.f3, v4, .string x.f5], rfl, rfl, ⟨[.int .i32 x.f1], [.int .u8 x.f2, .string x.f3, v4, .string x.f5], rfl, rfl, ⟨[.int .u8 x.f2], [.string x.f3, v4, .string x.f5], rfl, rfl, ⟨[.string x.f3], [v4, .string x.f5], rfl, rfl, ⟨[v4], [.string x.f5], rfl, ⟨v4, rfl, g4⟩, rfl⟩⟩⟩⟩⟩
def rd_T37 (xs : List S37) (i : Int) : S37 := xs.getD i.toNat z37
theorem at_T37 {w : World} {A : Option Addr} {n : Nat} {xs : List S37} (h : Kd.C k37 w A n xs) (i : Int) (h0 : 0 ≤ i) (h1 : i < n) : ∃ ad A4 c4, A = some ad ∧ w.cell? (ad.add (i.toNat * 6)) = some (.int .i64 (rd_T37 xs i).f0) ∧ w.cell? ⟨(ad.add (i.toNat * 6)).block, (ad.add (i.toNat * 6)).off + 1, none⟩ = some (.int .i32 (rd_T37 xs i).f1) ∧ w.cell? ⟨(ad.add (i.toNat * 6)).block, (ad.add (i.toNat * 6)).off + 2, none⟩ = some (.int .u8 (rd_T37 xs i).f2) ∧ w.cell? ⟨(ad.add (i.toNat * 6)).block, (ad.add (i.toNat * 6)).off + 3, none⟩ = some (.string (rd_T37 xs i).f3) ∧ w.cell? ⟨(ad.add (i.toNat * 6)).block, (ad.add (i.toNat * 6)).off + 4, none⟩ = some (.slice A4 (rd_T37 xs i).f4.length c4) ∧ w.cell? ⟨(ad.add (i.toNat * 6)).block, (ad.add (i.toNat * 6)).off + 5, none⟩ = some (.string (rd_T37 xs i).f5) ∧ (rd_T37 xs i).f4.length ≤ c4 ∧ (Kd.int .i64).C w A4 (rd_T37 xs i).f4.length (rd_T37 xs i).f4 := by
  obtain ⟨ad, c, e, _, hK, hc0⟩ := Kd.C_get h z37 i h0 h1
  have hc : ∀ j u, c[j]? = some u → w.cell? (ad.add (i.toNat * 6 + j)) = some u := hc0
  obtain ⟨A4, c4, rfl, l4, g4⟩ := k37_open hK
  exact ⟨ad, A4, c4, e, hc 0 _ rfl, by rw [← add_field _ _ 1 (by omega)]; exact hc 1 _ rfl, by rw [← add_field _ _ 2 (by omega)]; exact hc 2 _ rfl, by rw [← add_field _ _ 3 (by omega)]; exact hc 3 _ rfl, by rw [← add_field _ _ 4 (by omega)]; exact hc 4 _ rfl, by rw [← add_field _ _ 5 (by omega)]; exact hc 5 _ rfl, l4, g4⟩

end Go.Proofs.YtkdkajcokoggiaaDoor.PVtParts
