/- The parser of chapter 6 as plain functions: what a byte tells, what is left. -/
import Derived.Test.YtkdkajcokoggiaaDoorUtfPure2
import Derived.Test.YtkdkajcokoggiaaDoorPVtPartsx0
namespace Go.Proofs.YtkdkajcokoggiaaDoor.VtPure
open Go.Proofs.YtkdkajcokoggiaaDoor.UtfPure Go.Proofs.YtkdkajcokoggiaaDoorW.PrintWords
open Go.Proofs.YtkdkajcokoggiaaDoor.PVtParts (S37)
set_option linter.unusedVariables false
/-- A parser. -/
structure PR where
  st : Int
  u : List Int
  mr : ByteArray
  ps : List Int
  tx : ByteArray
  wi : Int
def nob : ByteArray := ⟨#[]⟩
def atP (s : Int) : PR := ⟨s, [], nob, [], nob, 0⟩
/-- A byte as a string. -/
def b1 (c : Int) : ByteArray := ⟨#[UInt8.ofNat c.toNat]⟩
def printA (r : Int) : S37 := ⟨0, r, 0, nob, [], nob⟩
def execA (c : Int) : S37 := ⟨1, 0, c, nob, [], nob⟩
def escA (c : Int) (mk : ByteArray) : S37 := ⟨2, 0, c, mk, [], nob⟩
def csiA (c : Int) (mk : ByteArray) (ps : List Int) : S37 := ⟨3, 0, c, mk, ps, nob⟩
def strA (k : Int) (tx : ByteArray) : S37 := ⟨k, 0, 0, nob, [], tx⟩
def printedP (l : List Int) : List S37 := l.map printA
def groundP (v : PR) (c : Int) : PR × List S37 :=
  let u1 := if c < 128 then [] else v.u
  let out := if c < 128 then printedP (List.replicate v.u.length 65533) else []
  if c = 27 then (atP 1, out)
  else if c < 32 ∨ c = 127 then ({ v with u := u1 }, out ++ [execA c])
  else ({ v with u := (UtfPure.drain (u1 ++ [c])).2 }, out ++ printedP (UtfPure.drain (u1 ++ [c])).1)
def finishP (v : PR) (s : Int) : PR × List S37 := (atP 0, [strA (if s = 6 then 5 else 4) v.tx])
def escapeP (v : PR) (c : Int) : PR × List S37 :=
  if c < 48 then ({ v with st := 2, mr := if v.mr.size < 2 then v.mr ++ b1 c else v.mr }, [])
  else if v.st = 1 ∧ c = 91 then (atP 3, [])
  else if v.st = 1 ∧ c = 93 then (atP 5, [])
  else if v.st = 1 ∧ c = 80 then (atP 6, [])
  else (atP 0, [escA c v.mr])
def someP (l : List Int) : List Int := if l = [] then [0] else l
def lastP (l : List Int) (c : Int) : List Int := l.set (l.length - 1) (min (10 * l.getD (l.length - 1) 0 + (c - 48)) 9999)
def csiP (v : PR) (c : Int) : PR × List S37 :=
  if 48 ≤ c ∧ c ≤ 57 then ({ v with ps := lastP (someP v.ps) c }, [])
  else if c = 59 then ({ v with ps := if (someP v.ps).length < 8 then someP v.ps ++ [0] else someP v.ps }, [])
  else if 64 ≤ c then (if v.st = 4 then (atP 0, []) else (atP 0, [csiA c v.mr v.ps]))
  else if v.mr.size = 2 ∨ c = 58 then ({ v with st := 4 }, [])
  else ({ v with mr := v.mr ++ b1 c }, [])
def stringP (v : PR) (c : Int) : PR × List S37 :=
  if c = 27 then ({ v with wi := v.st, st := 7 }, [])
  else if c = 7 ∧ v.st = 5 then finishP v 5
  else if c = 24 ∨ c = 26 then (atP 0, [])
  else if 32 ≤ c ∧ v.tx.size < 40 then ({ v with tx := v.tx ++ b1 c }, [])
  else (v, [])
def feed2P (v : PR) (c : Int) : PR × List S37 :=
  if c = 24 ∨ c = 26 then (atP 0, [])
  else if c = 27 then (atP 1, [])
  else if c < 32 then (v, [execA c])
  else if 127 ≤ c then (v, [])
  else if v.st = 3 ∨ v.st = 4 then csiP v c
  else escapeP v c
def feedP (v : PR) (c : Int) : PR × List S37 :=
  if v.st = 0 then groundP v c
  else if v.st = 7 then (if c = 92 then finishP v v.wi else feed2P (atP 1) c)
  else if 5 ≤ v.st then stringP v c
  else feed2P v c
def allP : PR → List Int → PR × List S37
  | v, [] => (v, [])
  | v, c :: l => ((allP (feedP v c).1 l).1, (feedP v c).2 ++ (allP (feedP v c).1 l).2)
theorem allP_append (l r : List Int) : ∀ v, allP v (l ++ r) = ((allP (allP v l).1 r).1, (allP v l).2 ++ (allP (allP v l).1 r).2) := by
  induction l with
  | nil => intro v; rfl
  | cons c l ih =>
    intro v
    simp only [List.cons_append, allP, ih, List.append_assoc]
/-- What a parser's bytes are. -/
def Fit (v : PR) : Prop := v.u.length ≤ 3 ∧ Bytes v.u ∧ (v.u = [] ∨ full v.u = false) ∧ v.ps.length ≤ 8 ∧ (∀ x ∈ v.ps, 0 ≤ x ∧ x ≤ 9999) ∧ v.mr.size ≤ 2 ∧ v.tx.size ≤ 40
end Go.Proofs.YtkdkajcokoggiaaDoor.VtPure
