/- The check at the head of chapter 6's statements, as a contract; All from the zero parser; what a walk holds of a parser and of acts. -/
import Derived.Test.YtkdkajcokoggiaaDoorVtAll
import Derived.Test.YtkdkajcokoggiaaDoorVtSame
namespace Go.Proofs.YtkdkajcokoggiaaDoor.VtFit
open Go.RowKit Go.Proofs.YtkdkajcokoggiaaDoor.Kit Go.Proofs.YtkdkajcokoggiaaDoor.Plain Go.Proofs.YtkdkajcokoggiaaDoor.Mine Go.Proofs.YtkdkajcokoggiaaDoor.UtfPure Go.Proofs.YtkdkajcokoggiaaDoor.UtfFull Go.Proofs.YtkdkajcokoggiaaDoor.UtfFeed Go.Proofs.YtkdkajcokoggiaaDoor.UtfRunes Go.Proofs.YtkdkajcokoggiaaDoor.UtfPart Go.Proofs.YtkdkajcokoggiaaDoor.VtPure Go.Proofs.YtkdkajcokoggiaaDoor.VtSmall Go.Proofs.YtkdkajcokoggiaaDoor.VtInv Go.Proofs.YtkdkajcokoggiaaDoor.VtFeedAll Go.Proofs.YtkdkajcokoggiaaDoor.VtAll Go.Proofs.YtkdkajcokoggiaaDoor.VtSame Go.Proofs.YtkdkajcokoggiaaDoorW.PrintWords Go.Proofs.YtkdkajcokoggiaaDoorW.PrintLast Go.Proofs.YtkdkajcokoggiaaDoorW.PrintMore
open Go.Lib (Utf8Tabs)
open Go.Proofs.YtkdkajcokoggiaaDoor.PVtParts (S37 k37 k37_open k37_openM k37_mk k37_mkM)
set_option linter.unusedVariables false
set_option linter.unusedSimpArgs false
/-- A block that holds a parser; its parameters, which lie elsewhere. -/
def Held (W : World) (g : Nat) (v : PR) (A : Option Addr) (n cp : Nat) : Prop := W.heap[g]? = some (.cells (pcells v (.slice A n cp)) 28 (0, 0)) ∧ Kd.C (Kd.int .i64) W A n v.ps ∧ (0 < n → ∀ ad, A = some ad → ad.block ≠ g)
theorem Held.on {W W' : World} {g : Nat} {v : PR} {A : Option Addr} {n cp : Nat} (h : Held W g v A n cp) (hb : Below W.heap.size W W') : Held W' g v A n cp := ⟨blk_below h.1 hb, Kd.C_below h.2.1 hb, h.2.2⟩
theorem Held.drew {W : World} {g : Nat} {v : PR} {A : Option Addr} {n cp : Nat} (h : Held W g v A n cp) : Held W.drew g v A n cp := h.on (below_drew (Below.refl _ _))
theorem Held.new {W : World} {v : PR} {A : Option Addr} {n cp : Nat} (h : Kd.C (Kd.int .i64) W A n v.ps) : Held (W.alloc (.cells (pcells v (.slice A n cp)) 28)) W.heap.size v A n cp := ⟨blk_new _ _, Kd.C_below h (below_alloc (Below.refl _ _) _), fun hn ad e => by
  subst e
  have := Kd.C_lt h hn (by decide)
  omega⟩
theorem Held.set9 {W W5 : World} {g : Nat} {v r : PR} {A A' : Option Addr} {n cp n' cp' : Nat} (h : Held W g v A n cp) (hb : Below W.heap.size W W5) (hc : Kd.C (Kd.int .i64) W5 A' n' r.ps) (hcl : ∀ ad, A' = some ad → (A' = A ∧ n' = n) ∨ W.heap.size ≤ ad.block) :
    Held (((((((((W5.setCell ⟨g, 0, none⟩ (.int .i64 r.st)).setCell ⟨g, 1, none⟩ (.int .u8 (r.u[0]?.getD 0))).setCell ⟨g, 2, none⟩ (.int .u8 (r.u[1]?.getD 0))).setCell ⟨g, 3, none⟩ (.int .u8 (r.u[2]?.getD 0))).setCell ⟨g, 4, none⟩ (.int .i64 r.u.length)).setCell ⟨g, 5, none⟩ (.string r.mr)).setCell ⟨g, 6, none⟩ (.slice A' n' cp')).setCell ⟨g, 7, none⟩ (.string r.tx)).setCell ⟨g, 8, none⟩ (.int .i64 r.wi)) g r A' n' cp' := by
  have hoff : 0 < n' → ∀ ad, A' = some ad → ad.block ≠ g := fun hn ad e => by
    have hg := blk_lt h.1
    rcases hcl ad e with ⟨e1, e2⟩ | h3
    · subst e1 e2
      exact h.2.2 hn ad e
    · omega
  have hk := keep9 W5 g (.int .i64 r.st) (.int .u8 (r.u[0]?.getD 0)) (.int .u8 (r.u[1]?.getD 0)) (.int .u8 (r.u[2]?.getD 0)) (.int .i64 r.u.length) (.string r.mr) (.slice A' n' cp') (.string r.tx) (.int .i64 r.wi)
  refine ⟨?_, C_block hc (fun hn ad e => hk.2 ad.block (by subst e; exact Kd.C_lt hc hn (by decide)) (hoff hn ad e) (by simp)), hoff⟩
  have b : W5.heap[g]? = some (.cells #[.int .i64 v.st, .int .u8 (v.u[0]?.getD 0), .int .u8 (v.u[1]?.getD 0), .int .u8 (v.u[2]?.getD 0), .int .i64 v.u.length, .string v.mr, .slice A n cp, .string v.tx, .int .i64 v.wi] 28 (0, 0)) := blk_below h.1 hb
  have b0 : (W5.setCell ⟨g, 0, none⟩ (.int .i64 r.st)).heap[g]? = some (.cells #[.int .i64 r.st, .int .u8 (v.u[0]?.getD 0), .int .u8 (v.u[1]?.getD 0), .int .u8 (v.u[2]?.getD 0), .int .i64 v.u.length, .string v.mr, .slice A n cp, .string v.tx, .int .i64 v.wi] 28 (0, 0)) := blk_put b 0 (.int .i64 r.st) rfl
  have b1 : ((W5.setCell ⟨g, 0, none⟩ (.int .i64 r.st)).setCell ⟨g, 1, none⟩ (.int .u8 (r.u[0]?.getD 0))).heap[g]? = some (.cells #[.int .i64 r.st, .int .u8 (r.u[0]?.getD 0), .int .u8 (v.u[1]?.getD 0), .int .u8 (v.u[2]?.getD 0), .int .i64 v.u.length, .string v.mr, .slice A n cp, .string v.tx, .int .i64 v.wi] 28 (0, 0)) := blk_put b0 1 (.int .u8 (r.u[0]?.getD 0)) rfl
  have b2 : (((W5.setCell ⟨g, 0, none⟩ (.int .i64 r.st)).setCell ⟨g, 1, none⟩ (.int .u8 (r.u[0]?.getD 0))).setCell ⟨g, 2, none⟩ (.int .u8 (r.u[1]?.getD 0))).heap[g]? = some (.cells #[.int .i64 r.st, .int .u8 (r.u[0]?.getD 0), .int .u8 (r.u[1]?.getD 0), .int .u8 (v.u[2]?.getD 0), .int .i64 v.u.length, .string v.mr, .slice A n cp, .string v.tx, .int .i64 v.wi] 28 (0, 0)) := blk_put b1 2 (.int .u8 (r.u[1]?.getD 0)) rfl
  have b3 : ((((W5.setCell ⟨g, 0, none⟩ (.int .i64 r.st)).setCell ⟨g, 1, none⟩ (.int .u8 (r.u[0]?.getD 0))).setCell ⟨g, 2, none⟩ (.int .u8 (r.u[1]?.getD 0))).setCell ⟨g, 3, none⟩ (.int .u8 (r.u[2]?.getD 0))).heap[g]? = some (.cells #[.int .i64 r.st, .int .u8 (r.u[0]?.getD 0), .int .u8 (r.u[1]?.getD 0), .int .u8 (r.u[2]?.getD 0), .int .i64 v.u.length, .string v.mr, .slice A n cp, .string v.tx, .int .i64 v.wi] 28 (0, 0)) := blk_put b2 3 (.int .u8 (r.u[2]?.getD 0)) rfl
  have b4 : (((((W5.setCell ⟨g, 0, none⟩ (.int .i64 r.st)).setCell ⟨g, 1, none⟩ (.int .u8 (r.u[0]?.getD 0))).setCell ⟨g, 2, none⟩ (.int .u8 (r.u[1]?.getD 0))).setCell ⟨g, 3, none⟩ (.int .u8 (r.u[2]?.getD 0))).setCell ⟨g, 4, none⟩ (.int .i64 r.u.length)).heap[g]? = some (.cells #[.int .i64 r.st, .int .u8 (r.u[0]?.getD 0), .int .u8 (r.u[1]?.getD 0), .int .u8 (r.u[2]?.getD 0), .int .i64 r.u.length, .string v.mr, .slice A n cp, .string v.tx, .int .i64 v.wi] 28 (0, 0)) := blk_put b3 4 (.int .i64 r.u.length) rfl
  have b5 : ((((((W5.setCell ⟨g, 0, none⟩ (.int .i64 r.st)).setCell ⟨g, 1, none⟩ (.int .u8 (r.u[0]?.getD 0))).setCell ⟨g, 2, none⟩ (.int .u8 (r.u[1]?.getD 0))).setCell ⟨g, 3, none⟩ (.int .u8 (r.u[2]?.getD 0))).setCell ⟨g, 4, none⟩ (.int .i64 r.u.length)).setCell ⟨g, 5, none⟩ (.string r.mr)).heap[g]? = some (.cells #[.int .i64 r.st, .int .u8 (r.u[0]?.getD 0), .int .u8 (r.u[1]?.getD 0), .int .u8 (r.u[2]?.getD 0), .int .i64 r.u.length, .string r.mr, .slice A n cp, .string v.tx, .int .i64 v.wi] 28 (0, 0)) := blk_put b4 5 (.string r.mr) rfl
  have b6 : (((((((W5.setCell ⟨g, 0, none⟩ (.int .i64 r.st)).setCell ⟨g, 1, none⟩ (.int .u8 (r.u[0]?.getD 0))).setCell ⟨g, 2, none⟩ (.int .u8 (r.u[1]?.getD 0))).setCell ⟨g, 3, none⟩ (.int .u8 (r.u[2]?.getD 0))).setCell ⟨g, 4, none⟩ (.int .i64 r.u.length)).setCell ⟨g, 5, none⟩ (.string r.mr)).setCell ⟨g, 6, none⟩ (.slice A' n' cp')).heap[g]? = some (.cells #[.int .i64 r.st, .int .u8 (r.u[0]?.getD 0), .int .u8 (r.u[1]?.getD 0), .int .u8 (r.u[2]?.getD 0), .int .i64 r.u.length, .string r.mr, .slice A' n' cp', .string v.tx, .int .i64 v.wi] 28 (0, 0)) := blk_put b5 6 (.slice A' n' cp') rfl
  have b7 : ((((((((W5.setCell ⟨g, 0, none⟩ (.int .i64 r.st)).setCell ⟨g, 1, none⟩ (.int .u8 (r.u[0]?.getD 0))).setCell ⟨g, 2, none⟩ (.int .u8 (r.u[1]?.getD 0))).setCell ⟨g, 3, none⟩ (.int .u8 (r.u[2]?.getD 0))).setCell ⟨g, 4, none⟩ (.int .i64 r.u.length)).setCell ⟨g, 5, none⟩ (.string r.mr)).setCell ⟨g, 6, none⟩ (.slice A' n' cp')).setCell ⟨g, 7, none⟩ (.string r.tx)).heap[g]? = some (.cells #[.int .i64 r.st, .int .u8 (r.u[0]?.getD 0), .int .u8 (r.u[1]?.getD 0), .int .u8 (r.u[2]?.getD 0), .int .i64 r.u.length, .string r.mr, .slice A' n' cp', .string r.tx, .int .i64 v.wi] 28 (0, 0)) := blk_put b6 7 (.string r.tx) rfl
  have b8 : (((((((((W5.setCell ⟨g, 0, none⟩ (.int .i64 r.st)).setCell ⟨g, 1, none⟩ (.int .u8 (r.u[0]?.getD 0))).setCell ⟨g, 2, none⟩ (.int .u8 (r.u[1]?.getD 0))).setCell ⟨g, 3, none⟩ (.int .u8 (r.u[2]?.getD 0))).setCell ⟨g, 4, none⟩ (.int .i64 r.u.length)).setCell ⟨g, 5, none⟩ (.string r.mr)).setCell ⟨g, 6, none⟩ (.slice A' n' cp')).setCell ⟨g, 7, none⟩ (.string r.tx)).setCell ⟨g, 8, none⟩ (.int .i64 r.wi)).heap[g]? = some (.cells #[.int .i64 r.st, .int .u8 (r.u[0]?.getD 0), .int .u8 (r.u[1]?.getD 0), .int .u8 (r.u[2]?.getD 0), .int .i64 r.u.length, .string r.mr, .slice A' n' cp', .string r.tx, .int .i64 r.wi] 28 (0, 0)) := blk_put b7 8 (.int .i64 r.wi) rfl
  exact b8
theorem below9 {B : Nat} {w W5 : World} {g : Nat} (h : Below B w W5) (hB : B ≤ g) (v0 v1 v2 v3 v4 v5 v6 v7 v8 : Value) : Below B w (((((((((W5.setCell ⟨g, 0, none⟩ v0).setCell ⟨g, 1, none⟩ v1).setCell ⟨g, 2, none⟩ v2).setCell ⟨g, 3, none⟩ v3).setCell ⟨g, 4, none⟩ v4).setCell ⟨g, 5, none⟩ v5).setCell ⟨g, 6, none⟩ v6).setCell ⟨g, 7, none⟩ v7).setCell ⟨g, 8, none⟩ v8) := by
  have h0 : Below B w (W5.setCell ⟨g, 0, none⟩ v0) := h.setCell hB _
  have h1 : Below B w ((W5.setCell ⟨g, 0, none⟩ v0).setCell ⟨g, 1, none⟩ v1) := h0.setCell hB _
  have h2 : Below B w (((W5.setCell ⟨g, 0, none⟩ v0).setCell ⟨g, 1, none⟩ v1).setCell ⟨g, 2, none⟩ v2) := h1.setCell hB _
  have h3 : Below B w ((((W5.setCell ⟨g, 0, none⟩ v0).setCell ⟨g, 1, none⟩ v1).setCell ⟨g, 2, none⟩ v2).setCell ⟨g, 3, none⟩ v3) := h2.setCell hB _
  have h4 : Below B w (((((W5.setCell ⟨g, 0, none⟩ v0).setCell ⟨g, 1, none⟩ v1).setCell ⟨g, 2, none⟩ v2).setCell ⟨g, 3, none⟩ v3).setCell ⟨g, 4, none⟩ v4) := h3.setCell hB _
  have h5 : Below B w ((((((W5.setCell ⟨g, 0, none⟩ v0).setCell ⟨g, 1, none⟩ v1).setCell ⟨g, 2, none⟩ v2).setCell ⟨g, 3, none⟩ v3).setCell ⟨g, 4, none⟩ v4).setCell ⟨g, 5, none⟩ v5) := h4.setCell hB _
  have h6 : Below B w (((((((W5.setCell ⟨g, 0, none⟩ v0).setCell ⟨g, 1, none⟩ v1).setCell ⟨g, 2, none⟩ v2).setCell ⟨g, 3, none⟩ v3).setCell ⟨g, 4, none⟩ v4).setCell ⟨g, 5, none⟩ v5).setCell ⟨g, 6, none⟩ v6) := h5.setCell hB _
  have h7 : Below B w ((((((((W5.setCell ⟨g, 0, none⟩ v0).setCell ⟨g, 1, none⟩ v1).setCell ⟨g, 2, none⟩ v2).setCell ⟨g, 3, none⟩ v3).setCell ⟨g, 4, none⟩ v4).setCell ⟨g, 5, none⟩ v5).setCell ⟨g, 6, none⟩ v6).setCell ⟨g, 7, none⟩ v7) := h6.setCell hB _
  have h8 : Below B w (((((((((W5.setCell ⟨g, 0, none⟩ v0).setCell ⟨g, 1, none⟩ v1).setCell ⟨g, 2, none⟩ v2).setCell ⟨g, 3, none⟩ v3).setCell ⟨g, 4, none⟩ v4).setCell ⟨g, 5, none⟩ v5).setCell ⟨g, 6, none⟩ v6).setCell ⟨g, 7, none⟩ v7).setCell ⟨g, 8, none⟩ v8) := h7.setCell hB _
  exact h8
theorem Held.cells {W : World} {g : Nat} {v : PR} {A : Option Addr} {n cp : Nat} (h : Held W g v A n cp) :
    W.cell? ⟨g, 0, none⟩ = some (.int .i64 v.st) ∧ W.cell? ⟨g, 1, none⟩ = some (.int .u8 (v.u[0]?.getD 0)) ∧ W.cell? ⟨g, 2, none⟩ = some (.int .u8 (v.u[1]?.getD 0)) ∧ W.cell? ⟨g, 3, none⟩ = some (.int .u8 (v.u[2]?.getD 0)) ∧ W.cell? ⟨g, 4, none⟩ = some (.int .i64 v.u.length) ∧ W.cell? ⟨g, 5, none⟩ = some (.string v.mr) ∧ W.cell? ⟨g, 6, none⟩ = some (.slice A n cp) ∧ W.cell? ⟨g, 7, none⟩ = some (.string v.tx) ∧ W.cell? ⟨g, 8, none⟩ = some (.int .i64 v.wi) :=
  ⟨(blk_cell h.1 0).trans rfl, (blk_cell h.1 1).trans rfl, (blk_cell h.1 2).trans rfl, (blk_cell h.1 3).trans rfl, (blk_cell h.1 4).trans rfl, (blk_cell h.1 5).trans rfl, (blk_cell h.1 6).trans rfl, (blk_cell h.1 7).trans rfl, (blk_cell h.1 8).trans rfl⟩
theorem Held.thaw {W : World} {g : Nat} {v : PR} {A : Option Addr} {n cp : Nat} (h : Held W g v A n cp) :
    W.frozen? ⟨g, 0, none⟩ = false ∧ W.frozen? ⟨g, 1, none⟩ = false ∧ W.frozen? ⟨g, 2, none⟩ = false ∧ W.frozen? ⟨g, 3, none⟩ = false ∧ W.frozen? ⟨g, 4, none⟩ = false ∧ W.frozen? ⟨g, 5, none⟩ = false ∧ W.frozen? ⟨g, 6, none⟩ = false ∧ W.frozen? ⟨g, 7, none⟩ = false ∧ W.frozen? ⟨g, 8, none⟩ = false :=
  ⟨blk_frozen h.1 0, blk_frozen h.1 1, blk_frozen h.1 2, blk_frozen h.1 3, blk_frozen h.1 4, blk_frozen h.1 5, blk_frozen h.1 6, blk_frozen h.1 7, blk_frozen h.1 8⟩
/-- What is kept of a call that tells a parser and acts, once the parser is laid. -/
theorem PT.laid {w w1 : World} {A0 : Option Addr} {n0 : Nat} {r : PR × List S37} {e : Ending} (h : PT w A0 n0 r e w1) : ∃ (A : Option Addr) (n cp : Nat) (A2 : Option Addr) (c2 : Nat),
    e = .returned (.tuple #[.agg #[.int .i64 r.1.st, .int .u8 (r.1.u[0]?.getD 0), .int .u8 (r.1.u[1]?.getD 0), .int .u8 (r.1.u[2]?.getD 0), .int .i64 r.1.u.length, .string r.1.mr, .slice A n cp, .string r.1.tx, .int .i64 r.1.wi], .slice A2 r.2.length c2]) ∧
    w.heap.size ≤ w1.heap.size ∧ Held (w1.alloc (.cells #[.int .i64 r.1.st, .int .u8 (r.1.u[0]?.getD 0), .int .u8 (r.1.u[1]?.getD 0), .int .u8 (r.1.u[2]?.getD 0), .int .i64 r.1.u.length, .string r.1.mr, .slice A n cp, .string r.1.tx, .int .i64 r.1.wi] 28)) w1.heap.size r.1 A n cp ∧
    Kd.R k37 37 (w1.alloc (.cells #[.int .i64 r.1.st, .int .u8 (r.1.u[0]?.getD 0), .int .u8 (r.1.u[1]?.getD 0), .int .u8 (r.1.u[2]?.getD 0), .int .i64 r.1.u.length, .string r.1.mr, .slice A n cp, .string r.1.tx, .int .i64 r.1.wi] 28)) w.heap.size (fun k => w.heap.size ≤ k ∧ k < w1.heap.size) (.slice A2 r.2.length c2) r.2 ∧
    Below w.heap.size w (w1.alloc (.cells #[.int .i64 r.1.st, .int .u8 (r.1.u[0]?.getD 0), .int .u8 (r.1.u[1]?.getD 0), .int .u8 (r.1.u[2]?.getD 0), .int .i64 r.1.u.length, .string r.1.mr, .slice A n cp, .string r.1.tx, .int .i64 r.1.wi] 28)) := by
  obtain ⟨u, A, n, cp, rfl, hC, hR, hB, _⟩ := h
  obtain ⟨A2, c2, rfl⟩ := Kd.R_slice hR
  exact ⟨A, n, cp, A2, c2, rfl, hB.size, Held.new hC, Kd.R_below (Kd.R_mono (Kd.R_bound hR) (fun k hk => ⟨hk.2.1, hk.2.2.1⟩)) (below_alloc (Below.refl _ _) _), below_alloc hB _⟩
theorem PT.told {w w1 : World} {A0 : Option Addr} {n0 : Nat} {r : PR × List S37} {e : Ending} (h : PT w A0 n0 r e w1) : ∃ (A : Option Addr) (n cp : Nat) (A2 : Option Addr) (c2 : Nat),
    e = .returned (.tuple #[.agg #[.int .i64 r.1.st, .int .u8 (r.1.u[0]?.getD 0), .int .u8 (r.1.u[1]?.getD 0), .int .u8 (r.1.u[2]?.getD 0), .int .i64 r.1.u.length, .string r.1.mr, .slice A n cp, .string r.1.tx, .int .i64 r.1.wi], .slice A2 r.2.length c2]) ∧
    Kd.C (Kd.int .i64) w1 A n r.1.ps ∧ Kd.R k37 37 w1 w.heap.size (fun k => w.heap.size ≤ k ∧ k < w1.heap.size) (.slice A2 r.2.length c2) r.2 ∧ Below w.heap.size w w1 ∧ ∀ ad, A = some ad → (A = A0 ∧ n = n0) ∨ w.heap.size ≤ ad.block := by
  obtain ⟨u, A, n, cp, rfl, hC, hR, hB, hcl⟩ := h
  obtain ⟨A2, c2, rfl⟩ := Kd.R_slice hR
  exact ⟨A, n, cp, A2, c2, rfl, hC, Kd.R_mono (Kd.R_bound hR) (fun k hk => ⟨hk.2.1, hk.2.2.1⟩), hB, hcl⟩
theorem cap_all (l : List Int) (hl : Bytes l) : ∀ v, PForm v → ∀ a ∈ (allP v l).2, Cap a := by
  induction l with
  | nil => intro v _ a ha; cases ha
  | cons c l ih =>
    intro v h
    exact cap_app (cap_feed h c) (ih (fun x hx => hl x (by simp [hx])) _ (good_feed h (hl c (by simp))))
theorem all0_c (s : ByteArray) (w : World) (hT : Utf8Tabs 0 1 w) (hs : s.size ≤ 10000) :
    Calls Tryd.prog 11 #[.agg #[.int .i64 0, .int .u8 0, .int .u8 0, .int .u8 0, .int .i64 0, .string ⟨#[]⟩, .slice none 0 0, .string ⟨#[]⟩, .int .i64 0], .string s] w (PT w none 0 (allP (atP 0) (bytesOf s))) :=
  all_c (atP 0) good_zero none 0 0 s w (Kd.C_nil _ _) hT hs
theorem known : allP (atP 0) (bytesOf ⟨#[27, 91, 49, 59, 50, 72]⟩) = (atP 0, [csiA 72 nob [1, 2]]) := by kernel_rfl
set_option maxHeartbeats 3200000 in
set_option maxRecDepth 100000 in
theorem fit_c (w : World) (hT : Utf8Tabs 0 1 w) : Calls Tryd.prog 10 #[] w fun e w' => e = .returned (.bool true) ∧ Below w.heap.size w w' := by
  have hup := Tryd.underlying28
  have hua := Tryd.underlying37
  have hA := all0_c ⟨#[27, 91, 49, 59, 50, 72]⟩ w hT (by decide)
  rw [known] at hA
  have HA := Aside0.mk hA
  clear hA hT
  go_enter Tryd.func10, Tryd.ntmps10
  go_upto_region 1 with fail
  go_cut [1, 2] (fun v1 v2 W => ∃ (g : Nat) (A : Option Addr) (n cp : Nat) (A2 : Option Addr) (c2 : Nat), v1 = .pointer (some ⟨g, 0, none⟩) ∧ v2 = .slice A2 1 c2 ∧ Aside0 (Held W g (atP 0) A n cp) ∧ Aside0 (Kd.C k37 W A2 1 [csiA 72 nob [1, 2]]) ∧ Aside0 (Below w.heap.size w W))
  case first =>
    go_wp2_with fail
    refine HA.out.mono ?_
    rintro e w1 ⟨u, A, n, cp, rfl, hC, hR, hB, _⟩
    obtain ⟨A2, c2, rfl⟩ := Kd.R_slice hR
    rw [show pval (atP 0, [csiA 72 nob [1, 2]]).1 (.slice A n cp) = .agg #[.int .i64 0, .int .u8 0, .int .u8 0, .int .u8 0, .int .i64 0, .string ⟨#[]⟩, .slice A n cp, .string ⟨#[]⟩, .int .i64 0] from rfl]
    have HX := Aside0.mk (show Held (w1.alloc (.cells #[.int .i64 0, .int .u8 0, .int .u8 0, .int .u8 0, .int .i64 0, .string ⟨#[]⟩, .slice A n cp, .string ⟨#[]⟩, .int .i64 0] 28)) w1.heap.size (atP 0) A n cp from Held.new hC)
    have HY := Aside0.mk (show Kd.C k37 (w1.alloc (.cells #[.int .i64 0, .int .u8 0, .int .u8 0, .int .u8 0, .int .i64 0, .string ⟨#[]⟩, .slice A n cp, .string ⟨#[]⟩, .int .i64 0] 28)) A2 1 [csiA 72 nob [1, 2]] from Kd.C_below (Kd.R_reads' hR).2.2 (below_alloc (Below.refl _ _) _))
    have HZ := Aside0.mk (show Below w.heap.size w (w1.alloc (.cells #[.int .i64 0, .int .u8 0, .int .u8 0, .int .u8 0, .int .i64 0, .string ⟨#[]⟩, .slice A n cp, .string ⟨#[]⟩, .int .i64 0] 28)) from below_alloc hB _)
    clear hC hR hB HA
    go_wp2
    go_meet
    case rel => exact ⟨_, A, n, cp, A2, c2, rfl, rfl, HX, HY, HZ⟩
  case rest =>
    obtain ⟨g, A, n, cp, A2, c2, rfl, rfl, HH, HC, HB⟩ := hcut
    have k0 := HH.out.cells.1
    obtain ⟨ad, A4, c4, rfl, h0, h1, h2, h3, h4, h5, h6⟩ := at_act (l := [csiA 72 nob [1, 2]]) HC.out 0 (by decide)
    obtain ⟨ad4, e4, h7⟩ := Kd.at_int h6 (1 : Int) (by omega) (by decide)
    subst e4
    have q0 : wc.cell? ad = some (.int .i64 3) := h0
    have q2 : wc.cell? ⟨ad.block, ad.off + 2, none⟩ = some (.int .u8 72) := by
      have h := h2
      rw [Nat.zero_mul, show ad.add 0 = ad from rfl] at h
      exact h
    have q4 : wc.cell? ⟨ad.block, ad.off + 4, none⟩ = some (.slice (some ad4) 2 c4) := by
      have h := h4
      rw [Nat.zero_mul, show ad.add 0 = ad from rfl] at h
      exact h
    have q7 : wc.cell? ⟨ad4.block, ad4.off + 1, none⟩ = some (.int .i64 2) := by
      have h : wc.cell? (ad4.add 1) = some (.int .i64 2) := h7
      have h2 := add_field ad4 0 1 (by omega)
      rw [Nat.zero_add] at h2
      rw [h2] at h
      exact h
    have k0' : wc.cell? ⟨g, 0, none⟩ = some (.int .i64 0) := k0
    clear h0 h1 h2 h3 h4 h5 h6 h7 k0
    go_wp2
    go_ret
    exact ⟨rfl, HB.out⟩
end Go.Proofs.YtkdkajcokoggiaaDoor.VtFit
