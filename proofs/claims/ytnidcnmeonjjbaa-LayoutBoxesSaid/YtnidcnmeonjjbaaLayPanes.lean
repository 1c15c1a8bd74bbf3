/- Panes and find of a layout, as contracts. -/
import Derived.Test.YtnidcnmeonjjbaaLayNode
namespace Go.Proofs.Ytnidcnmeonjjbaa.LayPanes
open Go.RowKit Go.Proofs.Ytnidcnmeonjjbaa.Kit Go.Proofs.Ytnidcnmeonjjbaa.Plain Go.Proofs.Ytnidcnmeonjjbaa.Mine Go.Proofs.Ytnidcnmeonjjbaa.LayPure Go.Proofs.Ytnidcnmeonjjbaa.LayNode Go.Proofs.YtnidcnmeonjjbaaW.PrintWords Go.Proofs.YtnidcnmeonjjbaaW.PrintLast Go.Proofs.YtnidcnmeonjjbaaW.PrintMore
set_option linter.unusedVariables false
set_option linter.unusedSimpArgs false
section
set_option maxHeartbeats 800000
set_option maxRecDepth 100000
/-- What Panes tells. -/
theorem panes_c (h : Nat) (t : BT) (w : World) (hl : LB w h t.root) (ht : Lies w t) (hn : t.lv.length < 1000000) :
    Calls Try.prog 15 #[.pointer (some ⟨h, 0, none⟩)] w fun e w' => ∃ v, e = .returned v ∧ Kd.R (Kd.int .i64) 3 w' w.heap.size (fun _ => True) v t.plain.leaves ∧ Below w.heap.size w w' := by
  have hu := Try.underlying65
  have HL := Aside0.mk hl
  have HT := Aside0.mk ht
  have HN := Aside0.mk hn
  have HLV := Aside0.mk t.lv_leaves
  obtain ⟨r, hr⟩ : ∃ r, r = t.root := ⟨_, rfl⟩
  rw [← hr] at HL
  have HR := Aside0.mk hr
  have c0 : (w.alloc (.cells #[.slice none 0 0] 35 (0, 0))).cell? ⟨h, 0, none⟩ = some (.pointer (some ⟨r, 0, none⟩)) := (blk_cell (blk_alloc HL.out _) 0).trans rfl
  clear hl ht hn hr
  go_enter Try.func15, Try.ntmps15
  go_wp2_with fail
  rw [HR.out]
  refine (eachP (.pointer (some ⟨w.heap.size, 0, none⟩)) w t.lv (fun W l => ∃ v, W.heap[w.heap.size]? = some (.cells #[v] 35 (0, 0)) ∧ Kd.R (Kd.int .i64) 3 W w.heap.size (fun k => k ≠ w.heap.size) v (l.map Prod.snd) ∧ Below w.heap.size w W) (fun W l h => h.choose_spec.2.2) ?_ t HT.out _ [] [] (by simp) ?_).mono ?_
  · rintro W g p l r hL hk ⟨v, h1, h2, h3⟩
    refine (closP w W w.heap.size g w.heap.size p v (l.map Prod.snd) hk h1 h2 (by have := HN.out; rw [hL] at this; simp at this; rw [List.length_map]; omega) (Nat.le_refl _) h3 h3.size).mono ?_
    rintro e w' ⟨rfl, v', k1, k2, k3⟩
    exact ⟨rfl, v', k1, by rw [List.map_append]; exact k2, k3⟩
  · exact ⟨_, blk_new w _, Kd.R_nil _ _ _ _ _, below_alloc (Below.refl _ _) _⟩
  · rintro e w3 ⟨rfl, v, h1, h2, h3⟩
    have b0 : w3.cell? ⟨w.heap.size, 0, none⟩ = some v := (blk_cell h1 0).trans rfl
    have H2 := Aside0.mk h2
    have H3 := Aside0.mk h3
    clear h1 h2 h3
    go_wp2_with fail
    go_returns
    exact ⟨v, rfl, Kd.R_mono (by rw [← HLV.out]; exact H2.out) (fun _ _ => trivial), H3.out⟩
/-- What find tells. -/
theorem find_c (h : Nat) (t : BT) (q : Int) (w : World) (hl : LB w h t.root) (ht : Lies w t) :
    Calls Try.prog 27 #[.pointer (some ⟨h, 0, none⟩), .int .i64 q] w fun e w' => e = .returned (.pointer ((t.find q).map fun g => ⟨g, 0, none⟩)) ∧ Below w.heap.size w w' := by
  have hu := Try.underlying65
  have HL := Aside0.mk hl
  have HT := Aside0.mk ht
  obtain ⟨r, hr⟩ : ∃ r, r = t.root := ⟨_, rfl⟩
  rw [← hr] at HL
  have HR := Aside0.mk hr
  have c0 : ((w.alloc (.cells #[.int .i64 q] 3 (0, 0))).alloc (.cells #[.pointer none] 61 (0, 0))).cell? ⟨h, 0, none⟩ = some (.pointer (some ⟨r, 0, none⟩)) := (blk_cell (blk_alloc (blk_alloc HL.out _) _) 0).trans rfl
  clear hl ht hr
  go_enter Try.func27, Try.ntmps27
  go_wp2_with fail
  rw [HR.out]
  refine (eachF (.pointer (some ⟨w.heap.size, 0, none⟩)) (.pointer (some ⟨w.heap.size + 1, 0, none⟩)) w t.lv (fun W l => W.heap[w.heap.size]? = some (.cells #[.int .i64 q] 3 (0, 0)) ∧ W.heap[w.heap.size + 1]? = some (.cells #[.pointer ((lastOf l q).map fun g => ⟨g, 0, none⟩)] 61 (0, 0)) ∧ Below w.heap.size w W) (fun W l h => h.2.2) ?_ t HT.out _ [] [] (by simp) ?_).mono ?_
  · rintro W g p l r hL hk ⟨h1, h2, h3⟩
    refine (closF w W w.heap.size g w.heap.size (w.heap.size + 1) p q _ ((lastOf (l ++ [(g, p)]) q).map fun g => ⟨g, 0, none⟩) (by rw [lastOf_snoc]; split <;> rfl) hk h1 h2 (by omega) h3 (by omega)).mono ?_
    rintro e w' ⟨rfl, k1, k2, k3⟩
    exact ⟨rfl, k1, k2, k3⟩
  · exact ⟨blk_alloc (blk_new w _) _, by have := blk_new (w.alloc (.cells #[.int .i64 q] 3 (0, 0))) (.cells #[.pointer none] 61 (0, 0)); rw [show (w.alloc (.cells #[.int .i64 q] 3 (0, 0))).heap.size = w.heap.size + 1 from by simp] at this; exact this, below_alloc (below_alloc (Below.refl _ _) _) _⟩
  · rintro e w3 ⟨rfl, h1, h2, h3⟩
    rw [List.nil_append, lastOf_lv] at h2
    have b0 : w3.cell? ⟨w.heap.size + 1, 0, none⟩ = some (.pointer ((t.find q).map fun g => ⟨g, 0, none⟩)) := (blk_cell h2 0).trans rfl
    have H3 := Aside0.mk h3
    clear h1 h2 h3
    go_wp2_with fail
    go_returns
    exact ⟨rfl, H3.out⟩
end
end Go.Proofs.Ytnidcnmeonjjbaa.LayPanes
