/- The parser's All as a contract. -/
import Derived.Test.YtkdkajcokoggiaaDoorVtFeedAll
namespace Go.Proofs.YtkdkajcokoggiaaDoor.VtAll
open Go.RowKit Go.Proofs.YtkdkajcokoggiaaDoor.Kit Go.Proofs.YtkdkajcokoggiaaDoor.Plain Go.Proofs.YtkdkajcokoggiaaDoor.Mine Go.Proofs.YtkdkajcokoggiaaDoor.UtfPure Go.Proofs.YtkdkajcokoggiaaDoor.UtfFull Go.Proofs.YtkdkajcokoggiaaDoor.UtfFeed Go.Proofs.YtkdkajcokoggiaaDoor.UtfRunes Go.Proofs.YtkdkajcokoggiaaDoor.UtfPart Go.Proofs.YtkdkajcokoggiaaDoor.VtPure Go.Proofs.YtkdkajcokoggiaaDoor.VtSmall Go.Proofs.YtkdkajcokoggiaaDoor.VtCsi Go.Proofs.YtkdkajcokoggiaaDoor.VtFeedK Go.Proofs.YtkdkajcokoggiaaDoor.VtInv Go.Proofs.YtkdkajcokoggiaaDoor.VtFeedAll Go.Proofs.YtkdkajcokoggiaaDoorW.PrintWords Go.Proofs.YtkdkajcokoggiaaDoorW.PrintLast Go.Proofs.YtkdkajcokoggiaaDoorW.PrintMore
open Go.Lib (Utf8Tabs)
open Go.Proofs.YtkdkajcokoggiaaDoor.PVtParts (S37 k37 k37_open k37_openM k37_mk k37_mkM)
set_option linter.unusedVariables false
set_option linter.unusedSimpArgs false
theorem rows_M {T : Nat} {W : World} {base base' : Nat} {ok okp : Nat → Prop} {A : Option Addr} {m c : Nat} {ys : List S37} (h : Kd.R k37 T W base ok (.slice A m c) ys) (hb : base' ≤ base) (hk : ∀ k, ok k → okp k) : m = ys.length ∧ ReadsRow (k37.M W base' okp) 6 W A m ys := by
  obtain ⟨A', c', e, _, hr⟩ := OwnRow.reads h.2
  injection e with e1 e2 e3
  subst e1 e2 e3
  refine ⟨rfl, hr.1, hr.2.1, fun hn => ?_⟩
  obtain ⟨ad, e, hc⟩ := hr.2.2 hn
  refine ⟨ad, e, fun j p hp => ?_⟩
  obtain ⟨cs, h1, h2, h3⟩ := hc j p hp
  exact ⟨cs, h1, k37.M_lower hb (k37.M_mono (fun k hk2 => hk k hk2.1) h2), h3⟩
/-- Where a parser's parameters lie: not in the two blocks. -/
def Off (A : Option Addr) (n g gr : Nat) : Prop := 0 < n → ∀ ad, A = some ad → ad.block ≠ g ∧ ad.block ≠ gr
theorem Off.keep {W W1 : World} {A : Option Addr} {n g gr : Nat} {xs : List Int} (h : Kd.C (Kd.int .i64) W A n xs) (ho : Off A n g gr) (hk : KeepBut W W1 g none) : Kd.C (Kd.int .i64) W1 A n xs :=
  C_block h (fun hn ad e => hk.2 ad.block (by subst e; exact Kd.C_lt h hn (by decide)) (ho hn ad e).1 (by simp))
theorem Off.keepr {W W1 : World} {A : Option Addr} {n g gr : Nat} {xs : List Int} (h : Kd.C (Kd.int .i64) W A n xs) (ho : Off A n g gr) (hk : KeepBut W W1 gr none) : Kd.C (Kd.int .i64) W1 A n xs :=
  C_block h (fun hn ad e => hk.2 ad.block (by subst e; exact Kd.C_lt h hn (by decide)) (ho hn ad e).2 (by simp))
theorem Off.next {W : World} {A A5 : Option Addr} {n n5 g gr : Nat} (ho : Off A n g gr) (hcl : ∀ ad, A5 = some ad → (A5 = A ∧ n5 = n) ∨ W.heap.size ≤ ad.block) (h1 : g < W.heap.size) (h2 : gr < W.heap.size) : Off A5 n5 g gr := fun hn ad e => by
  rcases hcl ad e with ⟨e1, e2⟩ | h3
  · subst e1 e2
    exact ho hn ad e
  · exact ⟨by omega, by omega⟩
theorem off_new {w : World} {A : Option Addr} {n : Nat} {xs : List Int} (h : Kd.C (Kd.int .i64) w A n xs) {g gr : Nat} (h1 : w.heap.size ≤ g) (h2 : w.heap.size ≤ gr) : Off A n g gr := fun hn ad e => by
  subst e
  have := Kd.C_lt h hn (by decide)
  exact ⟨by omega, by omega⟩
theorem setp9 {w W : World} {g gr : Nat} {pc rc : Array Value} (v : PR) (pv : Value) (h : V2 w W g gr pc rc) (e : pc.size = 9) :
    V2 w (((((((((W.setCell ⟨g, 0, none⟩ (.int .i64 v.st)).setCell ⟨g, 1, none⟩ (.int .u8 (v.u[0]?.getD 0))).setCell ⟨g, 2, none⟩ (.int .u8 (v.u[1]?.getD 0))).setCell ⟨g, 3, none⟩ (.int .u8 (v.u[2]?.getD 0))).setCell ⟨g, 4, none⟩ (.int .i64 v.u.length)).setCell ⟨g, 5, none⟩ (.string v.mr)).setCell ⟨g, 6, none⟩ pv).setCell ⟨g, 7, none⟩ (.string v.tx)).setCell ⟨g, 8, none⟩ (.int .i64 v.wi)) g gr (pcells v pv) rc := by
  obtain ⟨l⟩ := pc
  match l, e with
  | [r0, r1, r2, r3, r4, r5, r6, r7, r8], _ => exact VtFeedC.V2.setp9 h _ _ _ _ _ _ _ _ _
set_option maxHeartbeats 6400000 in
set_option maxRecDepth 100000 in
theorem all_c (v0 : PR) (hv0 : PForm v0) (A0 : Option Addr) (n0 cp0 : Nat) (s : ByteArray) (w : World) (hps0 : Kd.C (Kd.int .i64) w A0 n0 v0.ps) (hT : Utf8Tabs 0 1 w) (hs : s.size ≤ 10000) :
    Calls Tryd.prog 11 #[pval v0 (.slice A0 n0 cp0), .string s] w (PT w A0 n0 (allP v0 (bytesOf s))) := by
  have hup := Tryd.underlying28
  have hua := Tryd.underlying37
  have HT := Aside0.mk hT
  have HV0 := Aside0.mk hv0
  have HPS0 := Aside0.mk hps0
  have hsz : (s.size : Int) ≤ 10000 := by omega
  obtain ⟨bs, hbs⟩ : ∃ bs, bs = bytesOf s := ⟨_, rfl⟩
  have HBY := Aside0.mk (show Bytes bs from by rw [hbs]; exact bytesOf_bytes s)
  have HLEN := Aside0.mk (show bs.length = s.size from by rw [hbs, bytesOf_length])
  have HGET := Aside0.mk (show ∀ (i : Nat) (h : i < s.size) (h2 : i < bs.length), bs[i] = (s[i].toNat : Int) from by subst hbs; exact bytesOf_get s)
  rw [← hbs]
  unfold pval
  obtain ⟨pc, hpc⟩ : ∃ pc, pc = pcells v0 (.slice A0 n0 cp0) := ⟨_, rfl⟩
  rw [← hpc]
  have HPC := Aside0.mk hpc
  clear hT hbs hs hpc hv0 hps0
  go_enter Tryd.func11, Tryd.ntmps11
  go_upto_region 0 with fail
  go_cut [2, 4, 5] (fun v2 v4 v5 W => ∃ g gr : Nat, v2 = .pointer (some ⟨g, 0, none⟩) ∧ v4 = .pointer (some ⟨gr, 0, none⟩) ∧ v5 = .slice none 0 0 ∧ Aside0 (V2 w W g gr pc zcells))
  case first =>
    go_wp2_with fail
    go_meet
    case rel => exact ⟨_, _, rfl, rfl, rfl, ⟨V2.enter w pc zcells⟩⟩
  case rest =>
    obtain ⟨g, gr, rfl, rfl, rfl, HV⟩ := hcut
    have HVP := Aside0.mk (show V2 w wc g gr (pcells v0 (.slice A0 n0 cp0)) zcells from by have h := HV.out; rw [HPC.out] at h; exact h)
    clear HPC HV
    go_wp2_with fail
    go_loopg [6, 11] s.size (fun gk v6 v11 W => ∃ (i : Nat) (v : PR) (A : Option Addr) (n cp : Nat) (out : List S37) (vo : Value), vo = v6 ∧ v11 = .int .i64 (i : Int) ∧ Aside0 (gk + i = s.size) ∧ Aside0 (PForm v) ∧ Aside0 (out ++ (allP v (bs.drop i)).2 = (allP v0 bs).2 ∧ (allP v (bs.drop i)).1 = (allP v0 bs).1) ∧ Aside0 (out.length ≤ 7 * i) ∧ Aside0 (V2 w W g gr (pcells v (.slice A n cp)) zcells) ∧ Aside0 (Kd.C (Kd.int .i64) W A n v.ps ∧ Off A n g gr ∧ ∀ ad, A = some ad → (A = A0 ∧ n = n0) ∨ w.heap.size ≤ ad.block) ∧ Aside0 (Kd.R k37 37 W w.heap.size (fun k => k ≠ g ∧ k ≠ gr) vo out) ∧ Aside0 (0 < n → ∀ ad, A = some ad → vo.ownBlock ≠ some ad.block))
    case atStart => exact ⟨0, v0, A0, n0, cp0, [], _, rfl, rfl, ⟨by omega⟩, HV0, ⟨⟨rfl, rfl⟩⟩, ⟨Nat.zero_le _⟩, HVP, ⟨Kd.C_below HPS0.out HVP.out.2.2.2.2.2, off_new HPS0.out HVP.out.2.2.1 HVP.out.2.2.2.1, fun ad e => .inl ⟨rfl, rfl⟩⟩, ⟨Kd.R_nil _ _ _ _ _⟩, ⟨fun _ _ _ h => nomatch h⟩⟩
    case round =>
      obtain ⟨i, v, A, n, cp, out, vo, rfl, rfl, HGK, HG, HF, HOL, HV, HC, HO, HAP⟩ := hrel
      have hgi := HGK.out
      by_cases hi : i < s.size
      · obtain ⟨g0, rfl⟩ : ∃ g0, gk = g0 + 1 := ⟨gk - 1, by omega⟩
        have hi2 : i < bs.length := by rw [HLEN.out]; exact hi
        have hd : bs.drop i = bs[i] :: bs.drop (i + 1) := List.drop_eq_getElem_cons hi2
        have hbi := HGET.out i hi hi2
        have hcb := HBY.out bs[i] (List.getElem_mem hi2)
        rw [hbi] at hcb
        have hff := HF.out
        rw [hd, hbi] at hff
        obtain ⟨cI, hcI⟩ : ∃ cI, (s[i].toNat : Int) = cI := ⟨_, rfl⟩
        rw [hcI] at hff hcb
        have hgn := good_feed HG.out hcb
        have hfl := feed_len HG.out cI
        have HFC := Aside0.mk (show ∀ W, Kd.C (Kd.int .i64) W A n v.ps → Utf8Tabs 0 1 W → Calls Tryd.prog 14 #[.agg #[.int .i64 v.st, .int .u8 (v.u[0]?.getD 0), .int .u8 (v.u[1]?.getD 0), .int .u8 (v.u[2]?.getD 0), .int .i64 v.u.length, .string v.mr, .slice A n cp, .string v.tx, .int .i64 v.wi], .int .u8 cI] W (PT W A n (feedP v cI)) from fun W hps hT => feed_c v HG.out A n cp cI W hcb hps hT)
        obtain ⟨rr, hrr⟩ : ∃ rr, rr = feedP v cI := ⟨_, rfl⟩
        have hff2 : out ++ (rr.2 ++ (allP rr.1 (bs.drop (i + 1))).2) = (allP v0 bs).2 ∧ (allP rr.1 (bs.drop (i + 1))).1 = (allP v0 bs).1 := by rw [hrr]; exact hff
        rw [← hrr] at hgn hfl HFC
        have HFF := Aside0.mk (show (out ++ rr.2) ++ (allP rr.1 (bs.drop (i + 1))).2 = (allP v0 bs).2 ∧ (allP rr.1 (bs.drop (i + 1))).1 = (allP v0 bs).1 from by rw [List.append_assoc]; exact hff2)
        have HGN := Aside0.mk hgn
        have HFL := Aside0.mk hfl
        have hil : (i : Int) < s.size := by omega
        have HI := Aside0.mk (show i < 10000 by omega)
        obtain ⟨k0, k1, k2, k3, k4, k5, k6, k7, k8⟩ := HV.out.drew.cells rfl
        have HT3 := Aside0.mk (tabs_below HT.out (below_drew HV.out.2.2.2.2.2))
        have HCI := Aside0.mk hcI
        clear hd hbi hcb hff hff2 hgi HF hi2 hgn hfl hrr
        go_upto_region 6 with fail
        refine start_ (n := 10) (S := fun w' => w'.cell? ⟨g, 0, none⟩ = some (.int .i64 v.st) ∧ w'.cell? ⟨g, 1, none⟩ = some (.int .u8 (v.u[0]?.getD 0)) ∧ w'.cell? ⟨g, 2, none⟩ = some (.int .u8 (v.u[1]?.getD 0)) ∧ w'.cell? ⟨g, 3, none⟩ = some (.int .u8 (v.u[2]?.getD 0)) ∧ w'.cell? ⟨g, 4, none⟩ = some (.int .i64 v.u.length) ∧ w'.cell? ⟨g, 5, none⟩ = some (.string v.mr) ∧ w'.cell? ⟨g, 6, none⟩ = some (.slice A n cp) ∧ w'.cell? ⟨g, 7, none⟩ = some (.string v.tx) ∧ w'.cell? ⟨g, 8, none⟩ = some (.int .i64 v.wi)) (ds := [8]) #[false, false, false, false, false, false, false, false, false, false] (by kernel_rfl) rfl rfl ⟨k0, k1, k2, k3, k4, k5, k6, k7, k8⟩ (fun hHeld => ?_)
        refine pure_ (i := 1) (N := some 16) (v := ?_) (a' := ?_) #[false, true, false, false, false, false, false, false, false, false] rfl rfl (by kernel_rfl) (fun _ _ _ h => h) (Or.inl ⟨by rfl, ?_⟩) ?_ ?_
        rotate_left
        · intro w'
          go_simp
          with_reducible rfl
        rotate_left
        · simp only [Act.put, List.setIfInBounds_toArray, List.set_cons_zero, List.set_cons_succ, i64_w, i32_w]
          rfl
        refine pure_ (i := 2) (N := some 17) (v := ?_) (a' := ?_) #[false, true, true, false, false, false, false, false, false, false] rfl rfl (by kernel_rfl) (fun _ _ _ h => h) (Or.inl ⟨by rfl, ?_⟩) ?_ ?_
        rotate_left
        · intro w'
          go_simp
          with_reducible rfl
        rotate_left
        · simp only [Act.put, List.setIfInBounds_toArray, List.set_cons_zero, List.set_cons_succ, i64_w, i32_w]
          rfl
        refine take_ (i := 0) (N := some 15) (v := ?_) (a' := ?_) #[true, true, true, false, false, false, false, false, false, false] rfl rfl (by kernel_rfl) (fun _ _ _ h => h) (Or.inl ⟨by rfl, ?_⟩) hHeld ?_ ?_
        rotate_left
        · rintro w' ⟨s0, s1, s2, s3, s4, s5, s6, s7, s8⟩
          go_simp
          with_reducible rfl
        rotate_left
        · simp only [Act.put, List.setIfInBounds_toArray, List.set_cons_zero, List.set_cons_succ, i64_w, i32_w]
          rfl
        refine take_ (i := 3) (N := some 18) (v := ?_) (a' := ?_) #[true, true, true, true, false, false, false, false, false, false] rfl rfl (by kernel_rfl) (fun _ _ _ h => h) (Or.inl ⟨by rfl, ?_⟩) hHeld ?_ ?_
        rotate_left
        · rintro w' ⟨s0, s1, s2, s3, s4, s5, s6, s7, s8⟩
          go_simp
          with_reducible rfl
        rotate_left
        · simp only [Act.put, List.setIfInBounds_toArray, List.set_cons_zero, List.set_cons_succ, i64_w, i32_w]
          rfl
        refine one_ (i := 4) (N := some 19) #[true, true, true, true, true, false, false, false, false, false] rfl rfl (by kernel_rfl) (by decide) (fun K hK => ?_)
        refine goes_ Tryd.func14 (by kernel_rfl) rfl #[.agg #[(.int .i64 v.st), (.int .u8 (v.u[0]?.getD 0)), (.int .u8 (v.u[1]?.getD 0)), (.int .u8 (v.u[2]?.getD 0)), (.int .i64 v.u.length), (.string v.mr), (.slice A n cp), (.string v.tx), (.int .i64 v.wi)], .int .u8 cI] (by rfl) rfl rfl (by simp only [List.map_toArray, List.map_cons, List.map_nil]; rfl) ?_
        with_reducible refine ((HFC.out _ (Kd.C_drew HC.out.1) HT3.out)).mono ?_
        rintro e w5 ⟨u5, A5, n5, cp5, rfl, hp5, hr5, hb5, hcl⟩
        refine ⟨_, rfl, ?_⟩
        have HV5 := Aside0.mk (HV.out.drew.on hb5)
        have HP5 := Aside0.mk hp5
        have HR5 := Aside0.mk hr5
        have HB5 := Aside0.mk hb5
        have HCL := Aside0.mk hcl
        clear hp5 hr5 hb5 hcl
        rw [show pval rr.1 (.slice A5 n5 cp5) = .agg #[.int .i64 rr.1.st, .int .u8 (rr.1.u[0]?.getD 0), .int .u8 (rr.1.u[1]?.getD 0), .int .u8 (rr.1.u[2]?.getD 0), .int .i64 rr.1.u.length, .string rr.1.mr, .slice A5 n5 cp5, .string rr.1.tx, .int .i64 rr.1.wi] from rfl]
        obtain ⟨c0, c1, c2, c3, c4, c5, c6, c7, c8⟩ := HV5.out.cells rfl
        obtain ⟨f0, f1, f2, f3, f4, f5, f6, f7, f8⟩ := HV5.out.thawp
        refine hK.out _ _ ⟨c0, c1, c2, c3, c4, c5, c6, c7, c8⟩ (fun hHeld => ?_)
        clear hK K
        refine norm_ (a' := ?_) ?_ ?_
        rotate_left
        · show Act.put _ (some 19) _ = _
          simp only [Act.put, List.setIfInBounds_toArray, List.set_cons_zero, List.set_cons_succ, i64_w, i32_w]
          rfl
        refine pure_ (i := 5) (N := some 14) (v := ?_) (a' := ?_) #[true, true, true, true, true, true, false, false, false, false] rfl rfl (by kernel_rfl) (fun _ _ _ h => h) (Or.inl ⟨by rfl, ?_⟩) ?_ ?_
        rotate_left
        · intro w'
          go_simp
          with_reducible rfl
        rotate_left
        · simp only [Act.put, List.setIfInBounds_toArray, List.set_cons_zero, List.set_cons_succ, i64_w, i32_w]
          rfl
        refine pure_ (i := 6) (N := some 20) (v := ?_) (a' := ?_) #[true, true, true, true, true, true, true, false, false, false] rfl rfl (by kernel_rfl) (fun _ _ _ h => h) (Or.inl ⟨by rfl, ?_⟩) ?_ ?_
        rotate_left
        · intro w'
          go_simp
          with_reducible rfl
        rotate_left
        · simp only [Act.put, List.setIfInBounds_toArray, List.set_cons_zero, List.set_cons_succ, i64_w, i32_w]
          rfl
        refine pure_ (i := 7) (N := some 21) (v := ?_) (a' := ?_) #[true, true, true, true, true, true, true, true, false, false] rfl rfl (by kernel_rfl) (fun _ _ _ h => h) (Or.inl ⟨by rfl, ?_⟩) ?_ ?_
        rotate_left
        · intro w'
          go_simp
          with_reducible rfl
        rotate_left
        · simp only [Act.put, List.setIfInBounds_toArray, List.set_cons_zero, List.set_cons_succ, i64_w, i32_w]
          rfl
        refine last_ (i := 8) (N := none) #[true, true, true, true, true, true, true, true, true, false] rfl rfl (by kernel_rfl) (by decide) (fun K hK => ?_)
        refine skip_ (w1 := ?_) (by rfl) rfl ?_ ?_
        rotate_left
        · go_simp
          rfl
        refine hK.out _ _ ?_
        clear hK K
        refine pure_ (i := 9) (N := some 8) (v := ?_) (a' := ?_) #[true, true, true, true, true, true, true, true, true, true] rfl rfl (by kernel_rfl) (fun _ _ _ h => h) (Or.inl ⟨by rfl, ?_⟩) ?_ ?_
        rotate_left
        · intro w'
          go_simp
          with_reducible rfl
        rotate_left
        · simp only [Act.put, List.setIfInBounds_toArray, List.set_cons_zero, List.set_cons_succ, i64_w, i32_w]
          rfl
        refine done_ (by kernel_rfl) ?_
        obtain ⟨w6, hw6⟩ : ∃ w6, w6 = ((((((((w5.setCell ⟨g, 0, none⟩ (.int .i64 rr.1.st)).setCell ⟨g, 1, none⟩ (.int .u8 (rr.1.u[0]?.getD 0))).setCell ⟨g, 2, none⟩ (.int .u8 (rr.1.u[1]?.getD 0))).setCell ⟨g, 3, none⟩ (.int .u8 (rr.1.u[2]?.getD 0))).setCell ⟨g, 4, none⟩ (.int .i64 rr.1.u.length)).setCell ⟨g, 5, none⟩ (.string rr.1.mr)).setCell ⟨g, 6, none⟩ (.slice A5 n5 cp5)).setCell ⟨g, 7, none⟩ (.string rr.1.tx)).setCell ⟨g, 8, none⟩ (.int .i64 rr.1.wi) := ⟨_, rfl⟩
        have hk : KeepBut w5 w6 g none := by rw [hw6]; exact keep9 w5 g _ _ _ _ _ _ _ _ _
        have HV6 := Aside0.mk (show V2 w w6 g gr (pcells rr.1 (.slice A5 n5 cp5)) zcells from by rw [hw6]; exact setp9 rr.1 (.slice A5 n5 cp5) HV5.out rfl)
        have hlg : g < wr.heap.size := blk_lt HV.out.1
        have hlr : gr < wr.heap.size := blk_lt HV.out.2.1
        have ho5 : Off A5 n5 g gr := Off.next HC.out.2.1 HCL.out hlg hlr
        have hc6 := Off.keep HP5.out ho5 hk
        have HC6 := Aside0.mk (And.intro hc6 (And.intro ho5 (show ∀ ad, A5 = some ad → (A5 = A0 ∧ n5 = n0) ∨ w.heap.size ≤ ad.block from fun ad e => by
          rcases HCL.out ad e with ⟨e1, e2⟩ | h2
          · subst e1 e2; exact HC.out.2.2 ad e
          · exact .inr (Nat.le_trans HV.out.2.2.2.2.2.size h2))))
        have HO6 := Aside0.mk (Kd.R_keep (Kd.R_below (Kd.R_drew HO.out) HB5.out) hk (fun k h => h.1))
        have hr6 := Kd.R_keep (Kd.R_mono (ok' := fun k => wr.heap.size ≤ k) (Kd.R_bound HR5.out) (fun k h => h.2.1)) hk (fun k (h : wr.heap.size ≤ k) => by omega)
        have HLO := Aside0.mk (Kd.R_lt HO.out)
        obtain ⟨A6, cc6, rfl⟩ := Kd.R_slice hr6
        have HR6 := Aside0.mk (rows_M hr6 (base' := w.heap.size) (okp := fun k => wr.heap.size ≤ k) (HV.out.2.2.2.2.2.size) (fun _ h => h)).2
        have HOK := Aside0.mk (show ∀ k, wr.heap.size ≤ k → (k ≠ g ∧ k ≠ gr) ∧ some k ≠ vo.ownBlock from fun k h => ⟨⟨by omega, by omega⟩, fun e => by have := HLO.out k e.symm; omega⟩)
        have HS6 := Aside0.mk (show wr.heap.size ≤ w6.heap.size from Nat.le_trans (show wr.heap.size ≤ w5.heap.size from HB5.out.size) hk.1)
        have HAP6 := Aside0.mk (show 0 < n5 → ∀ ad, A5 = some ad → vo.ownBlock ≠ some ad.block from fun hn ad e e2 => by
          rcases HCL.out ad e with ⟨e1, e2'⟩ | h2
          · subst e1 e2'; exact HAP.out hn ad e e2
          · have := HLO.out _ e2
            have h3 : wr.heap.size ≤ ad.block := h2
            omega)
        have HLEN7 := Aside0.mk (show (out.length + rr.2.length) * 72 ≤ 140737488355328 from by have := HOL.out; have := HFL.out; have := HI.out; omega)
        rw [← hw6]
        clear hw6 hk hlg hlr ho5 hc6 hr6 c0 c1 c2 c3 c4 c5 c6 c7 c8 f0 f1 f2 f3 f4 f5 f6 f7 f8 k0 k1 k2 k3 k4 k5 k6 k7 k8 hHeld HV5 HP5 HR5 HB5 HCL HV HC HO HFC hcI
        go_wp2_with (first
          | ((with_reducible refine gate_builtin (b := .append) (xs := #[.tmp 22, .tmp 23]) rfl ?_); at_builtin; go_must ((refine Kd.R_append_rows k37 (w0 := w) w.heap.size rfl (.tmp 22) (.tmp 23) 29 37 (.agg #[(.int .i64 0), (.int .i32 0), (.int .u8 0), (.string ⟨#[]⟩), (.slice none 0 0), (.string ⟨#[]⟩)]) 72 rfl Tryd.underlying29 info37 rfl (by decide) (by omega) vo out rr.2 A6 rr.2.length cc6 (fun k => k ≠ g ∧ k ≠ gr) (fun k => wr.heap.size ≤ k) rfl rfl HO6.out HR6.out ?aK HOK.out ?aF HV6.out.2.2.2.2.2 HV6.out.2.2.2.2.2.size HLEN7.out ?_; (case aK => exact fun x cs h => h); (case aF => exact fun k hk => (HOK.out k (Nat.le_trans HS6.out hk)).1); intro v7 w7 ho hb hg hat; have HO7 := Aside0.mk ho; have HB7 := Aside0.mk hb; have HG7 := Aside0.mk hg; have HA7 := Aside0.mk hat; clear ho hb hg hat)))
          | fail)
        have HV7 := Aside0.mk (show V2 w w7 g gr (pcells rr.1 (.slice A5 n5 cp5)) zcells from ⟨blk_grown HV6.out.1 HG7.out (fun h => (HO6.out.1 g h.symm).1 rfl), blk_grown HV6.out.2.1 HG7.out (fun h => (HO6.out.1 gr h.symm).2 rfl), HV6.out.2.2.1, HV6.out.2.2.2.1, HV6.out.2.2.2.2.1, HB7.out⟩)
        have HC7 := Aside0.mk (And.intro (C_block HC6.out.1 (fun hn ad e => HG7.out.block ad.block (by have h := HC6.out.1; subst e; exact Kd.C_lt h hn (by decide)) (fun h => HAP6.out hn ad e h.symm))) HC6.out.2)
        have HAP7 := Aside0.mk (show 0 < n5 → ∀ ad, A5 = some ad → v7.ownBlock ≠ some ad.block from fun hn ad e e2 => by
          rcases HA7.out with h | ⟨b, h, hb⟩
          · exact HAP6.out hn ad e (h.symm.trans e2)
          · have h3 := HC6.out.1
            subst e
            have := Kd.C_lt h3 hn (by decide)
            rw [h] at e2
            injection e2 with e2
            omega)
        go_roundg g0
        case measure => omega
        case rel => exact ⟨i + 1, rr.1, A5, n5, cp5, out ++ rr.2, _, rfl, by first | go_num | (congr 1; unfold wrap64; omega), ⟨by have := HGK.out; omega⟩, HGN, HFF, ⟨by rw [List.length_append]; have := HOL.out; have := HFL.out; omega⟩, HV7, HC7, HO7, HAP7⟩
      · have hil : (s.size : Int) ≤ i := by omega
        have hff := HF.out
        rw [List.drop_eq_nil_of_le (by rw [HLEN.out]; omega)] at hff
        have HE1 := Aside0.mk (show out = (allP v0 bs).2 from by rw [← hff.1]; exact (List.append_nil _).symm)
        have HE2 := Aside0.mk (show v = (allP v0 bs).1 from hff.2)
        obtain ⟨k0, k1, k2, k3, k4, k5, k6, k7, k8⟩ := HV.out.cells rfl
        obtain ⟨z0, z1, z2, z3, z4, z5, z6, z7, z8⟩ := HV.out.zero
        obtain ⟨y0, y1, y2, y3, y4, y5, y6, y7, y8⟩ := HV.out.thaw
        clear hff hgi HF HGET hi
        go_wp2
        have hf := HV.out.ret (.int .i64 v.st) (.int .u8 (v.u[0]?.getD 0)) (.int .u8 (v.u[1]?.getD 0)) (.int .u8 (v.u[2]?.getD 0)) (.int .i64 v.u.length) (.string v.mr) (.slice A n cp) (.string v.tx) (.int .i64 v.wi)
        refine bodyPost_ret (results_ct Tryd.results11 _ _ gr 28 (pcells v (.slice A n cp)) (0, 0) _ rfl hf.2.1 hup rfl (by kernel_rfl)) rfl ⟨vo, A, n, cp, ?_, ?_, ?_, hf.2.2.2.2.2, HC.out.2.2⟩
        · rw [← HE2.out]; rfl
        · rw [← HE2.out]; exact Off.keepr HC.out.1 HC.out.2.1 (keep9 _ _ _ _ _ _ _ _ _ _ _)
        · rw [← HE1.out]; exact Kd.R_mono (Kd.R_keep HO.out (keep9 _ _ _ _ _ _ _ _ _ _ _) (fun k h => h.2)) (fun _ _ => trivial)
end Go.Proofs.YtkdkajcokoggiaaDoor.VtAll
