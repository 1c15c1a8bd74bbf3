/- Plain facts on checked frames of bytes: the remainder bit by bit, frames, what begins with a frame, bursts. -/
import Derived.Test.YtmomfoedbkapfaaPlain
namespace Go.Proofs.Ytmomfoedbkapfaa.Crc
open Go.RowKit Go.Proofs.Ytmomfoedbkapfaa.Plain

/-- One bit of the remainder. -/
def T (c : Nat) : Nat := (c / 2) ^^^ (if c % 2 = 1 then 3988292384 else 0)
def Tn : Nat → Nat → Nat
  | 0, c => c
  | n + 1, c => Tn n (T c)
theorem xor_mod2 (a b : Nat) : (a ^^^ b) % 2 = (a % 2 + b % 2) % 2 := by
  have h := Nat.testBit_xor a b 0
  simp only [Nat.testBit_zero] at h
  have ha : a % 2 = 0 ∨ a % 2 = 1 := by omega
  have hb : b % 2 = 0 ∨ b % 2 = 1 := by omega
  have hc : (a ^^^ b) % 2 = 0 ∨ (a ^^^ b) % 2 = 1 := by omega
  rcases ha with ha | ha <;> rcases hb with hb | hb <;> rcases hc with hc | hc <;> simp_all
theorem T_lin (a b : Nat) : T (a ^^^ b) = T a ^^^ T b := by
  unfold T
  have h1 : (a ^^^ b) / 2 = a / 2 ^^^ b / 2 := Nat.xor_div_two
  have h2 := xor_mod2 a b
  rw [h1, h2]
  have ha : a % 2 = 0 ∨ a % 2 = 1 := by omega
  have hb : b % 2 = 0 ∨ b % 2 = 1 := by omega
  rcases ha with ha | ha <;> rcases hb with hb | hb <;> simp only [ha, hb]
  · simp
  · simp; ac_rfl
  · simp; ac_rfl
  · simp
    have : a / 2 ^^^ b / 2 = 3988292384 ^^^ 3988292384 ^^^ (a / 2 ^^^ b / 2) := by simp
    rw [this]; ac_rfl
theorem Tn_lin (n : Nat) : ∀ a b, Tn n (a ^^^ b) = Tn n a ^^^ Tn n b := by
  induction n with
  | zero => intro a b; rfl
  | succ n ih => intro a b; rw [Tn, Tn, Tn, T_lin, ih]
theorem Tn_add (m n : Nat) : ∀ c, Tn (m + n) c = Tn n (Tn m c) := by
  induction m with
  | zero => intro c; rw [Nat.zero_add]; rfl
  | succ m ih => intro c; rw [Nat.succ_add, Tn, ih]; rfl
theorem T_lt (c : Nat) (h : c < 2 ^ 32) : T c < 2 ^ 32 := by
  unfold T
  refine Nat.xor_lt_two_pow (by omega) ?_
  split <;> decide
theorem Tn_lt (n : Nat) : ∀ c, c < 2 ^ 32 → Tn n c < 2 ^ 32 := by
  induction n with
  | zero => intro c h; exact h
  | succ n ih => intro c h; exact ih _ (T_lt c h)
theorem T_even (r : Nat) : T (2 * r) = r := by
  unfold T
  rw [if_neg (by omega), Nat.xor_zero]; omega
theorem Tn_shift (n : Nat) : ∀ r, Tn n (r * 2 ^ n) = r := by
  induction n with
  | zero => intro r; simp [Tn]
  | succ n ih =>
    intro r
    rw [Tn, show r * 2 ^ (n + 1) = 2 * (r * 2 ^ n) by rw [Nat.pow_succ]; ac_rfl, T_even, ih]
theorem xor_zero_eq (a b : Nat) (h : a ^^^ b = 0) : a = b := by
  have : a ^^^ b ^^^ b = b := by rw [h, Nat.zero_xor]
  rwa [Nat.xor_assoc, Nat.xor_self, Nat.xor_zero] at this
theorem T_zero (c : Nat) (h : c < 2 ^ 32) (h0 : T c = 0) : c = 0 := by
  unfold T at h0
  have hx := xor_zero_eq _ _ h0
  split at hx <;> omega
theorem Tn_zero (n : Nat) : ∀ c, c < 2 ^ 32 → Tn n c = 0 → c = 0 := by
  induction n with
  | zero => intro c _ h; exact h
  | succ n ih => intro c h h0; exact T_zero c h (ih _ (T_lt c h) h0)
theorem Tn_inj (n : Nat) (a b : Nat) (ha : a < 2 ^ 32) (hb : b < 2 ^ 32) (h : Tn n a = Tn n b) : a = b := by
  have h2 : Tn n (a ^^^ b) = 0 := by rw [Tn_lin, h, Nat.xor_self]
  exact xor_zero_eq _ _ (Tn_zero n _ (Nat.xor_lt_two_pow ha hb) h2)

/-- The state behind bytes. -/
def st (c : Nat) : List Int → Nat
  | [] => c
  | x :: xs => st (Tn 8 (c ^^^ x.toNat)) xs
theorem st_app (c : Nat) (xs ys : List Int) : st c (xs ++ ys) = st (st c xs) ys := by
  induction xs generalizing c with
  | nil => rfl
  | cons x xs ih => exact ih _
theorem st_lt (xs : List Int) : ∀ c, c < 2 ^ 32 → (∀ x ∈ xs, 0 ≤ x ∧ x < 256) → st c xs < 2 ^ 32 := by
  induction xs with
  | nil => intro c h _; exact h
  | cons x xs ih =>
    intro c h hx
    have := hx x (by simp)
    exact ih _ (Tn_lt 8 _ (Nat.xor_lt_two_pow h (by omega))) (fun y hy => hx y (by simp [hy]))
/-- Two states that differ part by the difference, moved on. -/
theorem st_xor (xs : List Int) : ∀ a d, st (a ^^^ d) xs = st a xs ^^^ Tn (8 * xs.length) d := by
  induction xs with
  | nil => intro a d; rfl
  | cons x xs ih =>
    intro a d
    have e : a ^^^ d ^^^ x.toNat = (a ^^^ x.toNat) ^^^ d := by ac_rfl
    rw [st, st, e, Tn_lin, ih, List.length_cons, show 8 * (xs.length + 1) = 8 + 8 * xs.length by omega, Tn_add]
/-- A number's bytes, the lowest first. -/
def le : Nat → Nat → List Int
  | 0, _ => []
  | n + 1, v => ((v % 256 : Nat) : Int) :: le n (v / 256)
theorem le_len (n : Nat) : ∀ v, (le n v).length = n := by
  induction n with
  | zero => intro v; rfl
  | succ n ih => intro v; simp [le, ih]
theorem le_bytes (n : Nat) : ∀ v, ∀ x ∈ le n v, 0 ≤ x ∧ x < 256 := by
  induction n with
  | zero => intro v x hx; simp [le] at hx
  | succ n ih =>
    intro v x hx
    rw [le] at hx
    rcases List.mem_cons.1 hx with rfl | hx
    · omega
    · exact ih _ x hx
theorem split256 (v : Nat) : v = (v % 256) ^^^ (v / 256 * 2 ^ 8) := by
  apply Nat.eq_of_testBit_eq
  intro i
  rw [Nat.testBit_xor, Nat.testBit_mul_two_pow, show (256 : Nat) = 2 ^ 8 from rfl, Nat.testBit_mod_two_pow, Nat.testBit_div_two_pow]
  by_cases h : i < 8
  · simp [h, show ¬ 8 ≤ i by omega]
  · have h8 : 8 ≤ i := by omega
    simp [h, h8]
theorem st_le (n : Nat) : ∀ c v, v < 2 ^ (8 * n) → st c (le n v) = Tn (8 * n) (c ^^^ v) := by
  induction n with
  | zero =>
    intro c v h
    have : v = 0 := by simpa using h
    subst this
    simp [le, st, Tn]
  | succ n ih =>
    intro c v h
    have hv : v / 256 < 2 ^ (8 * n) := by
      rw [show 8 * (n + 1) = 8 * n + 8 by omega, Nat.pow_add] at h
      omega
    rw [le, st, Int.toNat_natCast, ih _ _ hv, show 8 * (n + 1) = 8 + 8 * n by omega, Tn_add]
    have e : Tn 8 (c ^^^ v % 256) ^^^ v / 256 = Tn 8 (c ^^^ v) := by
      conv => rhs; rw [split256 v]
      rw [Tn_lin 8 c, Tn_lin 8 c, Tn_lin 8 (v % 256), Tn_shift, Nat.xor_assoc]
    rw [e]
/-- Any bytes are a number's. -/
theorem le_of (xs : List Int) (h : ∀ x ∈ xs, 0 ≤ x ∧ x < 256) : ∃ v, v < 2 ^ (8 * xs.length) ∧ le xs.length v = xs := by
  induction xs with
  | nil => exact ⟨0, by simp, rfl⟩
  | cons x xs ih =>
    obtain ⟨v, hv, he⟩ := ih (fun y hy => h y (by simp [hy]))
    have hx := h x (by simp)
    refine ⟨x.toNat + v * 256, ?_, ?_⟩
    · rw [List.length_cons, show 8 * (xs.length + 1) = 8 * xs.length + 8 by omega, Nat.pow_add]
      omega
    · rw [List.length_cons, le, show (x.toNat + v * 256) / 256 = v by omega, show (x.toNat + v * 256) % 256 = x.toNat by omega, he, Int.toNat_of_nonneg hx.1]
theorem le_inj (n : Nat) : ∀ a b, a < 2 ^ (8 * n) → b < 2 ^ (8 * n) → le n a = le n b → a = b := by
  induction n with
  | zero => intro a b ha hb _; simp at ha hb; omega
  | succ n ih =>
    intro a b ha hb h
    rw [show 8 * (n + 1) = 8 * n + 8 by omega, Nat.pow_add] at ha hb
    rw [le, le, List.cons.injEq] at h
    have h1 := h.1
    have h2 := ih (a / 256) (b / 256) (by omega) (by omega) h.2
    omega
theorem xor_mod256 (a b : Nat) : (a ^^^ b) % 256 = a % 256 ^^^ b % 256 := by
  rw [show (256 : Nat) = 2 ^ 8 from rfl]; exact Nat.xor_mod_two_pow
theorem xor_div256 (a b : Nat) : (a ^^^ b) / 256 = a / 256 ^^^ b / 256 := by
  rw [show (256 : Nat) = 2 ^ 8 from rfl]; exact Nat.xor_div_two_pow
/-- Bytes turned by others. -/
def turned (xs ys : List Int) : List Int := List.zipWith (fun x y => ((x.toNat ^^^ y.toNat : Nat) : Int)) xs ys
theorem le_xor (n : Nat) : ∀ a b, le n (a ^^^ b) = turned (le n a) (le n b) := by
  induction n with
  | zero => intro a b; rfl
  | succ n ih =>
    intro a b
    simp only [le, turned, List.zipWith_cons_cons, Int.toNat_natCast]
    rw [xor_mod256, xor_div256, ih]
    rfl

/-- The sum. -/
def sum (b : List Int) : Nat := st 4294967295 b ^^^ 4294967295
theorem sum_lt (b : List Int) (h : ∀ x ∈ b, 0 ≤ x ∧ x < 256) : sum b < 2 ^ 32 := Nat.xor_lt_two_pow (st_lt b _ (by decide) h) (by decide)
def frame (x : List Int) : List Int := (enc x.length ++ x) ++ le 4 (sum (enc x.length ++ x))
theorem frame_len (x : List Int) : (frame x).length = (enc x.length).length + x.length + 4 := by
  unfold frame
  rw [List.length_append, List.length_append, le_len]
theorem frame_bytes (x : List Int) (h : ∀ c ∈ x, 0 ≤ c ∧ c < 256) : ∀ c ∈ frame x, 0 ≤ c ∧ c < 256 := by
  intro c hc
  unfold frame at hc
  rcases List.mem_append.1 hc with hc | hc
  · rcases List.mem_append.1 hc with hc | hc
    · exact enc_bytes _ c hc
    · exact h c hc
  · exact le_bytes _ _ c hc
theorem body_bytes (x : List Int) (h : ∀ c ∈ x, 0 ≤ c ∧ c < 256) : ∀ c ∈ enc x.length ++ x, 0 ≤ c ∧ c < 256 := fun c hc => (List.mem_append.1 hc).elim (enc_bytes _ c) (h c)
/-- Behind a whole frame the state is always the same. -/
theorem st_frame (x : List Int) (h : ∀ c ∈ x, 0 ≤ c ∧ c < 256) : st 4294967295 (frame x) = Tn 32 4294967295 := by
  unfold frame
  rw [st_app, st_le 4 _ _ (sum_lt _ (body_bytes x h))]
  congr 1
  unfold sum
  rw [← Nat.xor_assoc, Nat.xor_self, Nat.zero_xor]
/-- The frame that bytes begin with. -/
def next (b : List Int) : List Int × Nat :=
  if (dec b 0 0).2 = 0 ∨ b.length < (dec b 0 0).1 ∨ b.length < (dec b 0 0).1 + (dec b 0 0).2 + 4 then ([], 0)
  else if frame ((b.take ((dec b 0 0).2 + (dec b 0 0).1)).drop (dec b 0 0).2) = b.take ((dec b 0 0).2 + (dec b 0 0).1 + 4) then
    ((b.take ((dec b 0 0).2 + (dec b 0 0).1)).drop (dec b 0 0).2, (dec b 0 0).2 + (dec b 0 0).1 + 4)
  else ([], 0)
theorem next_frame (x more : List Int) (hx : x.length < 18446744073709551616) : next (frame x ++ more) = (x, (frame x).length) := by
  have hd : dec (frame x ++ more) 0 0 = (x.length, (enc x.length).length) := by
    unfold frame
    rw [List.append_assoc, List.append_assoc, dec_enc _ 0 0 _ (by omega) (by simpa using hx) (.inr rfl)]
    simp
  have hl := frame_len x
  have hp := enc_pos x.length
  have hm : (frame x ++ more).length = (frame x).length + more.length := List.length_append
  have h1 : (frame x ++ more).take ((enc x.length).length + x.length) = enc x.length ++ x := by
    unfold frame
    rw [List.append_assoc, List.take_append_of_le_length (by rw [List.length_append]; omega), List.take_of_length_le (by rw [List.length_append]; omega)]
  have h2 : (frame x ++ more).take ((enc x.length).length + x.length + 4) = frame x := by
    rw [← hl, List.take_left]
  unfold next
  rw [hd]
  simp only
  rw [if_neg (by omega), h1, List.drop_left, h2, if_pos rfl, hl]
theorem next_some (b f : List Int) (n : Nat) (h : next b = (f, n)) : (n = 0 ∧ f = []) ∨ (5 ≤ n ∧ n ≤ b.length ∧ frame f = b.take n ∧ f.length < n) := by
  unfold next at h
  split at h
  · simp only [Prod.mk.injEq] at h
    exact .inl ⟨h.2.symm, h.1.symm⟩
  · rename_i h1
    split at h
    · rename_i h2
      simp only [Prod.mk.injEq] at h
      obtain ⟨rfl, rfl⟩ := h
      refine .inr ⟨by omega, by omega, h2, ?_⟩
      rw [List.length_drop, List.length_take]
      omega
    · simp only [Prod.mk.injEq] at h
      exact .inl ⟨h.2.symm, h.1.symm⟩
theorem next_short (b : List Int) (h : b.length ≤ 4) : next b = ([], 0) := by
  cases hn : next b with
  | mk f n =>
    rcases next_some b f n hn with ⟨rfl, rfl⟩ | ⟨h1, h2, _⟩
    · rfl
    · omega
theorem enc_cut (x y : Nat) (hx : x < 18446744073709551616) (hy : y < 18446744073709551616) (X Y : List Int) (h : enc x ++ X = enc y ++ Y) : x = y ∧ X = Y := by
  have h1 := dec_enc x 0 0 X (by omega) (by simpa using hx) (.inr rfl)
  have h2 := dec_enc y 0 0 Y (by omega) (by simpa using hy) (.inr rfl)
  rw [h, h2] at h1
  simp at h1
  have : x = y := h1.1.symm
  subst this
  exact ⟨rfl, List.append_cancel_left h⟩
/-- What begins a frame, and is shorter, begins with none. -/
theorem next_cut (x rest : List Int) (cut : Nat) (hx : x.length < 1000000000000) (hc : cut < (frame x).length) : next ((frame x ++ rest).take cut) = ([], 0) := by
  cases hn : next ((frame x ++ rest).take cut) with
  | mk f n =>
    rcases next_some _ f n hn with ⟨rfl, rfl⟩ | ⟨h1, h2, h3, h4⟩
    · rfl
    · exfalso
      have hl := frame_len x
      have hfl := frame_len f
      have hcl : ((frame x ++ rest).take cut).length = cut := by rw [List.length_take, List.length_append]; omega
      have hlen := enc_len10 x.length (by omega)
      rw [hcl] at h2
      rw [List.take_take, Nat.min_eq_left h2, List.take_append_of_le_length (by omega)] at h3
      have h5 : frame f ++ (frame x).drop n = frame x := by rw [h3, List.take_append_drop]
      have h6 : enc f.length ++ (f ++ le 4 (sum (enc f.length ++ f)) ++ (frame x).drop n) = enc x.length ++ (x ++ le 4 (sum (enc x.length ++ x))) := by
        generalize (frame x).drop n = r at h5 ⊢
        unfold frame at h5
        simpa [List.append_assoc] using h5
      obtain ⟨h7, _⟩ := enc_cut _ _ (by omega) (by omega) _ _ h6
      have h8 := congrArg List.length h3
      rw [List.length_take, hfl, h7] at h8
      omega
/-- Frames, one behind the other. -/
def frames (l : List (List Int)) : List Int := l.flatMap frame
theorem frames_cons (x : List Int) (l : List (List Int)) : frames (x :: l) = frame x ++ frames l := by simp [frames]
def split : Nat → List Int → List (List Int) × Nat
  | 0, _ => ([], 0)
  | k + 1, b => if (next b).2 = 0 then ([], 0) else ((next b).1 :: (split k (b.drop (next b).2)).1, (next b).2 + (split k (b.drop (next b).2)).2)
theorem split_frames (l : List (List Int)) (tail : List Int) (hl : ∀ x ∈ l, x.length < 18446744073709551616) (ht : (next tail).2 = 0) : ∀ k, l.length < k → split k (frames l ++ tail) = (l, (frames l).length) := by
  induction l with
  | nil =>
    intro k hk
    obtain ⟨k, rfl⟩ : ∃ m, k = m + 1 := ⟨k - 1, by omega⟩
    simp only [frames, List.flatMap_nil, List.nil_append]
    rw [split, if_pos ht]
    rfl
  | cons x l ih =>
    intro k hk
    obtain ⟨k, rfl⟩ : ∃ m, k = m + 1 := ⟨k - 1, by omega⟩
    rw [frames_cons, List.append_assoc, split, next_frame x _ (hl x (by simp))]
    have hp := frame_len x
    simp only
    rw [if_neg (by omega), List.drop_left, ih (fun y hy => hl y (by simp [hy])) k (by simp at hk; omega), List.length_append]
/-- How many of a list of frames end no later than a place, and where the last of them ends. -/
def whole : List (List Int) → Nat → Nat × Nat
  | [], _ => (0, 0)
  | x :: l, cut => if (frame x).length ≤ cut then ((whole l (cut - (frame x).length)).1 + 1, (frame x).length + (whole l (cut - (frame x).length)).2) else (0, 0)
theorem split_cut (l : List (List Int)) (hl : ∀ x ∈ l, x.length < 1000000000000) : ∀ cut k, l.length < k → split k ((frames l).take cut) = (l.take (whole l cut).1, (whole l cut).2) := by
  induction l with
  | nil =>
    intro cut k hk
    obtain ⟨k, rfl⟩ : ∃ m, k = m + 1 := ⟨k - 1, by omega⟩
    simp only [frames, List.flatMap_nil, List.take_nil, whole]
    rw [split, if_pos (by rw [next_short _ (by simp)])]
  | cons x l ih =>
    intro cut k hk
    obtain ⟨k, rfl⟩ : ∃ m, k = m + 1 := ⟨k - 1, by omega⟩
    have hx := hl x (by simp)
    have hp := frame_len x
    rw [frames_cons, whole]
    by_cases hc : (frame x).length ≤ cut
    · rw [if_pos hc, List.take_append, List.take_of_length_le hc, split, next_frame x _ (by omega)]
      simp only
      rw [if_neg (by omega), List.drop_left, ih (fun y hy => hl y (by simp [hy])) _ k (by simp at hk; omega)]
      rfl
    · rw [if_neg hc, split, next_cut x _ cut hx (by omega), if_pos rfl]
      rfl
/-- A frame of whose bytes behind the length up to four, side by side, were turned, is none. -/
theorem burst (x a u z : List Int) (turn : Nat) (hx : ∀ c ∈ x, 0 ≤ c ∧ c < 256) (hxl : x.length < 1000000000000) (ht : 0 < turn) (ht2 : turn < 2 ^ 32) (hf : frame x = a ++ u ++ z) (hu : u.length = 4) (ha : (enc x.length).length ≤ a.length) :
    next (a ++ turned u (le 4 turn) ++ z) = ([], 0) := by
  have hfb := frame_bytes x hx
  have hub : ∀ c ∈ u, 0 ≤ c ∧ c < 256 := fun c hc => hfb c (by rw [hf]; simp [hc])
  obtain ⟨U, hU, hUe⟩ := le_of u hub
  rw [hu] at hU hUe
  have hsame : turned u (le 4 turn) = le 4 (U ^^^ turn) := by rw [← hUe, le_xor]
  rw [hsame]
  have hUt : U ^^^ turn < 2 ^ (8 * 4) := Nat.xor_lt_two_pow hU ht2
  have hlen : (a ++ le 4 (U ^^^ turn) ++ z).length = (frame x).length := by
    rw [hf]; simp [le_len, hu]
  have hst : st 4294967295 (a ++ le 4 (U ^^^ turn) ++ z) = st 4294967295 (frame x) ^^^ Tn (8 * z.length) (Tn 32 turn) := by
    rw [hf, ← hUe, st_app, st_app, st_app, st_app, st_le 4 _ _ hUt, st_le 4 _ _ hU, ← st_xor]
    congr 1
    rw [← Tn_lin]
    congr 1
    ac_rfl
  -- the bytes of the length are as they were
  have hpre : ∃ r, a = enc x.length ++ r := by
    have h1 : (a ++ u ++ z).take (enc x.length).length = enc x.length := by
      rw [← hf]; unfold frame
      rw [List.append_assoc, List.take_left]
    rw [List.append_assoc, List.take_append_of_le_length ha] at h1
    exact ⟨a.drop (enc x.length).length, by
      conv => lhs; rw [← List.take_append_drop (enc x.length).length a]
      rw [h1]⟩
  obtain ⟨r, hr⟩ := hpre
  cases hn : next (a ++ le 4 (U ^^^ turn) ++ z) with
  | mk f n =>
    rcases next_some _ f n hn with ⟨rfl, rfl⟩ | ⟨h1, h2, h3, h4⟩
    · rfl
    · exfalso
      have hl10 := enc_len10 x.length (by omega)
      have hfl := frame_len f
      have hxf := frame_len x
      have hfb2 : f.length < 1000000001000 := by omega
      have h5 : enc f.length ++ (f ++ le 4 (sum (enc f.length ++ f)) ++ (a ++ le 4 (U ^^^ turn) ++ z).drop n) = enc x.length ++ (r ++ le 4 (U ^^^ turn) ++ z) := by
        have h6 : frame f ++ (a ++ le 4 (U ^^^ turn) ++ z).drop n = a ++ le 4 (U ^^^ turn) ++ z := by rw [h3, List.take_append_drop]
        conv at h6 => rhs; rw [hr]
        unfold frame at h6
        simpa [List.append_assoc, hr] using h6
      obtain ⟨h7, _⟩ := enc_cut _ _ (by omega) (by omega) _ _ h5
      have hn2 : n = (frame x).length := by
        have h8 := congrArg List.length h3
        rw [List.length_take, hfl, h7, hlen, ← hxf] at h8
        omega
      rw [hn2, ← hlen, List.take_length] at h3
      have hfby : ∀ c ∈ f, 0 ≤ c ∧ c < 256 := by
        intro c hc
        have h9 : c ∈ frame f := by unfold frame; simp [hc]
        rw [h3] at h9
        rcases List.mem_append.1 h9 with h9 | h9
        · rcases List.mem_append.1 h9 with h9 | h9
          · exact hfb c (by rw [hf]; simp [h9])
          · exact le_bytes _ _ c h9
        · exact hfb c (by rw [hf]; simp [h9])
      have h10 := st_frame f hfby
      rw [h3, hst, st_frame x hx] at h10
      have h11 : Tn (8 * z.length) (Tn 32 turn) = 0 := by
        have : Tn 32 4294967295 ^^^ (Tn 32 4294967295 ^^^ Tn (8 * z.length) (Tn 32 turn)) = Tn (8 * z.length) (Tn 32 turn) := by rw [← Nat.xor_assoc, Nat.xor_self, Nat.zero_xor]
        rw [← this, h10, Nat.xor_self]
      have h12 := Tn_zero 32 turn ht2 (Tn_zero _ _ (Tn_lt 32 _ ht2) h11)
      omega

end Go.Proofs.Ytmomfoedbkapfaa.Crc
