/- The small whole numbers as floats: what the model reckons with them. -/
import Derived.Laws.ComplexArith
import Derived.Test.YtnidcnmeonjjbaaLayDeed
namespace Go.Proofs.Ytnidcnmeonjjbaa.LayFloat
open Go.RowKit Go.Proofs.Ytnidcnmeonjjbaa.Kit Go.Proofs.Ytnidcnmeonjjbaa.Plain Go.Proofs.Ytnidcnmeonjjbaa.Mine Go.Proofs.YtnidcnmeonjjbaaW.PrintWords Go.Proofs.YtnidcnmeonjjbaaW.PrintLast Go.Proofs.YtnidcnmeonjjbaaW.PrintMore
set_option linter.unusedVariables false
set_option linter.unusedSimpArgs false
/-- A whole number's bits. -/
def fl (n : Nat) : Nat := floatOfInt .f64 (n : Int)
theorem fl_zero : fl 0 = 0 := by decide +kernel
theorem fl_one : fl 1 = 4607182418800017408 := by decide +kernel
theorem add0 : ∀ b : Fin 61, floatBits .add .f64 (fl 0) (fl b.val) = some (fl (0 + b.val)) := by decide +kernel
theorem sub0 : ∀ b : Fin 1, floatBits .sub .f64 (fl 0) (fl b.val) = some (fl (0 - b.val)) := by decide +kernel
theorem add1 : ∀ b : Fin 60, floatBits .add .f64 (fl 1) (fl b.val) = some (fl (1 + b.val)) := by decide +kernel
theorem sub1 : ∀ b : Fin 2, floatBits .sub .f64 (fl 1) (fl b.val) = some (fl (1 - b.val)) := by decide +kernel
theorem add2 : ∀ b : Fin 59, floatBits .add .f64 (fl 2) (fl b.val) = some (fl (2 + b.val)) := by decide +kernel
theorem sub2 : ∀ b : Fin 3, floatBits .sub .f64 (fl 2) (fl b.val) = some (fl (2 - b.val)) := by decide +kernel
theorem add3 : ∀ b : Fin 58, floatBits .add .f64 (fl 3) (fl b.val) = some (fl (3 + b.val)) := by decide +kernel
theorem sub3 : ∀ b : Fin 4, floatBits .sub .f64 (fl 3) (fl b.val) = some (fl (3 - b.val)) := by decide +kernel
theorem add4 : ∀ b : Fin 57, floatBits .add .f64 (fl 4) (fl b.val) = some (fl (4 + b.val)) := by decide +kernel
theorem sub4 : ∀ b : Fin 5, floatBits .sub .f64 (fl 4) (fl b.val) = some (fl (4 - b.val)) := by decide +kernel
theorem add5 : ∀ b : Fin 56, floatBits .add .f64 (fl 5) (fl b.val) = some (fl (5 + b.val)) := by decide +kernel
theorem sub5 : ∀ b : Fin 6, floatBits .sub .f64 (fl 5) (fl b.val) = some (fl (5 - b.val)) := by decide +kernel
theorem add6 : ∀ b : Fin 55, floatBits .add .f64 (fl 6) (fl b.val) = some (fl (6 + b.val)) := by decide +kernel
theorem sub6 : ∀ b : Fin 7, floatBits .sub .f64 (fl 6) (fl b.val) = some (fl (6 - b.val)) := by decide +kernel
theorem add7 : ∀ b : Fin 54, floatBits .add .f64 (fl 7) (fl b.val) = some (fl (7 + b.val)) := by decide +kernel
theorem sub7 : ∀ b : Fin 8, floatBits .sub .f64 (fl 7) (fl b.val) = some (fl (7 - b.val)) := by decide +kernel
theorem add8 : ∀ b : Fin 53, floatBits .add .f64 (fl 8) (fl b.val) = some (fl (8 + b.val)) := by decide +kernel
theorem sub8 : ∀ b : Fin 9, floatBits .sub .f64 (fl 8) (fl b.val) = some (fl (8 - b.val)) := by decide +kernel
theorem add9 : ∀ b : Fin 52, floatBits .add .f64 (fl 9) (fl b.val) = some (fl (9 + b.val)) := by decide +kernel
theorem sub9 : ∀ b : Fin 10, floatBits .sub .f64 (fl 9) (fl b.val) = some (fl (9 - b.val)) := by decide +kernel
theorem add10 : ∀ b : Fin 51, floatBits .add .f64 (fl 10) (fl b.val) = some (fl (10 + b.val)) := by decide +kernel
theorem sub10 : ∀ b : Fin 11, floatBits .sub .f64 (fl 10) (fl b.val) = some (fl (10 - b.val)) := by decide +kernel
theorem add11 : ∀ b : Fin 50, floatBits .add .f64 (fl 11) (fl b.val) = some (fl (11 + b.val)) := by decide +kernel
theorem sub11 : ∀ b : Fin 12, floatBits .sub .f64 (fl 11) (fl b.val) = some (fl (11 - b.val)) := by decide +kernel
theorem add12 : ∀ b : Fin 49, floatBits .add .f64 (fl 12) (fl b.val) = some (fl (12 + b.val)) := by decide +kernel
theorem sub12 : ∀ b : Fin 13, floatBits .sub .f64 (fl 12) (fl b.val) = some (fl (12 - b.val)) := by decide +kernel
theorem add13 : ∀ b : Fin 48, floatBits .add .f64 (fl 13) (fl b.val) = some (fl (13 + b.val)) := by decide +kernel
theorem sub13 : ∀ b : Fin 14, floatBits .sub .f64 (fl 13) (fl b.val) = some (fl (13 - b.val)) := by decide +kernel
theorem add14 : ∀ b : Fin 47, floatBits .add .f64 (fl 14) (fl b.val) = some (fl (14 + b.val)) := by decide +kernel
theorem sub14 : ∀ b : Fin 15, floatBits .sub .f64 (fl 14) (fl b.val) = some (fl (14 - b.val)) := by decide +kernel
theorem add15 : ∀ b : Fin 46, floatBits .add .f64 (fl 15) (fl b.val) = some (fl (15 + b.val)) := by decide +kernel
theorem sub15 : ∀ b : Fin 16, floatBits .sub .f64 (fl 15) (fl b.val) = some (fl (15 - b.val)) := by decide +kernel
theorem add16 : ∀ b : Fin 45, floatBits .add .f64 (fl 16) (fl b.val) = some (fl (16 + b.val)) := by decide +kernel
theorem sub16 : ∀ b : Fin 17, floatBits .sub .f64 (fl 16) (fl b.val) = some (fl (16 - b.val)) := by decide +kernel
theorem add17 : ∀ b : Fin 44, floatBits .add .f64 (fl 17) (fl b.val) = some (fl (17 + b.val)) := by decide +kernel
theorem sub17 : ∀ b : Fin 18, floatBits .sub .f64 (fl 17) (fl b.val) = some (fl (17 - b.val)) := by decide +kernel
theorem add18 : ∀ b : Fin 43, floatBits .add .f64 (fl 18) (fl b.val) = some (fl (18 + b.val)) := by decide +kernel
theorem sub18 : ∀ b : Fin 19, floatBits .sub .f64 (fl 18) (fl b.val) = some (fl (18 - b.val)) := by decide +kernel
theorem add19 : ∀ b : Fin 42, floatBits .add .f64 (fl 19) (fl b.val) = some (fl (19 + b.val)) := by decide +kernel
theorem sub19 : ∀ b : Fin 20, floatBits .sub .f64 (fl 19) (fl b.val) = some (fl (19 - b.val)) := by decide +kernel
theorem add20 : ∀ b : Fin 41, floatBits .add .f64 (fl 20) (fl b.val) = some (fl (20 + b.val)) := by decide +kernel
theorem sub20 : ∀ b : Fin 21, floatBits .sub .f64 (fl 20) (fl b.val) = some (fl (20 - b.val)) := by decide +kernel
theorem add21 : ∀ b : Fin 40, floatBits .add .f64 (fl 21) (fl b.val) = some (fl (21 + b.val)) := by decide +kernel
theorem sub21 : ∀ b : Fin 22, floatBits .sub .f64 (fl 21) (fl b.val) = some (fl (21 - b.val)) := by decide +kernel
theorem add22 : ∀ b : Fin 39, floatBits .add .f64 (fl 22) (fl b.val) = some (fl (22 + b.val)) := by decide +kernel
theorem sub22 : ∀ b : Fin 23, floatBits .sub .f64 (fl 22) (fl b.val) = some (fl (22 - b.val)) := by decide +kernel
theorem add23 : ∀ b : Fin 38, floatBits .add .f64 (fl 23) (fl b.val) = some (fl (23 + b.val)) := by decide +kernel
theorem sub23 : ∀ b : Fin 24, floatBits .sub .f64 (fl 23) (fl b.val) = some (fl (23 - b.val)) := by decide +kernel
theorem add24 : ∀ b : Fin 37, floatBits .add .f64 (fl 24) (fl b.val) = some (fl (24 + b.val)) := by decide +kernel
theorem sub24 : ∀ b : Fin 25, floatBits .sub .f64 (fl 24) (fl b.val) = some (fl (24 - b.val)) := by decide +kernel
theorem add25 : ∀ b : Fin 36, floatBits .add .f64 (fl 25) (fl b.val) = some (fl (25 + b.val)) := by decide +kernel
theorem sub25 : ∀ b : Fin 26, floatBits .sub .f64 (fl 25) (fl b.val) = some (fl (25 - b.val)) := by decide +kernel
theorem add26 : ∀ b : Fin 35, floatBits .add .f64 (fl 26) (fl b.val) = some (fl (26 + b.val)) := by decide +kernel
theorem sub26 : ∀ b : Fin 27, floatBits .sub .f64 (fl 26) (fl b.val) = some (fl (26 - b.val)) := by decide +kernel
theorem add27 : ∀ b : Fin 34, floatBits .add .f64 (fl 27) (fl b.val) = some (fl (27 + b.val)) := by decide +kernel
theorem sub27 : ∀ b : Fin 28, floatBits .sub .f64 (fl 27) (fl b.val) = some (fl (27 - b.val)) := by decide +kernel
theorem add28 : ∀ b : Fin 33, floatBits .add .f64 (fl 28) (fl b.val) = some (fl (28 + b.val)) := by decide +kernel
theorem sub28 : ∀ b : Fin 29, floatBits .sub .f64 (fl 28) (fl b.val) = some (fl (28 - b.val)) := by decide +kernel
theorem add29 : ∀ b : Fin 32, floatBits .add .f64 (fl 29) (fl b.val) = some (fl (29 + b.val)) := by decide +kernel
theorem sub29 : ∀ b : Fin 30, floatBits .sub .f64 (fl 29) (fl b.val) = some (fl (29 - b.val)) := by decide +kernel
theorem add30 : ∀ b : Fin 31, floatBits .add .f64 (fl 30) (fl b.val) = some (fl (30 + b.val)) := by decide +kernel
theorem sub30 : ∀ b : Fin 31, floatBits .sub .f64 (fl 30) (fl b.val) = some (fl (30 - b.val)) := by decide +kernel
theorem add31 : ∀ b : Fin 30, floatBits .add .f64 (fl 31) (fl b.val) = some (fl (31 + b.val)) := by decide +kernel
theorem sub31 : ∀ b : Fin 32, floatBits .sub .f64 (fl 31) (fl b.val) = some (fl (31 - b.val)) := by decide +kernel
theorem add32 : ∀ b : Fin 29, floatBits .add .f64 (fl 32) (fl b.val) = some (fl (32 + b.val)) := by decide +kernel
theorem sub32 : ∀ b : Fin 33, floatBits .sub .f64 (fl 32) (fl b.val) = some (fl (32 - b.val)) := by decide +kernel
theorem add33 : ∀ b : Fin 28, floatBits .add .f64 (fl 33) (fl b.val) = some (fl (33 + b.val)) := by decide +kernel
theorem sub33 : ∀ b : Fin 34, floatBits .sub .f64 (fl 33) (fl b.val) = some (fl (33 - b.val)) := by decide +kernel
theorem add34 : ∀ b : Fin 27, floatBits .add .f64 (fl 34) (fl b.val) = some (fl (34 + b.val)) := by decide +kernel
theorem sub34 : ∀ b : Fin 35, floatBits .sub .f64 (fl 34) (fl b.val) = some (fl (34 - b.val)) := by decide +kernel
theorem add35 : ∀ b : Fin 26, floatBits .add .f64 (fl 35) (fl b.val) = some (fl (35 + b.val)) := by decide +kernel
theorem sub35 : ∀ b : Fin 36, floatBits .sub .f64 (fl 35) (fl b.val) = some (fl (35 - b.val)) := by decide +kernel
theorem add36 : ∀ b : Fin 25, floatBits .add .f64 (fl 36) (fl b.val) = some (fl (36 + b.val)) := by decide +kernel
theorem sub36 : ∀ b : Fin 37, floatBits .sub .f64 (fl 36) (fl b.val) = some (fl (36 - b.val)) := by decide +kernel
theorem add37 : ∀ b : Fin 24, floatBits .add .f64 (fl 37) (fl b.val) = some (fl (37 + b.val)) := by decide +kernel
theorem sub37 : ∀ b : Fin 38, floatBits .sub .f64 (fl 37) (fl b.val) = some (fl (37 - b.val)) := by decide +kernel
theorem add38 : ∀ b : Fin 23, floatBits .add .f64 (fl 38) (fl b.val) = some (fl (38 + b.val)) := by decide +kernel
theorem sub38 : ∀ b : Fin 39, floatBits .sub .f64 (fl 38) (fl b.val) = some (fl (38 - b.val)) := by decide +kernel
theorem add39 : ∀ b : Fin 22, floatBits .add .f64 (fl 39) (fl b.val) = some (fl (39 + b.val)) := by decide +kernel
theorem sub39 : ∀ b : Fin 40, floatBits .sub .f64 (fl 39) (fl b.val) = some (fl (39 - b.val)) := by decide +kernel
theorem add40 : ∀ b : Fin 21, floatBits .add .f64 (fl 40) (fl b.val) = some (fl (40 + b.val)) := by decide +kernel
theorem sub40 : ∀ b : Fin 41, floatBits .sub .f64 (fl 40) (fl b.val) = some (fl (40 - b.val)) := by decide +kernel
theorem add41 : ∀ b : Fin 20, floatBits .add .f64 (fl 41) (fl b.val) = some (fl (41 + b.val)) := by decide +kernel
theorem sub41 : ∀ b : Fin 42, floatBits .sub .f64 (fl 41) (fl b.val) = some (fl (41 - b.val)) := by decide +kernel
theorem add42 : ∀ b : Fin 19, floatBits .add .f64 (fl 42) (fl b.val) = some (fl (42 + b.val)) := by decide +kernel
theorem sub42 : ∀ b : Fin 43, floatBits .sub .f64 (fl 42) (fl b.val) = some (fl (42 - b.val)) := by decide +kernel
theorem add43 : ∀ b : Fin 18, floatBits .add .f64 (fl 43) (fl b.val) = some (fl (43 + b.val)) := by decide +kernel
theorem sub43 : ∀ b : Fin 44, floatBits .sub .f64 (fl 43) (fl b.val) = some (fl (43 - b.val)) := by decide +kernel
theorem add44 : ∀ b : Fin 17, floatBits .add .f64 (fl 44) (fl b.val) = some (fl (44 + b.val)) := by decide +kernel
theorem sub44 : ∀ b : Fin 45, floatBits .sub .f64 (fl 44) (fl b.val) = some (fl (44 - b.val)) := by decide +kernel
theorem add45 : ∀ b : Fin 16, floatBits .add .f64 (fl 45) (fl b.val) = some (fl (45 + b.val)) := by decide +kernel
theorem sub45 : ∀ b : Fin 46, floatBits .sub .f64 (fl 45) (fl b.val) = some (fl (45 - b.val)) := by decide +kernel
theorem add46 : ∀ b : Fin 15, floatBits .add .f64 (fl 46) (fl b.val) = some (fl (46 + b.val)) := by decide +kernel
theorem sub46 : ∀ b : Fin 47, floatBits .sub .f64 (fl 46) (fl b.val) = some (fl (46 - b.val)) := by decide +kernel
theorem add47 : ∀ b : Fin 14, floatBits .add .f64 (fl 47) (fl b.val) = some (fl (47 + b.val)) := by decide +kernel
theorem sub47 : ∀ b : Fin 48, floatBits .sub .f64 (fl 47) (fl b.val) = some (fl (47 - b.val)) := by decide +kernel
theorem add48 : ∀ b : Fin 13, floatBits .add .f64 (fl 48) (fl b.val) = some (fl (48 + b.val)) := by decide +kernel
theorem sub48 : ∀ b : Fin 49, floatBits .sub .f64 (fl 48) (fl b.val) = some (fl (48 - b.val)) := by decide +kernel
theorem add49 : ∀ b : Fin 12, floatBits .add .f64 (fl 49) (fl b.val) = some (fl (49 + b.val)) := by decide +kernel
theorem sub49 : ∀ b : Fin 50, floatBits .sub .f64 (fl 49) (fl b.val) = some (fl (49 - b.val)) := by decide +kernel
theorem add50 : ∀ b : Fin 11, floatBits .add .f64 (fl 50) (fl b.val) = some (fl (50 + b.val)) := by decide +kernel
theorem sub50 : ∀ b : Fin 51, floatBits .sub .f64 (fl 50) (fl b.val) = some (fl (50 - b.val)) := by decide +kernel
theorem add51 : ∀ b : Fin 10, floatBits .add .f64 (fl 51) (fl b.val) = some (fl (51 + b.val)) := by decide +kernel
theorem sub51 : ∀ b : Fin 52, floatBits .sub .f64 (fl 51) (fl b.val) = some (fl (51 - b.val)) := by decide +kernel
theorem add52 : ∀ b : Fin 9, floatBits .add .f64 (fl 52) (fl b.val) = some (fl (52 + b.val)) := by decide +kernel
theorem sub52 : ∀ b : Fin 53, floatBits .sub .f64 (fl 52) (fl b.val) = some (fl (52 - b.val)) := by decide +kernel
theorem add53 : ∀ b : Fin 8, floatBits .add .f64 (fl 53) (fl b.val) = some (fl (53 + b.val)) := by decide +kernel
theorem sub53 : ∀ b : Fin 54, floatBits .sub .f64 (fl 53) (fl b.val) = some (fl (53 - b.val)) := by decide +kernel
theorem add54 : ∀ b : Fin 7, floatBits .add .f64 (fl 54) (fl b.val) = some (fl (54 + b.val)) := by decide +kernel
theorem sub54 : ∀ b : Fin 55, floatBits .sub .f64 (fl 54) (fl b.val) = some (fl (54 - b.val)) := by decide +kernel
theorem add55 : ∀ b : Fin 6, floatBits .add .f64 (fl 55) (fl b.val) = some (fl (55 + b.val)) := by decide +kernel
theorem sub55 : ∀ b : Fin 56, floatBits .sub .f64 (fl 55) (fl b.val) = some (fl (55 - b.val)) := by decide +kernel
theorem add56 : ∀ b : Fin 5, floatBits .add .f64 (fl 56) (fl b.val) = some (fl (56 + b.val)) := by decide +kernel
theorem sub56 : ∀ b : Fin 57, floatBits .sub .f64 (fl 56) (fl b.val) = some (fl (56 - b.val)) := by decide +kernel
theorem add57 : ∀ b : Fin 4, floatBits .add .f64 (fl 57) (fl b.val) = some (fl (57 + b.val)) := by decide +kernel
theorem sub57 : ∀ b : Fin 58, floatBits .sub .f64 (fl 57) (fl b.val) = some (fl (57 - b.val)) := by decide +kernel
theorem add58 : ∀ b : Fin 3, floatBits .add .f64 (fl 58) (fl b.val) = some (fl (58 + b.val)) := by decide +kernel
theorem sub58 : ∀ b : Fin 59, floatBits .sub .f64 (fl 58) (fl b.val) = some (fl (58 - b.val)) := by decide +kernel
theorem add59 : ∀ b : Fin 2, floatBits .add .f64 (fl 59) (fl b.val) = some (fl (59 + b.val)) := by decide +kernel
theorem sub59 : ∀ b : Fin 60, floatBits .sub .f64 (fl 59) (fl b.val) = some (fl (59 - b.val)) := by decide +kernel
theorem add60 : ∀ b : Fin 1, floatBits .add .f64 (fl 60) (fl b.val) = some (fl (60 + b.val)) := by decide +kernel
theorem sub60 : ∀ b : Fin 61, floatBits .sub .f64 (fl 60) (fl b.val) = some (fl (60 - b.val)) := by decide +kernel
theorem add_fl : ∀ (a b : Nat), a + b ≤ 60 → floatBits .add .f64 (fl a) (fl b) = some (fl (a + b))
  | 0, b, h => add0 ⟨b, by omega⟩
  | 1, b, h => add1 ⟨b, by omega⟩
  | 2, b, h => add2 ⟨b, by omega⟩
  | 3, b, h => add3 ⟨b, by omega⟩
  | 4, b, h => add4 ⟨b, by omega⟩
  | 5, b, h => add5 ⟨b, by omega⟩
  | 6, b, h => add6 ⟨b, by omega⟩
  | 7, b, h => add7 ⟨b, by omega⟩
  | 8, b, h => add8 ⟨b, by omega⟩
  | 9, b, h => add9 ⟨b, by omega⟩
  | 10, b, h => add10 ⟨b, by omega⟩
  | 11, b, h => add11 ⟨b, by omega⟩
  | 12, b, h => add12 ⟨b, by omega⟩
  | 13, b, h => add13 ⟨b, by omega⟩
  | 14, b, h => add14 ⟨b, by omega⟩
  | 15, b, h => add15 ⟨b, by omega⟩
  | 16, b, h => add16 ⟨b, by omega⟩
  | 17, b, h => add17 ⟨b, by omega⟩
  | 18, b, h => add18 ⟨b, by omega⟩
  | 19, b, h => add19 ⟨b, by omega⟩
  | 20, b, h => add20 ⟨b, by omega⟩
  | 21, b, h => add21 ⟨b, by omega⟩
  | 22, b, h => add22 ⟨b, by omega⟩
  | 23, b, h => add23 ⟨b, by omega⟩
  | 24, b, h => add24 ⟨b, by omega⟩
  | 25, b, h => add25 ⟨b, by omega⟩
  | 26, b, h => add26 ⟨b, by omega⟩
  | 27, b, h => add27 ⟨b, by omega⟩
  | 28, b, h => add28 ⟨b, by omega⟩
  | 29, b, h => add29 ⟨b, by omega⟩
  | 30, b, h => add30 ⟨b, by omega⟩
  | 31, b, h => add31 ⟨b, by omega⟩
  | 32, b, h => add32 ⟨b, by omega⟩
  | 33, b, h => add33 ⟨b, by omega⟩
  | 34, b, h => add34 ⟨b, by omega⟩
  | 35, b, h => add35 ⟨b, by omega⟩
  | 36, b, h => add36 ⟨b, by omega⟩
  | 37, b, h => add37 ⟨b, by omega⟩
  | 38, b, h => add38 ⟨b, by omega⟩
  | 39, b, h => add39 ⟨b, by omega⟩
  | 40, b, h => add40 ⟨b, by omega⟩
  | 41, b, h => add41 ⟨b, by omega⟩
  | 42, b, h => add42 ⟨b, by omega⟩
  | 43, b, h => add43 ⟨b, by omega⟩
  | 44, b, h => add44 ⟨b, by omega⟩
  | 45, b, h => add45 ⟨b, by omega⟩
  | 46, b, h => add46 ⟨b, by omega⟩
  | 47, b, h => add47 ⟨b, by omega⟩
  | 48, b, h => add48 ⟨b, by omega⟩
  | 49, b, h => add49 ⟨b, by omega⟩
  | 50, b, h => add50 ⟨b, by omega⟩
  | 51, b, h => add51 ⟨b, by omega⟩
  | 52, b, h => add52 ⟨b, by omega⟩
  | 53, b, h => add53 ⟨b, by omega⟩
  | 54, b, h => add54 ⟨b, by omega⟩
  | 55, b, h => add55 ⟨b, by omega⟩
  | 56, b, h => add56 ⟨b, by omega⟩
  | 57, b, h => add57 ⟨b, by omega⟩
  | 58, b, h => add58 ⟨b, by omega⟩
  | 59, b, h => add59 ⟨b, by omega⟩
  | 60, b, h => add60 ⟨b, by omega⟩
  | n + 61, b, h => absurd h (by omega)
theorem sub_fl : ∀ (a b : Nat), b ≤ a → a ≤ 60 → floatBits .sub .f64 (fl a) (fl b) = some (fl (a - b))
  | 0, b, h, _ => sub0 ⟨b, by omega⟩
  | 1, b, h, _ => sub1 ⟨b, by omega⟩
  | 2, b, h, _ => sub2 ⟨b, by omega⟩
  | 3, b, h, _ => sub3 ⟨b, by omega⟩
  | 4, b, h, _ => sub4 ⟨b, by omega⟩
  | 5, b, h, _ => sub5 ⟨b, by omega⟩
  | 6, b, h, _ => sub6 ⟨b, by omega⟩
  | 7, b, h, _ => sub7 ⟨b, by omega⟩
  | 8, b, h, _ => sub8 ⟨b, by omega⟩
  | 9, b, h, _ => sub9 ⟨b, by omega⟩
  | 10, b, h, _ => sub10 ⟨b, by omega⟩
  | 11, b, h, _ => sub11 ⟨b, by omega⟩
  | 12, b, h, _ => sub12 ⟨b, by omega⟩
  | 13, b, h, _ => sub13 ⟨b, by omega⟩
  | 14, b, h, _ => sub14 ⟨b, by omega⟩
  | 15, b, h, _ => sub15 ⟨b, by omega⟩
  | 16, b, h, _ => sub16 ⟨b, by omega⟩
  | 17, b, h, _ => sub17 ⟨b, by omega⟩
  | 18, b, h, _ => sub18 ⟨b, by omega⟩
  | 19, b, h, _ => sub19 ⟨b, by omega⟩
  | 20, b, h, _ => sub20 ⟨b, by omega⟩
  | 21, b, h, _ => sub21 ⟨b, by omega⟩
  | 22, b, h, _ => sub22 ⟨b, by omega⟩
  | 23, b, h, _ => sub23 ⟨b, by omega⟩
  | 24, b, h, _ => sub24 ⟨b, by omega⟩
  | 25, b, h, _ => sub25 ⟨b, by omega⟩
  | 26, b, h, _ => sub26 ⟨b, by omega⟩
  | 27, b, h, _ => sub27 ⟨b, by omega⟩
  | 28, b, h, _ => sub28 ⟨b, by omega⟩
  | 29, b, h, _ => sub29 ⟨b, by omega⟩
  | 30, b, h, _ => sub30 ⟨b, by omega⟩
  | 31, b, h, _ => sub31 ⟨b, by omega⟩
  | 32, b, h, _ => sub32 ⟨b, by omega⟩
  | 33, b, h, _ => sub33 ⟨b, by omega⟩
  | 34, b, h, _ => sub34 ⟨b, by omega⟩
  | 35, b, h, _ => sub35 ⟨b, by omega⟩
  | 36, b, h, _ => sub36 ⟨b, by omega⟩
  | 37, b, h, _ => sub37 ⟨b, by omega⟩
  | 38, b, h, _ => sub38 ⟨b, by omega⟩
  | 39, b, h, _ => sub39 ⟨b, by omega⟩
  | 40, b, h, _ => sub40 ⟨b, by omega⟩
  | 41, b, h, _ => sub41 ⟨b, by omega⟩
  | 42, b, h, _ => sub42 ⟨b, by omega⟩
  | 43, b, h, _ => sub43 ⟨b, by omega⟩
  | 44, b, h, _ => sub44 ⟨b, by omega⟩
  | 45, b, h, _ => sub45 ⟨b, by omega⟩
  | 46, b, h, _ => sub46 ⟨b, by omega⟩
  | 47, b, h, _ => sub47 ⟨b, by omega⟩
  | 48, b, h, _ => sub48 ⟨b, by omega⟩
  | 49, b, h, _ => sub49 ⟨b, by omega⟩
  | 50, b, h, _ => sub50 ⟨b, by omega⟩
  | 51, b, h, _ => sub51 ⟨b, by omega⟩
  | 52, b, h, _ => sub52 ⟨b, by omega⟩
  | 53, b, h, _ => sub53 ⟨b, by omega⟩
  | 54, b, h, _ => sub54 ⟨b, by omega⟩
  | 55, b, h, _ => sub55 ⟨b, by omega⟩
  | 56, b, h, _ => sub56 ⟨b, by omega⟩
  | 57, b, h, _ => sub57 ⟨b, by omega⟩
  | 58, b, h, _ => sub58 ⟨b, by omega⟩
  | 59, b, h, _ => sub59 ⟨b, by omega⟩
  | 60, b, h, _ => sub60 ⟨b, by omega⟩
  | n + 61, b, _, h => absurd h (by omega)
theorem int_tab : ∀ a : Fin 61, floatToIntVal .f64 (fl a.val) .i64 = some (a.val : Int) := by decide +kernel
theorem int_fl (a : Nat) (h : a ≤ 60) : floatToIntVal .f64 (fl a) .i64 = some (a : Int) := int_tab ⟨a, by omega⟩
theorem ord_tab : ∀ a : Fin 61, FloatKind.f64.format.order (fl a.val) (fl 1) = some (if a.val < 1 then .lt else if a.val = 1 then .eq else .gt) := by decide +kernel
theorem neg_one : (FloatKind.f64.decode (fl 1)).neg = false := by decide +kernel
section
variable (w : World)
theorem run_add (t : TypeId) (a b : Nat) (h : a + b ≤ 60) : (binOp .add t (.float .f64 (fl a)) (.float .f64 (fl b))).run Try.prog w = .ok (.float .f64 (fl (a + b))) w :=
  run_float_arith w .add t .f64 _ _ _ (add_fl a b h)
theorem run_sub (t : TypeId) (a b : Nat) (h : b ≤ a) (h2 : a ≤ 60) : (binOp .sub t (.float .f64 (fl a)) (.float .f64 (fl b))).run Try.prog w = .ok (.float .f64 (fl (a - b))) w :=
  run_float_arith w .sub t .f64 _ _ _ (sub_fl a b h h2)
theorem run_cadd (t : TypeId) (a b c d : Nat) (h : a + c ≤ 60) (h2 : b + d ≤ 60) : (binOp .add t (.complex .f64 (fl a) (fl b)) (.complex .f64 (fl c) (fl d))).run Try.prog w = .ok (.complex .f64 (fl (a + c)) (fl (b + d))) w :=
  run_complex_sum w .add (.inl rfl) t .f64 _ _ _ _ _ _ (by rw [cSumBits, add_fl a c h, add_fl b d h2]; rfl)
theorem run_int (a : Nat) (h : a ≤ 60) : (convert 72 3 (.float .f64 (fl a))).run Try.prog w = .ok (.int .i64 (a : Int)) w :=
  run_convert_float_int w _ _ .f64 .i64 _ _ (by rw [Try.underlying72]; rfl) Try.underlying3 (int_fl a h)
theorem run_fl (a : Nat) : (convert 3 72 (.int .i64 (a : Int))).run Try.prog w = .ok (.float .f64 (fl a)) w :=
  run_convert_int_float w _ _ .i64 .f64 _ (by rw [Try.underlying3]; rfl) Try.underlying72
theorem run_min (ts : Array TypeId) (t : TypeId) (a : Nat) (h : a ≤ 60) : (Builtin.min_ ts t #[.float .f64 (fl a), .float .f64 4607182418800017408]).run Try.prog w = .ok (.float .f64 (fl (min a 1))) w := by
  have ho := ord_tab ⟨a, by omega⟩
  dsimp only at ho
  have hn := neg_one
  rw [fl_one] at ho hn
  by_cases h0 : a < 1
  · rw [if_pos h0] at ho
    rw [Nat.min_eq_left (by omega)]
    simp [Builtin.min_, Builtin.min2, ho]
  · rw [if_neg h0] at ho
    rw [Nat.min_eq_right (by omega), fl_one]
    by_cases h1 : a = 1
    · rw [if_pos h1] at ho
      subst h1
      rw [fl_one] at ho ⊢
      simp [Builtin.min_, Builtin.min2, ho, hn]
    · rw [if_neg h1] at ho
      simp [Builtin.min_, Builtin.min2, ho]
end
end Go.Proofs.Ytnidcnmeonjjbaa.LayFloat
