/- Part 4 of a proof: walks of the program in a small memory, plain lemmas. -/
import Derived.Test.YthnmdhfbbbfleaaGreatDoorProg
import Derived.KernelRfl
import Derived.Attr
import Derived.Test.YthnmdhfbbbfleaaGreatDoorU1
set_option linter.all false
/- The facts about the types of the program that a ghost walk asks for. Printed by gentypes.py. -/
namespace Go.Proofs.Gh
open Go Go.Proofs
set_option maxRecDepth 10000
@[go_sem] theorem ty_tk1 : tk Tryz.prog 1 = some (false, 1) := by kernel_rfl
@[go_sem] theorem ty_zk1 : zk Tryz.prog 1 = some #[.nilFunc] := by kernel_rfl
@[go_sem] theorem ty_nk1 : nk Tryz.prog 1 = 4 := by kernel_rfl
@[go_sem] theorem ty_tk2 : tk Tryz.prog 2 = some (false, 1) := by kernel_rfl
@[go_sem] theorem ty_zk2 : zk Tryz.prog 2 = some #[.int .i64 0] := by kernel_rfl
@[go_sem] theorem ty_tk3 : tk Tryz.prog 3 = some (false, 1) := by kernel_rfl
@[go_sem] theorem ty_zk3 : zk Tryz.prog 3 = some #[.int .i64 0] := by kernel_rfl
@[go_sem] theorem ty_tk4 : tk Tryz.prog 4 = some (false, 1) := by kernel_rfl
@[go_sem] theorem ty_zk4 : zk Tryz.prog 4 = some #[.bool false] := by kernel_rfl
@[go_sem] theorem ty_nk4 : nk Tryz.prog 4 = 1 := by kernel_rfl
@[go_sem] theorem ty_tk5 : tk Tryz.prog 5 = some (false, 1) := by kernel_rfl
@[go_sem] theorem ty_zk5 : zk Tryz.prog 5 = some #[.int .u8 0] := by kernel_rfl
@[go_sem] theorem ty_tk6 : tk Tryz.prog 6 = some (false, 1) := by kernel_rfl
@[go_sem] theorem ty_zk6 : zk Tryz.prog 6 = some #[.int .u8 0] := by kernel_rfl
@[go_sem] theorem ty_tk7 : tk Tryz.prog 7 = some (true, 4) := by kernel_rfl
@[go_sem] theorem ty_zk7 : zk Tryz.prog 7 = some #[.int .i64 0, .int .i64 0, .bool false, .int .u8 0] := by kernel_rfl
@[go_sem] theorem ty_fk7_0 : fk Tryz.prog 7 0 = some (0, 2) := by kernel_rfl
@[go_sem] theorem ty_fk7_1 : fk Tryz.prog 7 1 = some (1, 3) := by kernel_rfl
@[go_sem] theorem ty_fk7_2 : fk Tryz.prog 7 2 = some (2, 4) := by kernel_rfl
@[go_sem] theorem ty_fk7_3 : fk Tryz.prog 7 3 = some (3, 6) := by kernel_rfl
@[go_sem] theorem ty_bk7 : bk Tryz.prog 7 = some ([.int .i64 0, .int .i64 0, .bool false, .int .u8 0], [(0, 1), (1, 1), (2, 1), (3, 1)]) := by kernel_rfl
@[go_sem] theorem ty_tk8 : tk Tryz.prog 8 = some (true, 4) := by kernel_rfl
@[go_sem] theorem ty_zk8 : zk Tryz.prog 8 = some #[.int .i64 0, .int .i64 0, .bool false, .int .u8 0] := by kernel_rfl
@[go_sem] theorem ty_fk8_0 : fk Tryz.prog 8 0 = some (0, 2) := by kernel_rfl
@[go_sem] theorem ty_fk8_1 : fk Tryz.prog 8 1 = some (1, 3) := by kernel_rfl
@[go_sem] theorem ty_fk8_2 : fk Tryz.prog 8 2 = some (2, 4) := by kernel_rfl
@[go_sem] theorem ty_fk8_3 : fk Tryz.prog 8 3 = some (3, 6) := by kernel_rfl
@[go_sem] theorem ty_bk8 : bk Tryz.prog 8 = some ([.int .i64 0, .int .i64 0, .bool false, .int .u8 0], [(0, 1), (1, 1), (2, 1), (3, 1)]) := by kernel_rfl
@[go_sem] theorem ty_tk9 : tk Tryz.prog 9 = some (false, 1) := by kernel_rfl
@[go_sem] theorem ty_zk9 : zk Tryz.prog 9 = some #[.string ⟨#[]⟩] := by kernel_rfl
@[go_sem] theorem ty_tk10 : tk Tryz.prog 10 = some (false, 1) := by kernel_rfl
@[go_sem] theorem ty_zk10 : zk Tryz.prog 10 = some #[.string ⟨#[]⟩] := by kernel_rfl
@[go_sem] theorem ty_tk11 : tk Tryz.prog 11 = some (false, 1) := by kernel_rfl
@[go_sem] theorem ty_zk11 : zk Tryz.prog 11 = some #[.string ⟨#[]⟩] := by kernel_rfl
@[go_sem] theorem ty_tk12 : tk Tryz.prog 12 = some (false, 1) := by kernel_rfl
@[go_sem] theorem ty_zk12 : zk Tryz.prog 12 = some #[.int .u64 0] := by kernel_rfl
@[go_sem] theorem ty_tk13 : tk Tryz.prog 13 = some (true, 2) := by kernel_rfl
@[go_sem] theorem ty_zk13 : zk Tryz.prog 13 = some #[.string ⟨#[]⟩, .int .u64 0] := by kernel_rfl
@[go_sem] theorem ty_fk13_0 : fk Tryz.prog 13 0 = some (0, 9) := by kernel_rfl
@[go_sem] theorem ty_fk13_1 : fk Tryz.prog 13 1 = some (1, 12) := by kernel_rfl
@[go_sem] theorem ty_bk13 : bk Tryz.prog 13 = some ([.string ⟨#[]⟩, .int .u64 0], [(0, 1), (1, 1)]) := by kernel_rfl
@[go_sem] theorem ty_tk14 : tk Tryz.prog 14 = some (true, 2) := by kernel_rfl
@[go_sem] theorem ty_zk14 : zk Tryz.prog 14 = some #[.string ⟨#[]⟩, .int .u64 0] := by kernel_rfl
@[go_sem] theorem ty_fk14_0 : fk Tryz.prog 14 0 = some (0, 9) := by kernel_rfl
@[go_sem] theorem ty_fk14_1 : fk Tryz.prog 14 1 = some (1, 12) := by kernel_rfl
@[go_sem] theorem ty_bk14 : bk Tryz.prog 14 = some ([.string ⟨#[]⟩, .int .u64 0], [(0, 1), (1, 1)]) := by kernel_rfl
@[go_sem] theorem ty_tk15 : tk Tryz.prog 15 = some (false, 1) := by kernel_rfl
@[go_sem] theorem ty_zk15 : zk Tryz.prog 15 = some #[.pointer none] := by kernel_rfl
@[go_sem] theorem ty_nk15 : nk Tryz.prog 15 = 2 := by kernel_rfl
@[go_sem] theorem ty_tk16 : tk Tryz.prog 16 = some (false, 1) := by kernel_rfl
@[go_sem] theorem ty_zk16 : zk Tryz.prog 16 = some #[.pointer none] := by kernel_rfl
@[go_sem] theorem ty_nk16 : nk Tryz.prog 16 = 2 := by kernel_rfl
@[go_sem] theorem ty_tk17 : tk Tryz.prog 17 = some (false, 1) := by kernel_rfl
@[go_sem] theorem ty_zk17 : zk Tryz.prog 17 = some #[.pointer none] := by kernel_rfl
@[go_sem] theorem ty_nk17 : nk Tryz.prog 17 = 2 := by kernel_rfl
@[go_sem] theorem ty_tk18 : tk Tryz.prog 18 = some (true, 1) := by kernel_rfl
@[go_sem] theorem ty_zk18 : zk Tryz.prog 18 = some #[.pointer none] := by kernel_rfl
@[go_sem] theorem ty_fk18_0 : fk Tryz.prog 18 0 = some (0, 17) := by kernel_rfl
@[go_sem] theorem ty_bk18 : bk Tryz.prog 18 = some ([.pointer none], [(0, 1)]) := by kernel_rfl
@[go_sem] theorem ty_tk19 : tk Tryz.prog 19 = some (true, 1) := by kernel_rfl
@[go_sem] theorem ty_zk19 : zk Tryz.prog 19 = some #[.pointer none] := by kernel_rfl
@[go_sem] theorem ty_fk19_0 : fk Tryz.prog 19 0 = some (0, 17) := by kernel_rfl
@[go_sem] theorem ty_bk19 : bk Tryz.prog 19 = some ([.pointer none], [(0, 1)]) := by kernel_rfl
@[go_sem] theorem ty_tk20 : tk Tryz.prog 20 = some (false, 1) := by kernel_rfl
@[go_sem] theorem ty_zk20 : zk Tryz.prog 20 = some #[.nilIface] := by kernel_rfl
@[go_sem] theorem ty_nk20 : nk Tryz.prog 20 = 5 := by kernel_rfl
@[go_sem] theorem ty_tk21 : tk Tryz.prog 21 = some (false, 1) := by kernel_rfl
@[go_sem] theorem ty_zk21 : zk Tryz.prog 21 = some #[.int .i32 0] := by kernel_rfl
@[go_sem] theorem ty_tk22 : tk Tryz.prog 22 = some (false, 1) := by kernel_rfl
@[go_sem] theorem ty_zk22 : zk Tryz.prog 22 = some #[.int .i8 0] := by kernel_rfl
@[go_sem] theorem ty_ak23 : ak Tryz.prog 23 = some (3, 22) := by kernel_rfl
@[go_sem] theorem ty_tk23 : tk Tryz.prog 23 = some (true, 3) := by kernel_rfl
@[go_sem] theorem ty_zk23 : zk Tryz.prog 23 = some #[.int .i8 0, .int .i8 0, .int .i8 0] := by kernel_rfl
@[go_sem] theorem ty_ak24 : ak Tryz.prog 24 = some (8, 23) := by kernel_rfl
@[go_sem] theorem ty_tk24 : tk Tryz.prog 24 = some (true, 24) := by kernel_rfl
@[go_sem] theorem ty_zk24 : zk Tryz.prog 24 = some #[.int .i8 0, .int .i8 0, .int .i8 0, .int .i8 0, .int .i8 0, .int .i8 0, .int .i8 0, .int .i8 0, .int .i8 0, .int .i8 0, .int .i8 0, .int .i8 0, .int .i8 0, .int .i8 0, .int .i8 0, .int .i8 0, .int .i8 0, .int .i8 0, .int .i8 0, .int .i8 0, .int .i8 0, .int .i8 0, .int .i8 0, .int .i8 0] := by kernel_rfl
@[go_sem] theorem ty_tk25 : tk Tryz.prog 25 = some (true, 27) := by kernel_rfl
@[go_sem] theorem ty_zk25 : zk Tryz.prog 25 = some #[.bool false, .int .u8 0, .int .u8 0, .int .i8 0, .int .i8 0, .int .i8 0, .int .i8 0, .int .i8 0, .int .i8 0, .int .i8 0, .int .i8 0, .int .i8 0, .int .i8 0, .int .i8 0, .int .i8 0, .int .i8 0, .int .i8 0, .int .i8 0, .int .i8 0, .int .i8 0, .int .i8 0, .int .i8 0, .int .i8 0, .int .i8 0, .int .i8 0, .int .i8 0, .int .i8 0] := by kernel_rfl
@[go_sem] theorem ty_fk25_0 : fk Tryz.prog 25 0 = some (0, 4) := by kernel_rfl
@[go_sem] theorem ty_fk25_1 : fk Tryz.prog 25 1 = some (1, 5) := by kernel_rfl
@[go_sem] theorem ty_fk25_2 : fk Tryz.prog 25 2 = some (2, 5) := by kernel_rfl
@[go_sem] theorem ty_fk25_3 : fk Tryz.prog 25 3 = some (3, 24) := by kernel_rfl
@[go_sem] theorem ty_bk25 : bk Tryz.prog 25 = some ([.bool false, .int .u8 0, .int .u8 0, .int .i8 0, .int .i8 0, .int .i8 0, .int .i8 0, .int .i8 0, .int .i8 0, .int .i8 0, .int .i8 0, .int .i8 0, .int .i8 0, .int .i8 0, .int .i8 0, .int .i8 0, .int .i8 0, .int .i8 0, .int .i8 0, .int .i8 0, .int .i8 0, .int .i8 0, .int .i8 0, .int .i8 0, .int .i8 0, .int .i8 0, .int .i8 0], [(0, 1), (1, 1), (2, 1), (3, 24)]) := by kernel_rfl
@[go_sem] theorem ty_tk26 : tk Tryz.prog 26 = some (true, 27) := by kernel_rfl
@[go_sem] theorem ty_zk26 : zk Tryz.prog 26 = some #[.bool false, .int .u8 0, .int .u8 0, .int .i8 0, .int .i8 0, .int .i8 0, .int .i8 0, .int .i8 0, .int .i8 0, .int .i8 0, .int .i8 0, .int .i8 0, .int .i8 0, .int .i8 0, .int .i8 0, .int .i8 0, .int .i8 0, .int .i8 0, .int .i8 0, .int .i8 0, .int .i8 0, .int .i8 0, .int .i8 0, .int .i8 0, .int .i8 0, .int .i8 0, .int .i8 0] := by kernel_rfl
@[go_sem] theorem ty_fk26_0 : fk Tryz.prog 26 0 = some (0, 4) := by kernel_rfl
@[go_sem] theorem ty_fk26_1 : fk Tryz.prog 26 1 = some (1, 5) := by kernel_rfl
@[go_sem] theorem ty_fk26_2 : fk Tryz.prog 26 2 = some (2, 5) := by kernel_rfl
@[go_sem] theorem ty_fk26_3 : fk Tryz.prog 26 3 = some (3, 24) := by kernel_rfl
@[go_sem] theorem ty_bk26 : bk Tryz.prog 26 = some ([.bool false, .int .u8 0, .int .u8 0, .int .i8 0, .int .i8 0, .int .i8 0, .int .i8 0, .int .i8 0, .int .i8 0, .int .i8 0, .int .i8 0, .int .i8 0, .int .i8 0, .int .i8 0, .int .i8 0, .int .i8 0, .int .i8 0, .int .i8 0, .int .i8 0, .int .i8 0, .int .i8 0, .int .i8 0, .int .i8 0, .int .i8 0, .int .i8 0, .int .i8 0, .int .i8 0], [(0, 1), (1, 1), (2, 1), (3, 24)]) := by kernel_rfl
@[go_sem] theorem ty_tk27 : tk Tryz.prog 27 = some (false, 1) := by kernel_rfl
@[go_sem] theorem ty_zk27 : zk Tryz.prog 27 = some #[.nilFunc] := by kernel_rfl
@[go_sem] theorem ty_nk27 : nk Tryz.prog 27 = 4 := by kernel_rfl
@[go_sem] theorem ty_sk28 : sk Tryz.prog 28 = some 3 := by kernel_rfl
@[go_sem] theorem ty_tk28 : tk Tryz.prog 28 = some (false, 1) := by kernel_rfl
@[go_sem] theorem ty_zk28 : zk Tryz.prog 28 = some #[.slice none 0 0] := by kernel_rfl
@[go_sem] theorem ty_nk28 : nk Tryz.prog 28 = 3 := by kernel_rfl
@[go_sem] theorem ty_sk29 : sk Tryz.prog 29 = some 3 := by kernel_rfl
@[go_sem] theorem ty_tk29 : tk Tryz.prog 29 = some (false, 1) := by kernel_rfl
@[go_sem] theorem ty_zk29 : zk Tryz.prog 29 = some #[.slice none 0 0] := by kernel_rfl
@[go_sem] theorem ty_nk29 : nk Tryz.prog 29 = 3 := by kernel_rfl
@[go_sem] theorem ty_tk30 : tk Tryz.prog 30 = some (false, 1) := by kernel_rfl
@[go_sem] theorem ty_zk30 : zk Tryz.prog 30 = some #[.nilFunc] := by kernel_rfl
@[go_sem] theorem ty_nk30 : nk Tryz.prog 30 = 4 := by kernel_rfl
@[go_sem] theorem ty_sk31 : sk Tryz.prog 31 = some 60 := by kernel_rfl
@[go_sem] theorem ty_tk31 : tk Tryz.prog 31 = some (false, 1) := by kernel_rfl
@[go_sem] theorem ty_zk31 : zk Tryz.prog 31 = some #[.slice none 0 0] := by kernel_rfl
@[go_sem] theorem ty_nk31 : nk Tryz.prog 31 = 3 := by kernel_rfl
@[go_sem] theorem ty_sk32 : sk Tryz.prog 32 = some 60 := by kernel_rfl
@[go_sem] theorem ty_tk32 : tk Tryz.prog 32 = some (false, 1) := by kernel_rfl
@[go_sem] theorem ty_zk32 : zk Tryz.prog 32 = some #[.slice none 0 0] := by kernel_rfl
@[go_sem] theorem ty_nk32 : nk Tryz.prog 32 = 3 := by kernel_rfl
@[go_sem] theorem ty_tk33 : tk Tryz.prog 33 = some (false, 1) := by kernel_rfl
@[go_sem] theorem ty_zk33 : zk Tryz.prog 33 = some #[.nilFunc] := by kernel_rfl
@[go_sem] theorem ty_nk33 : nk Tryz.prog 33 = 4 := by kernel_rfl
@[go_sem] theorem ty_sk34 : sk Tryz.prog 34 = some 32 := by kernel_rfl
@[go_sem] theorem ty_tk34 : tk Tryz.prog 34 = some (false, 1) := by kernel_rfl
@[go_sem] theorem ty_zk34 : zk Tryz.prog 34 = some #[.slice none 0 0] := by kernel_rfl
@[go_sem] theorem ty_nk34 : nk Tryz.prog 34 = 3 := by kernel_rfl
@[go_sem] theorem ty_tk35 : tk Tryz.prog 35 = some (true, 2) := by kernel_rfl
@[go_sem] theorem ty_zk35 : zk Tryz.prog 35 = some #[.slice none 0 0, .slice none 0 0] := by kernel_rfl
@[go_sem] theorem ty_fk35_0 : fk Tryz.prog 35 0 = some (0, 29) := by kernel_rfl
@[go_sem] theorem ty_fk35_1 : fk Tryz.prog 35 1 = some (1, 34) := by kernel_rfl
@[go_sem] theorem ty_bk35 : bk Tryz.prog 35 = some ([.slice none 0 0, .slice none 0 0], [(0, 1), (1, 1)]) := by kernel_rfl
@[go_sem] theorem ty_tk36 : tk Tryz.prog 36 = some (true, 2) := by kernel_rfl
@[go_sem] theorem ty_zk36 : zk Tryz.prog 36 = some #[.slice none 0 0, .slice none 0 0] := by kernel_rfl
@[go_sem] theorem ty_fk36_0 : fk Tryz.prog 36 0 = some (0, 29) := by kernel_rfl
@[go_sem] theorem ty_fk36_1 : fk Tryz.prog 36 1 = some (1, 34) := by kernel_rfl
@[go_sem] theorem ty_bk36 : bk Tryz.prog 36 = some ([.slice none 0 0, .slice none 0 0], [(0, 1), (1, 1)]) := by kernel_rfl
@[go_sem] theorem ty_tk37 : tk Tryz.prog 37 = some (false, 1) := by kernel_rfl
@[go_sem] theorem ty_zk37 : zk Tryz.prog 37 = some #[.int .i64 0] := by kernel_rfl
@[go_sem] theorem ty_tk39 : tk Tryz.prog 39 = some (false, 1) := by kernel_rfl
@[go_sem] theorem ty_zk39 : zk Tryz.prog 39 = some #[.nilFunc] := by kernel_rfl
@[go_sem] theorem ty_nk39 : nk Tryz.prog 39 = 4 := by kernel_rfl
@[go_sem] theorem ty_tk40 : tk Tryz.prog 40 = some (false, 1) := by kernel_rfl
@[go_sem] theorem ty_zk40 : zk Tryz.prog 40 = some #[.nilFunc] := by kernel_rfl
@[go_sem] theorem ty_nk40 : nk Tryz.prog 40 = 4 := by kernel_rfl
@[go_sem] theorem ty_tk41 : tk Tryz.prog 41 = some (true, 5) := by kernel_rfl
@[go_sem] theorem ty_zk41 : zk Tryz.prog 41 = some #[.slice none 0 0, .slice none 0 0, .slice none 0 0, .int .i64 0, .int .i64 0] := by kernel_rfl
@[go_sem] theorem ty_fk41_0 : fk Tryz.prog 41 0 = some (0, 29) := by kernel_rfl
@[go_sem] theorem ty_fk41_1 : fk Tryz.prog 41 1 = some (1, 32) := by kernel_rfl
@[go_sem] theorem ty_fk41_2 : fk Tryz.prog 41 2 = some (2, 32) := by kernel_rfl
@[go_sem] theorem ty_fk41_3 : fk Tryz.prog 41 3 = some (3, 3) := by kernel_rfl
@[go_sem] theorem ty_fk41_4 : fk Tryz.prog 41 4 = some (4, 3) := by kernel_rfl
@[go_sem] theorem ty_bk41 : bk Tryz.prog 41 = some ([.slice none 0 0, .slice none 0 0, .slice none 0 0, .int .i64 0, .int .i64 0], [(0, 1), (1, 1), (2, 1), (3, 1), (4, 1)]) := by kernel_rfl
@[go_sem] theorem ty_tk42 : tk Tryz.prog 42 = some (true, 5) := by kernel_rfl
@[go_sem] theorem ty_zk42 : zk Tryz.prog 42 = some #[.slice none 0 0, .slice none 0 0, .slice none 0 0, .int .i64 0, .int .i64 0] := by kernel_rfl
@[go_sem] theorem ty_fk42_0 : fk Tryz.prog 42 0 = some (0, 29) := by kernel_rfl
@[go_sem] theorem ty_fk42_1 : fk Tryz.prog 42 1 = some (1, 32) := by kernel_rfl
@[go_sem] theorem ty_fk42_2 : fk Tryz.prog 42 2 = some (2, 32) := by kernel_rfl
@[go_sem] theorem ty_fk42_3 : fk Tryz.prog 42 3 = some (3, 3) := by kernel_rfl
@[go_sem] theorem ty_fk42_4 : fk Tryz.prog 42 4 = some (4, 3) := by kernel_rfl
@[go_sem] theorem ty_bk42 : bk Tryz.prog 42 = some ([.slice none 0 0, .slice none 0 0, .slice none 0 0, .int .i64 0, .int .i64 0], [(0, 1), (1, 1), (2, 1), (3, 1), (4, 1)]) := by kernel_rfl
@[go_sem] theorem ty_tk43 : tk Tryz.prog 43 = some (false, 1) := by kernel_rfl
@[go_sem] theorem ty_zk43 : zk Tryz.prog 43 = some #[.nilFunc] := by kernel_rfl
@[go_sem] theorem ty_nk43 : nk Tryz.prog 43 = 4 := by kernel_rfl
@[go_sem] theorem ty_tk44 : tk Tryz.prog 44 = some (false, 1) := by kernel_rfl
@[go_sem] theorem ty_zk44 : zk Tryz.prog 44 = some #[.nilFunc] := by kernel_rfl
@[go_sem] theorem ty_nk44 : nk Tryz.prog 44 = 4 := by kernel_rfl
@[go_sem] theorem ty_tk45 : tk Tryz.prog 45 = some (false, 1) := by kernel_rfl
@[go_sem] theorem ty_zk45 : zk Tryz.prog 45 = some #[.nilFunc] := by kernel_rfl
@[go_sem] theorem ty_nk45 : nk Tryz.prog 45 = 4 := by kernel_rfl
@[go_sem] theorem ty_tk46 : tk Tryz.prog 46 = some (false, 1) := by kernel_rfl
@[go_sem] theorem ty_zk46 : zk Tryz.prog 46 = some #[.nilFunc] := by kernel_rfl
@[go_sem] theorem ty_nk46 : nk Tryz.prog 46 = 4 := by kernel_rfl
@[go_sem] theorem ty_tk47 : tk Tryz.prog 47 = some (false, 1) := by kernel_rfl
@[go_sem] theorem ty_zk47 : zk Tryz.prog 47 = some #[.nilFunc] := by kernel_rfl
@[go_sem] theorem ty_nk47 : nk Tryz.prog 47 = 4 := by kernel_rfl
@[go_sem] theorem ty_tk48 : tk Tryz.prog 48 = some (false, 1) := by kernel_rfl
@[go_sem] theorem ty_zk48 : zk Tryz.prog 48 = some #[.nilFunc] := by kernel_rfl
@[go_sem] theorem ty_nk48 : nk Tryz.prog 48 = 4 := by kernel_rfl
@[go_sem] theorem ty_tk49 : tk Tryz.prog 49 = some (false, 1) := by kernel_rfl
@[go_sem] theorem ty_zk49 : zk Tryz.prog 49 = some #[.nilFunc] := by kernel_rfl
@[go_sem] theorem ty_nk49 : nk Tryz.prog 49 = 4 := by kernel_rfl
@[go_sem] theorem ty_tk50 : tk Tryz.prog 50 = some (false, 1) := by kernel_rfl
@[go_sem] theorem ty_zk50 : zk Tryz.prog 50 = some #[.string ⟨#[]⟩] := by kernel_rfl
@[go_sem] theorem ty_tk52 : tk Tryz.prog 52 = some (false, 1) := by kernel_rfl
@[go_sem] theorem ty_zk52 : zk Tryz.prog 52 = some #[.nilFunc] := by kernel_rfl
@[go_sem] theorem ty_nk52 : nk Tryz.prog 52 = 4 := by kernel_rfl
@[go_sem] theorem ty_tk54 : tk Tryz.prog 54 = some (false, 1) := by kernel_rfl
@[go_sem] theorem ty_zk54 : zk Tryz.prog 54 = some #[.nilFunc] := by kernel_rfl
@[go_sem] theorem ty_nk54 : nk Tryz.prog 54 = 4 := by kernel_rfl
@[go_sem] theorem ty_tk55 : tk Tryz.prog 55 = some (false, 1) := by kernel_rfl
@[go_sem] theorem ty_zk55 : zk Tryz.prog 55 = some #[.nilFunc] := by kernel_rfl
@[go_sem] theorem ty_nk55 : nk Tryz.prog 55 = 4 := by kernel_rfl
@[go_sem] theorem ty_tk57 : tk Tryz.prog 57 = some (false, 1) := by kernel_rfl
@[go_sem] theorem ty_zk57 : zk Tryz.prog 57 = some #[.nilFunc] := by kernel_rfl
@[go_sem] theorem ty_nk57 : nk Tryz.prog 57 = 4 := by kernel_rfl
@[go_sem] theorem ty_tk58 : tk Tryz.prog 58 = some (false, 1) := by kernel_rfl
@[go_sem] theorem ty_zk58 : zk Tryz.prog 58 = some #[.nilFunc] := by kernel_rfl
@[go_sem] theorem ty_nk58 : nk Tryz.prog 58 = 4 := by kernel_rfl
@[go_sem] theorem ty_tk59 : tk Tryz.prog 59 = some (true, 2) := by kernel_rfl
@[go_sem] theorem ty_zk59 : zk Tryz.prog 59 = some #[.string ⟨#[]⟩, .string ⟨#[]⟩] := by kernel_rfl
@[go_sem] theorem ty_fk59_0 : fk Tryz.prog 59 0 = some (0, 50) := by kernel_rfl
@[go_sem] theorem ty_fk59_1 : fk Tryz.prog 59 1 = some (1, 50) := by kernel_rfl
@[go_sem] theorem ty_bk59 : bk Tryz.prog 59 = some ([.string ⟨#[]⟩, .string ⟨#[]⟩], [(0, 1), (1, 1)]) := by kernel_rfl
@[go_sem] theorem ty_ss59 : s2 Tryz.prog 59 = true := by kernel_rfl
@[go_sem] theorem ty_tk60 : tk Tryz.prog 60 = some (true, 2) := by kernel_rfl
@[go_sem] theorem ty_zk60 : zk Tryz.prog 60 = some #[.string ⟨#[]⟩, .string ⟨#[]⟩] := by kernel_rfl
@[go_sem] theorem ty_fk60_0 : fk Tryz.prog 60 0 = some (0, 50) := by kernel_rfl
@[go_sem] theorem ty_fk60_1 : fk Tryz.prog 60 1 = some (1, 50) := by kernel_rfl
@[go_sem] theorem ty_bk60 : bk Tryz.prog 60 = some ([.string ⟨#[]⟩, .string ⟨#[]⟩], [(0, 1), (1, 1)]) := by kernel_rfl
@[go_sem] theorem ty_ss60 : s2 Tryz.prog 60 = true := by kernel_rfl
@[go_sem] theorem ty_tk61 : tk Tryz.prog 61 = some (false, 1) := by kernel_rfl
@[go_sem] theorem ty_zk61 : zk Tryz.prog 61 = some #[.nilFunc] := by kernel_rfl
@[go_sem] theorem ty_nk61 : nk Tryz.prog 61 = 4 := by kernel_rfl
@[go_sem] theorem ty_tk62 : tk Tryz.prog 62 = some (false, 1) := by kernel_rfl
@[go_sem] theorem ty_zk62 : zk Tryz.prog 62 = some #[.nilFunc] := by kernel_rfl
@[go_sem] theorem ty_nk62 : nk Tryz.prog 62 = 4 := by kernel_rfl
@[go_sem] theorem ty_tk63 : tk Tryz.prog 63 = some (false, 1) := by kernel_rfl
@[go_sem] theorem ty_zk63 : zk Tryz.prog 63 = some #[.nilFunc] := by kernel_rfl
@[go_sem] theorem ty_nk63 : nk Tryz.prog 63 = 4 := by kernel_rfl
@[go_sem] theorem ty_tk64 : tk Tryz.prog 64 = some (false, 1) := by kernel_rfl
@[go_sem] theorem ty_zk64 : zk Tryz.prog 64 = some #[.nilFunc] := by kernel_rfl
@[go_sem] theorem ty_nk64 : nk Tryz.prog 64 = 4 := by kernel_rfl
@[go_sem] theorem ty_tk65 : tk Tryz.prog 65 = some (false, 1) := by kernel_rfl
@[go_sem] theorem ty_zk65 : zk Tryz.prog 65 = some #[.nilFunc] := by kernel_rfl
@[go_sem] theorem ty_nk65 : nk Tryz.prog 65 = 4 := by kernel_rfl
@[go_sem] theorem ty_tk66 : tk Tryz.prog 66 = some (false, 1) := by kernel_rfl
@[go_sem] theorem ty_zk66 : zk Tryz.prog 66 = some #[.nilFunc] := by kernel_rfl
@[go_sem] theorem ty_nk66 : nk Tryz.prog 66 = 4 := by kernel_rfl
@[go_sem] theorem ty_tk67 : tk Tryz.prog 67 = some (false, 1) := by kernel_rfl
@[go_sem] theorem ty_zk67 : zk Tryz.prog 67 = some #[.nilFunc] := by kernel_rfl
@[go_sem] theorem ty_nk67 : nk Tryz.prog 67 = 4 := by kernel_rfl
@[go_sem] theorem ty_tk69 : tk Tryz.prog 69 = some (false, 1) := by kernel_rfl
@[go_sem] theorem ty_zk69 : zk Tryz.prog 69 = some #[.nilFunc] := by kernel_rfl
@[go_sem] theorem ty_nk69 : nk Tryz.prog 69 = 4 := by kernel_rfl
@[go_sem] theorem ty_tk71 : tk Tryz.prog 71 = some (false, 1) := by kernel_rfl
@[go_sem] theorem ty_zk71 : zk Tryz.prog 71 = some #[.nilFunc] := by kernel_rfl
@[go_sem] theorem ty_nk71 : nk Tryz.prog 71 = 4 := by kernel_rfl
@[go_sem] theorem ty_tk72 : tk Tryz.prog 72 = some (false, 1) := by kernel_rfl
@[go_sem] theorem ty_zk72 : zk Tryz.prog 72 = some #[.nilFunc] := by kernel_rfl
@[go_sem] theorem ty_nk72 : nk Tryz.prog 72 = 4 := by kernel_rfl
@[go_sem] theorem ty_tk73 : tk Tryz.prog 73 = some (false, 1) := by kernel_rfl
@[go_sem] theorem ty_zk73 : zk Tryz.prog 73 = some #[.nilFunc] := by kernel_rfl
@[go_sem] theorem ty_nk73 : nk Tryz.prog 73 = 4 := by kernel_rfl
@[go_sem] theorem ty_tk74 : tk Tryz.prog 74 = some (false, 1) := by kernel_rfl
@[go_sem] theorem ty_zk74 : zk Tryz.prog 74 = some #[.nilFunc] := by kernel_rfl
@[go_sem] theorem ty_nk74 : nk Tryz.prog 74 = 4 := by kernel_rfl
@[go_sem] theorem ty_tk75 : tk Tryz.prog 75 = some (false, 1) := by kernel_rfl
@[go_sem] theorem ty_zk75 : zk Tryz.prog 75 = some #[.nilFunc] := by kernel_rfl
@[go_sem] theorem ty_nk75 : nk Tryz.prog 75 = 4 := by kernel_rfl
@[go_sem] theorem ty_tk76 : tk Tryz.prog 76 = some (false, 1) := by kernel_rfl
@[go_sem] theorem ty_zk76 : zk Tryz.prog 76 = some #[.nilFunc] := by kernel_rfl
@[go_sem] theorem ty_nk76 : nk Tryz.prog 76 = 4 := by kernel_rfl
@[go_sem] theorem ty_tk78 : tk Tryz.prog 78 = some (false, 1) := by kernel_rfl
@[go_sem] theorem ty_zk78 : zk Tryz.prog 78 = some #[.nilFunc] := by kernel_rfl
@[go_sem] theorem ty_nk78 : nk Tryz.prog 78 = 4 := by kernel_rfl
@[go_sem] theorem ty_tk79 : tk Tryz.prog 79 = some (false, 1) := by kernel_rfl
@[go_sem] theorem ty_zk79 : zk Tryz.prog 79 = some #[.nilFunc] := by kernel_rfl
@[go_sem] theorem ty_nk79 : nk Tryz.prog 79 = 4 := by kernel_rfl
@[go_sem] theorem ty_tk80 : tk Tryz.prog 80 = some (false, 1) := by kernel_rfl
@[go_sem] theorem ty_zk80 : zk Tryz.prog 80 = some #[.nilFunc] := by kernel_rfl
@[go_sem] theorem ty_nk80 : nk Tryz.prog 80 = 4 := by kernel_rfl
@[go_sem] theorem ty_tk81 : tk Tryz.prog 81 = some (false, 1) := by kernel_rfl
@[go_sem] theorem ty_zk81 : zk Tryz.prog 81 = some #[.nilFunc] := by kernel_rfl
@[go_sem] theorem ty_nk81 : nk Tryz.prog 81 = 4 := by kernel_rfl
@[go_sem] theorem ty_tk82 : tk Tryz.prog 82 = some (false, 1) := by kernel_rfl
@[go_sem] theorem ty_zk82 : zk Tryz.prog 82 = some #[.nilFunc] := by kernel_rfl
@[go_sem] theorem ty_nk82 : nk Tryz.prog 82 = 4 := by kernel_rfl
@[go_sem] theorem ty_tk83 : tk Tryz.prog 83 = some (false, 1) := by kernel_rfl
@[go_sem] theorem ty_zk83 : zk Tryz.prog 83 = some #[.nilFunc] := by kernel_rfl
@[go_sem] theorem ty_nk83 : nk Tryz.prog 83 = 4 := by kernel_rfl
@[go_sem] theorem ty_tk84 : tk Tryz.prog 84 = some (false, 1) := by kernel_rfl
@[go_sem] theorem ty_zk84 : zk Tryz.prog 84 = some #[.nilFunc] := by kernel_rfl
@[go_sem] theorem ty_nk84 : nk Tryz.prog 84 = 4 := by kernel_rfl
@[go_sem] theorem ty_tk85 : tk Tryz.prog 85 = some (false, 1) := by kernel_rfl
@[go_sem] theorem ty_zk85 : zk Tryz.prog 85 = some #[.nilFunc] := by kernel_rfl
@[go_sem] theorem ty_nk85 : nk Tryz.prog 85 = 4 := by kernel_rfl
@[go_sem] theorem ty_tk86 : tk Tryz.prog 86 = some (false, 1) := by kernel_rfl
@[go_sem] theorem ty_zk86 : zk Tryz.prog 86 = some #[.nilFunc] := by kernel_rfl
@[go_sem] theorem ty_nk86 : nk Tryz.prog 86 = 4 := by kernel_rfl
@[go_sem] theorem ty_tk87 : tk Tryz.prog 87 = some (false, 1) := by kernel_rfl
@[go_sem] theorem ty_zk87 : zk Tryz.prog 87 = some #[.nilFunc] := by kernel_rfl
@[go_sem] theorem ty_nk87 : nk Tryz.prog 87 = 4 := by kernel_rfl
@[go_sem] theorem ty_tk88 : tk Tryz.prog 88 = some (false, 1) := by kernel_rfl
@[go_sem] theorem ty_zk88 : zk Tryz.prog 88 = some #[.nilFunc] := by kernel_rfl
@[go_sem] theorem ty_nk88 : nk Tryz.prog 88 = 4 := by kernel_rfl
@[go_sem] theorem ty_tk89 : tk Tryz.prog 89 = some (false, 1) := by kernel_rfl
@[go_sem] theorem ty_zk89 : zk Tryz.prog 89 = some #[.nilFunc] := by kernel_rfl
@[go_sem] theorem ty_nk89 : nk Tryz.prog 89 = 4 := by kernel_rfl
@[go_sem] theorem ty_tk90 : tk Tryz.prog 90 = some (false, 1) := by kernel_rfl
@[go_sem] theorem ty_zk90 : zk Tryz.prog 90 = some #[.nilFunc] := by kernel_rfl
@[go_sem] theorem ty_nk90 : nk Tryz.prog 90 = 4 := by kernel_rfl
@[go_sem] theorem ty_tk91 : tk Tryz.prog 91 = some (false, 1) := by kernel_rfl
@[go_sem] theorem ty_zk91 : zk Tryz.prog 91 = some #[.nilFunc] := by kernel_rfl
@[go_sem] theorem ty_nk91 : nk Tryz.prog 91 = 4 := by kernel_rfl
@[go_sem] theorem ty_tk92 : tk Tryz.prog 92 = some (false, 1) := by kernel_rfl
@[go_sem] theorem ty_zk92 : zk Tryz.prog 92 = some #[.int .u64 0] := by kernel_rfl
@[go_sem] theorem ty_tk93 : tk Tryz.prog 93 = some (false, 1) := by kernel_rfl
@[go_sem] theorem ty_zk93 : zk Tryz.prog 93 = some #[.nilFunc] := by kernel_rfl
@[go_sem] theorem ty_nk93 : nk Tryz.prog 93 = 4 := by kernel_rfl
@[go_sem] theorem ty_tk94 : tk Tryz.prog 94 = some (false, 1) := by kernel_rfl
@[go_sem] theorem ty_zk94 : zk Tryz.prog 94 = some #[.nilFunc] := by kernel_rfl
@[go_sem] theorem ty_nk94 : nk Tryz.prog 94 = 4 := by kernel_rfl
@[go_sem] theorem ty_tk95 : tk Tryz.prog 95 = some (false, 1) := by kernel_rfl
@[go_sem] theorem ty_zk95 : zk Tryz.prog 95 = some #[.nilFunc] := by kernel_rfl
@[go_sem] theorem ty_nk95 : nk Tryz.prog 95 = 4 := by kernel_rfl
@[go_sem] theorem ty_tk96 : tk Tryz.prog 96 = some (false, 1) := by kernel_rfl
@[go_sem] theorem ty_zk96 : zk Tryz.prog 96 = some #[.nilFunc] := by kernel_rfl
@[go_sem] theorem ty_nk96 : nk Tryz.prog 96 = 4 := by kernel_rfl
@[go_sem] theorem ty_tk97 : tk Tryz.prog 97 = some (false, 1) := by kernel_rfl
@[go_sem] theorem ty_zk97 : zk Tryz.prog 97 = some #[.nilFunc] := by kernel_rfl
@[go_sem] theorem ty_nk97 : nk Tryz.prog 97 = 4 := by kernel_rfl
@[go_sem] theorem ty_tk98 : tk Tryz.prog 98 = some (false, 1) := by kernel_rfl
@[go_sem] theorem ty_zk98 : zk Tryz.prog 98 = some #[.nilFunc] := by kernel_rfl
@[go_sem] theorem ty_nk98 : nk Tryz.prog 98 = 4 := by kernel_rfl
@[go_sem] theorem ty_tk99 : tk Tryz.prog 99 = some (false, 1) := by kernel_rfl
@[go_sem] theorem ty_zk99 : zk Tryz.prog 99 = some #[.nilFunc] := by kernel_rfl
@[go_sem] theorem ty_nk99 : nk Tryz.prog 99 = 4 := by kernel_rfl
@[go_sem] theorem ty_tk100 : tk Tryz.prog 100 = some (false, 1) := by kernel_rfl
@[go_sem] theorem ty_zk100 : zk Tryz.prog 100 = some #[.nilFunc] := by kernel_rfl
@[go_sem] theorem ty_nk100 : nk Tryz.prog 100 = 4 := by kernel_rfl
@[go_sem] theorem ty_tk101 : tk Tryz.prog 101 = some (false, 1) := by kernel_rfl
@[go_sem] theorem ty_zk101 : zk Tryz.prog 101 = some #[.nilFunc] := by kernel_rfl
@[go_sem] theorem ty_nk101 : nk Tryz.prog 101 = 4 := by kernel_rfl
@[go_sem] theorem ty_tk102 : tk Tryz.prog 102 = some (false, 1) := by kernel_rfl
@[go_sem] theorem ty_zk102 : zk Tryz.prog 102 = some #[.nilFunc] := by kernel_rfl
@[go_sem] theorem ty_nk102 : nk Tryz.prog 102 = 4 := by kernel_rfl
@[go_sem] theorem ty_tk103 : tk Tryz.prog 103 = some (false, 1) := by kernel_rfl
@[go_sem] theorem ty_zk103 : zk Tryz.prog 103 = some #[.nilFunc] := by kernel_rfl
@[go_sem] theorem ty_nk103 : nk Tryz.prog 103 = 4 := by kernel_rfl
@[go_sem] theorem ty_tk104 : tk Tryz.prog 104 = some (false, 1) := by kernel_rfl
@[go_sem] theorem ty_zk104 : zk Tryz.prog 104 = some #[.nilFunc] := by kernel_rfl
@[go_sem] theorem ty_nk104 : nk Tryz.prog 104 = 4 := by kernel_rfl
@[go_sem] theorem ty_tk105 : tk Tryz.prog 105 = some (false, 1) := by kernel_rfl
@[go_sem] theorem ty_zk105 : zk Tryz.prog 105 = some #[.nilFunc] := by kernel_rfl
@[go_sem] theorem ty_nk105 : nk Tryz.prog 105 = 4 := by kernel_rfl
@[go_sem] theorem ty_tk107 : tk Tryz.prog 107 = some (false, 1) := by kernel_rfl
@[go_sem] theorem ty_zk107 : zk Tryz.prog 107 = some #[.nilFunc] := by kernel_rfl
@[go_sem] theorem ty_nk107 : nk Tryz.prog 107 = 4 := by kernel_rfl
@[go_sem] theorem ty_tk108 : tk Tryz.prog 108 = some (false, 1) := by kernel_rfl
@[go_sem] theorem ty_zk108 : zk Tryz.prog 108 = some #[.nilFunc] := by kernel_rfl
@[go_sem] theorem ty_nk108 : nk Tryz.prog 108 = 4 := by kernel_rfl
@[go_sem] theorem ty_tk110 : tk Tryz.prog 110 = some (false, 1) := by kernel_rfl
@[go_sem] theorem ty_zk110 : zk Tryz.prog 110 = some #[.nilFunc] := by kernel_rfl
@[go_sem] theorem ty_nk110 : nk Tryz.prog 110 = 4 := by kernel_rfl
@[go_sem] theorem ty_tk111 : tk Tryz.prog 111 = some (false, 1) := by kernel_rfl
@[go_sem] theorem ty_zk111 : zk Tryz.prog 111 = some #[.nilFunc] := by kernel_rfl
@[go_sem] theorem ty_nk111 : nk Tryz.prog 111 = 4 := by kernel_rfl
@[go_sem] theorem ty_tk112 : tk Tryz.prog 112 = some (false, 1) := by kernel_rfl
@[go_sem] theorem ty_zk112 : zk Tryz.prog 112 = some #[.nilIface] := by kernel_rfl
@[go_sem] theorem ty_nk112 : nk Tryz.prog 112 = 5 := by kernel_rfl
@[go_sem] theorem ty_tk113 : tk Tryz.prog 113 = some (false, 1) := by kernel_rfl
@[go_sem] theorem ty_zk113 : zk Tryz.prog 113 = some #[.nilIface] := by kernel_rfl
@[go_sem] theorem ty_nk113 : nk Tryz.prog 113 = 5 := by kernel_rfl
@[go_sem] theorem ty_tk115 : tk Tryz.prog 115 = some (false, 1) := by kernel_rfl
@[go_sem] theorem ty_zk115 : zk Tryz.prog 115 = some #[.nilFunc] := by kernel_rfl
@[go_sem] theorem ty_nk115 : nk Tryz.prog 115 = 4 := by kernel_rfl
@[go_sem] theorem ty_tk116 : tk Tryz.prog 116 = some (false, 1) := by kernel_rfl
@[go_sem] theorem ty_zk116 : zk Tryz.prog 116 = some #[.nilFunc] := by kernel_rfl
@[go_sem] theorem ty_nk116 : nk Tryz.prog 116 = 4 := by kernel_rfl
@[go_sem] theorem ty_tk117 : tk Tryz.prog 117 = some (false, 1) := by kernel_rfl
@[go_sem] theorem ty_zk117 : zk Tryz.prog 117 = some #[.nilFunc] := by kernel_rfl
@[go_sem] theorem ty_nk117 : nk Tryz.prog 117 = 4 := by kernel_rfl
@[go_sem] theorem ty_tk118 : tk Tryz.prog 118 = some (false, 1) := by kernel_rfl
@[go_sem] theorem ty_zk118 : zk Tryz.prog 118 = some #[.nilFunc] := by kernel_rfl
@[go_sem] theorem ty_nk118 : nk Tryz.prog 118 = 4 := by kernel_rfl
@[go_sem] theorem ty_tk119 : tk Tryz.prog 119 = some (false, 1) := by kernel_rfl
@[go_sem] theorem ty_zk119 : zk Tryz.prog 119 = some #[.nilFunc] := by kernel_rfl
@[go_sem] theorem ty_nk119 : nk Tryz.prog 119 = 4 := by kernel_rfl
@[go_sem] theorem ty_tk120 : tk Tryz.prog 120 = some (false, 1) := by kernel_rfl
@[go_sem] theorem ty_zk120 : zk Tryz.prog 120 = some #[.nilFunc] := by kernel_rfl
@[go_sem] theorem ty_nk120 : nk Tryz.prog 120 = 4 := by kernel_rfl
@[go_sem] theorem ty_sk121 : sk Tryz.prog 121 = some 34 := by kernel_rfl
@[go_sem] theorem ty_tk121 : tk Tryz.prog 121 = some (false, 1) := by kernel_rfl
@[go_sem] theorem ty_zk121 : zk Tryz.prog 121 = some #[.slice none 0 0] := by kernel_rfl
@[go_sem] theorem ty_nk121 : nk Tryz.prog 121 = 3 := by kernel_rfl
@[go_sem] theorem ty_tk122 : tk Tryz.prog 122 = some (false, 1) := by kernel_rfl
@[go_sem] theorem ty_zk122 : zk Tryz.prog 122 = some #[.nilFunc] := by kernel_rfl
@[go_sem] theorem ty_nk122 : nk Tryz.prog 122 = 4 := by kernel_rfl
@[go_sem] theorem ty_tk123 : tk Tryz.prog 123 = some (false, 1) := by kernel_rfl
@[go_sem] theorem ty_zk123 : zk Tryz.prog 123 = some #[.nilFunc] := by kernel_rfl
@[go_sem] theorem ty_nk123 : nk Tryz.prog 123 = 4 := by kernel_rfl
@[go_sem] theorem ty_tk125 : tk Tryz.prog 125 = some (false, 1) := by kernel_rfl
@[go_sem] theorem ty_zk125 : zk Tryz.prog 125 = some #[.nilFunc] := by kernel_rfl
@[go_sem] theorem ty_nk125 : nk Tryz.prog 125 = 4 := by kernel_rfl
@[go_sem] theorem ty_tk126 : tk Tryz.prog 126 = some (false, 1) := by kernel_rfl
@[go_sem] theorem ty_zk126 : zk Tryz.prog 126 = some #[.nilFunc] := by kernel_rfl
@[go_sem] theorem ty_nk126 : nk Tryz.prog 126 = 4 := by kernel_rfl
@[go_sem] theorem ty_tk127 : tk Tryz.prog 127 = some (false, 1) := by kernel_rfl
@[go_sem] theorem ty_zk127 : zk Tryz.prog 127 = some #[.nilFunc] := by kernel_rfl
@[go_sem] theorem ty_nk127 : nk Tryz.prog 127 = 4 := by kernel_rfl
@[go_sem] theorem ty_tk128 : tk Tryz.prog 128 = some (false, 1) := by kernel_rfl
@[go_sem] theorem ty_zk128 : zk Tryz.prog 128 = some #[.nilFunc] := by kernel_rfl
@[go_sem] theorem ty_nk128 : nk Tryz.prog 128 = 4 := by kernel_rfl
@[go_sem] theorem ty_tk130 : tk Tryz.prog 130 = some (false, 1) := by kernel_rfl
@[go_sem] theorem ty_zk130 : zk Tryz.prog 130 = some #[.nilFunc] := by kernel_rfl
@[go_sem] theorem ty_nk130 : nk Tryz.prog 130 = 4 := by kernel_rfl
@[go_sem] theorem ty_tk131 : tk Tryz.prog 131 = some (false, 1) := by kernel_rfl
@[go_sem] theorem ty_zk131 : zk Tryz.prog 131 = some #[.nilFunc] := by kernel_rfl
@[go_sem] theorem ty_nk131 : nk Tryz.prog 131 = 4 := by kernel_rfl
@[go_sem] theorem ty_tk132 : tk Tryz.prog 132 = some (true, 2) := by kernel_rfl
@[go_sem] theorem ty_zk132 : zk Tryz.prog 132 = some #[.bool false, .slice none 0 0] := by kernel_rfl
@[go_sem] theorem ty_fk132_0 : fk Tryz.prog 132 0 = some (0, 4) := by kernel_rfl
@[go_sem] theorem ty_fk132_1 : fk Tryz.prog 132 1 = some (1, 28) := by kernel_rfl
@[go_sem] theorem ty_bk132 : bk Tryz.prog 132 = some ([.bool false, .slice none 0 0], [(0, 1), (1, 1)]) := by kernel_rfl
@[go_sem] theorem ty_tk133 : tk Tryz.prog 133 = some (true, 2) := by kernel_rfl
@[go_sem] theorem ty_zk133 : zk Tryz.prog 133 = some #[.bool false, .slice none 0 0] := by kernel_rfl
@[go_sem] theorem ty_fk133_0 : fk Tryz.prog 133 0 = some (0, 4) := by kernel_rfl
@[go_sem] theorem ty_fk133_1 : fk Tryz.prog 133 1 = some (1, 28) := by kernel_rfl
@[go_sem] theorem ty_bk133 : bk Tryz.prog 133 = some ([.bool false, .slice none 0 0], [(0, 1), (1, 1)]) := by kernel_rfl
@[go_sem] theorem ty_tk134 : tk Tryz.prog 134 = some (false, 1) := by kernel_rfl
@[go_sem] theorem ty_zk134 : zk Tryz.prog 134 = some #[.nilFunc] := by kernel_rfl
@[go_sem] theorem ty_nk134 : nk Tryz.prog 134 = 4 := by kernel_rfl
@[go_sem] theorem ty_tk135 : tk Tryz.prog 135 = some (false, 1) := by kernel_rfl
@[go_sem] theorem ty_zk135 : zk Tryz.prog 135 = some #[.nilFunc] := by kernel_rfl
@[go_sem] theorem ty_nk135 : nk Tryz.prog 135 = 4 := by kernel_rfl
@[go_sem] theorem ty_tk136 : tk Tryz.prog 136 = some (false, 1) := by kernel_rfl
@[go_sem] theorem ty_zk136 : zk Tryz.prog 136 = some #[.nilFunc] := by kernel_rfl
@[go_sem] theorem ty_nk136 : nk Tryz.prog 136 = 4 := by kernel_rfl
@[go_sem] theorem ty_tk137 : tk Tryz.prog 137 = some (false, 1) := by kernel_rfl
@[go_sem] theorem ty_zk137 : zk Tryz.prog 137 = some #[.nilFunc] := by kernel_rfl
@[go_sem] theorem ty_nk137 : nk Tryz.prog 137 = 4 := by kernel_rfl
@[go_sem] theorem ty_tk138 : tk Tryz.prog 138 = some (false, 1) := by kernel_rfl
@[go_sem] theorem ty_zk138 : zk Tryz.prog 138 = some #[.nilFunc] := by kernel_rfl
@[go_sem] theorem ty_nk138 : nk Tryz.prog 138 = 4 := by kernel_rfl
@[go_sem] theorem ty_tk140 : tk Tryz.prog 140 = some (false, 1) := by kernel_rfl
@[go_sem] theorem ty_zk140 : zk Tryz.prog 140 = some #[.nilFunc] := by kernel_rfl
@[go_sem] theorem ty_nk140 : nk Tryz.prog 140 = 4 := by kernel_rfl
@[go_sem] theorem ty_tk141 : tk Tryz.prog 141 = some (false, 1) := by kernel_rfl
@[go_sem] theorem ty_zk141 : zk Tryz.prog 141 = some #[.nilFunc] := by kernel_rfl
@[go_sem] theorem ty_nk141 : nk Tryz.prog 141 = 4 := by kernel_rfl
@[go_sem] theorem ty_tk142 : tk Tryz.prog 142 = some (false, 1) := by kernel_rfl
@[go_sem] theorem ty_zk142 : zk Tryz.prog 142 = some #[.nilFunc] := by kernel_rfl
@[go_sem] theorem ty_nk142 : nk Tryz.prog 142 = 4 := by kernel_rfl
@[go_sem] theorem ty_tk143 : tk Tryz.prog 143 = some (false, 1) := by kernel_rfl
@[go_sem] theorem ty_zk143 : zk Tryz.prog 143 = some #[.nilFunc] := by kernel_rfl
@[go_sem] theorem ty_nk143 : nk Tryz.prog 143 = 4 := by kernel_rfl
@[go_sem] theorem ty_tk144 : tk Tryz.prog 144 = some (false, 1) := by kernel_rfl
@[go_sem] theorem ty_zk144 : zk Tryz.prog 144 = some #[.nilFunc] := by kernel_rfl
@[go_sem] theorem ty_nk144 : nk Tryz.prog 144 = 4 := by kernel_rfl
@[go_sem] theorem ty_tk145 : tk Tryz.prog 145 = some (false, 1) := by kernel_rfl
@[go_sem] theorem ty_zk145 : zk Tryz.prog 145 = some #[.nilFunc] := by kernel_rfl
@[go_sem] theorem ty_nk145 : nk Tryz.prog 145 = 4 := by kernel_rfl
@[go_sem] theorem ty_sk146 : sk Tryz.prog 146 = some 50 := by kernel_rfl
@[go_sem] theorem ty_tk146 : tk Tryz.prog 146 = some (false, 1) := by kernel_rfl
@[go_sem] theorem ty_zk146 : zk Tryz.prog 146 = some #[.slice none 0 0] := by kernel_rfl
@[go_sem] theorem ty_nk146 : nk Tryz.prog 146 = 3 := by kernel_rfl
@[go_sem] theorem ty_tk147 : tk Tryz.prog 147 = some (true, 3) := by kernel_rfl
@[go_sem] theorem ty_zk147 : zk Tryz.prog 147 = some #[.slice none 0 0, .slice none 0 0, .string ⟨#[]⟩] := by kernel_rfl
@[go_sem] theorem ty_fk147_0 : fk Tryz.prog 147 0 = some (0, 29) := by kernel_rfl
@[go_sem] theorem ty_fk147_1 : fk Tryz.prog 147 1 = some (1, 146) := by kernel_rfl
@[go_sem] theorem ty_fk147_2 : fk Tryz.prog 147 2 = some (2, 50) := by kernel_rfl
@[go_sem] theorem ty_bk147 : bk Tryz.prog 147 = some ([.slice none 0 0, .slice none 0 0, .string ⟨#[]⟩], [(0, 1), (1, 1), (2, 1)]) := by kernel_rfl
@[go_sem] theorem ty_tk148 : tk Tryz.prog 148 = some (true, 3) := by kernel_rfl
@[go_sem] theorem ty_zk148 : zk Tryz.prog 148 = some #[.slice none 0 0, .slice none 0 0, .string ⟨#[]⟩] := by kernel_rfl
@[go_sem] theorem ty_fk148_0 : fk Tryz.prog 148 0 = some (0, 29) := by kernel_rfl
@[go_sem] theorem ty_fk148_1 : fk Tryz.prog 148 1 = some (1, 146) := by kernel_rfl
@[go_sem] theorem ty_fk148_2 : fk Tryz.prog 148 2 = some (2, 50) := by kernel_rfl
@[go_sem] theorem ty_bk148 : bk Tryz.prog 148 = some ([.slice none 0 0, .slice none 0 0, .string ⟨#[]⟩], [(0, 1), (1, 1), (2, 1)]) := by kernel_rfl
@[go_sem] theorem ty_tk149 : tk Tryz.prog 149 = some (false, 1) := by kernel_rfl
@[go_sem] theorem ty_zk149 : zk Tryz.prog 149 = some #[.nilFunc] := by kernel_rfl
@[go_sem] theorem ty_nk149 : nk Tryz.prog 149 = 4 := by kernel_rfl
@[go_sem] theorem ty_tk150 : tk Tryz.prog 150 = some (false, 1) := by kernel_rfl
@[go_sem] theorem ty_zk150 : zk Tryz.prog 150 = some #[.nilFunc] := by kernel_rfl
@[go_sem] theorem ty_nk150 : nk Tryz.prog 150 = 4 := by kernel_rfl
@[go_sem] theorem ty_tk151 : tk Tryz.prog 151 = some (false, 1) := by kernel_rfl
@[go_sem] theorem ty_zk151 : zk Tryz.prog 151 = some #[.nilFunc] := by kernel_rfl
@[go_sem] theorem ty_nk151 : nk Tryz.prog 151 = 4 := by kernel_rfl
@[go_sem] theorem ty_tk152 : tk Tryz.prog 152 = some (false, 1) := by kernel_rfl
@[go_sem] theorem ty_zk152 : zk Tryz.prog 152 = some #[.nilFunc] := by kernel_rfl
@[go_sem] theorem ty_nk152 : nk Tryz.prog 152 = 4 := by kernel_rfl
@[go_sem] theorem ty_tk153 : tk Tryz.prog 153 = some (false, 1) := by kernel_rfl
@[go_sem] theorem ty_zk153 : zk Tryz.prog 153 = some #[.nilFunc] := by kernel_rfl
@[go_sem] theorem ty_nk153 : nk Tryz.prog 153 = 4 := by kernel_rfl
@[go_sem] theorem ty_tk154 : tk Tryz.prog 154 = some (false, 1) := by kernel_rfl
@[go_sem] theorem ty_zk154 : zk Tryz.prog 154 = some #[.nilFunc] := by kernel_rfl
@[go_sem] theorem ty_nk154 : nk Tryz.prog 154 = 4 := by kernel_rfl
@[go_sem] theorem ty_tk155 : tk Tryz.prog 155 = some (false, 1) := by kernel_rfl
@[go_sem] theorem ty_zk155 : zk Tryz.prog 155 = some #[.nilFunc] := by kernel_rfl
@[go_sem] theorem ty_nk155 : nk Tryz.prog 155 = 4 := by kernel_rfl
@[go_sem] theorem ty_tk156 : tk Tryz.prog 156 = some (false, 1) := by kernel_rfl
@[go_sem] theorem ty_zk156 : zk Tryz.prog 156 = some #[.nilFunc] := by kernel_rfl
@[go_sem] theorem ty_nk156 : nk Tryz.prog 156 = 4 := by kernel_rfl
@[go_sem] theorem ty_tk157 : tk Tryz.prog 157 = some (false, 1) := by kernel_rfl
@[go_sem] theorem ty_zk157 : zk Tryz.prog 157 = some #[.nilFunc] := by kernel_rfl
@[go_sem] theorem ty_nk157 : nk Tryz.prog 157 = 4 := by kernel_rfl
@[go_sem] theorem ty_tk158 : tk Tryz.prog 158 = some (false, 1) := by kernel_rfl
@[go_sem] theorem ty_zk158 : zk Tryz.prog 158 = some #[.nilFunc] := by kernel_rfl
@[go_sem] theorem ty_nk158 : nk Tryz.prog 158 = 4 := by kernel_rfl
@[go_sem] theorem ty_tk159 : tk Tryz.prog 159 = some (false, 1) := by kernel_rfl
@[go_sem] theorem ty_zk159 : zk Tryz.prog 159 = some #[.nilFunc] := by kernel_rfl
@[go_sem] theorem ty_nk159 : nk Tryz.prog 159 = 4 := by kernel_rfl
@[go_sem] theorem ty_tk160 : tk Tryz.prog 160 = some (false, 1) := by kernel_rfl
@[go_sem] theorem ty_zk160 : zk Tryz.prog 160 = some #[.nilFunc] := by kernel_rfl
@[go_sem] theorem ty_nk160 : nk Tryz.prog 160 = 4 := by kernel_rfl
@[go_sem] theorem ty_tk161 : tk Tryz.prog 161 = some (false, 1) := by kernel_rfl
@[go_sem] theorem ty_zk161 : zk Tryz.prog 161 = some #[.nilFunc] := by kernel_rfl
@[go_sem] theorem ty_nk161 : nk Tryz.prog 161 = 4 := by kernel_rfl
@[go_sem] theorem ty_tk162 : tk Tryz.prog 162 = some (false, 1) := by kernel_rfl
@[go_sem] theorem ty_zk162 : zk Tryz.prog 162 = some #[.nilFunc] := by kernel_rfl
@[go_sem] theorem ty_nk162 : nk Tryz.prog 162 = 4 := by kernel_rfl
@[go_sem] theorem ty_tk163 : tk Tryz.prog 163 = some (false, 1) := by kernel_rfl
@[go_sem] theorem ty_zk163 : zk Tryz.prog 163 = some #[.int .i64 0] := by kernel_rfl
@[go_sem] theorem ty_tk165 : tk Tryz.prog 165 = some (false, 1) := by kernel_rfl
@[go_sem] theorem ty_zk165 : zk Tryz.prog 165 = some #[.nilFunc] := by kernel_rfl
@[go_sem] theorem ty_nk165 : nk Tryz.prog 165 = 4 := by kernel_rfl
@[go_sem] theorem ty_tk166 : tk Tryz.prog 166 = some (false, 1) := by kernel_rfl
@[go_sem] theorem ty_zk166 : zk Tryz.prog 166 = some #[.nilFunc] := by kernel_rfl
@[go_sem] theorem ty_nk166 : nk Tryz.prog 166 = 4 := by kernel_rfl
@[go_sem] theorem ty_tk167 : tk Tryz.prog 167 = some (false, 1) := by kernel_rfl
@[go_sem] theorem ty_zk167 : zk Tryz.prog 167 = some #[.nilFunc] := by kernel_rfl
@[go_sem] theorem ty_nk167 : nk Tryz.prog 167 = 4 := by kernel_rfl
@[go_sem] theorem ty_tk168 : tk Tryz.prog 168 = some (false, 1) := by kernel_rfl
@[go_sem] theorem ty_zk168 : zk Tryz.prog 168 = some #[.nilFunc] := by kernel_rfl
@[go_sem] theorem ty_nk168 : nk Tryz.prog 168 = 4 := by kernel_rfl
@[go_sem] theorem ty_tk169 : tk Tryz.prog 169 = some (false, 1) := by kernel_rfl
@[go_sem] theorem ty_zk169 : zk Tryz.prog 169 = some #[.nilFunc] := by kernel_rfl
@[go_sem] theorem ty_nk169 : nk Tryz.prog 169 = 4 := by kernel_rfl
@[go_sem] theorem ty_tk170 : tk Tryz.prog 170 = some (false, 1) := by kernel_rfl
@[go_sem] theorem ty_zk170 : zk Tryz.prog 170 = some #[.int .u32 0] := by kernel_rfl
@[go_sem] theorem ty_tk171 : tk Tryz.prog 171 = some (false, 1) := by kernel_rfl
@[go_sem] theorem ty_zk171 : zk Tryz.prog 171 = some #[.nilFunc] := by kernel_rfl
@[go_sem] theorem ty_nk171 : nk Tryz.prog 171 = 4 := by kernel_rfl
@[go_sem] theorem ty_tk172 : tk Tryz.prog 172 = some (false, 1) := by kernel_rfl
@[go_sem] theorem ty_zk172 : zk Tryz.prog 172 = some #[.int .u64 0] := by kernel_rfl
@[go_sem] theorem ty_tk173 : tk Tryz.prog 173 = some (false, 1) := by kernel_rfl
@[go_sem] theorem ty_zk173 : zk Tryz.prog 173 = some #[.nilFunc] := by kernel_rfl
@[go_sem] theorem ty_nk173 : nk Tryz.prog 173 = 4 := by kernel_rfl
@[go_sem] theorem ty_tk174 : tk Tryz.prog 174 = some (false, 1) := by kernel_rfl
@[go_sem] theorem ty_zk174 : zk Tryz.prog 174 = some #[.nilFunc] := by kernel_rfl
@[go_sem] theorem ty_nk174 : nk Tryz.prog 174 = 4 := by kernel_rfl
@[go_sem] theorem ty_tk175 : tk Tryz.prog 175 = some (false, 1) := by kernel_rfl
@[go_sem] theorem ty_zk175 : zk Tryz.prog 175 = some #[.nilFunc] := by kernel_rfl
@[go_sem] theorem ty_nk175 : nk Tryz.prog 175 = 4 := by kernel_rfl
@[go_sem] theorem ty_tk176 : tk Tryz.prog 176 = some (false, 1) := by kernel_rfl
@[go_sem] theorem ty_zk176 : zk Tryz.prog 176 = some #[.nilFunc] := by kernel_rfl
@[go_sem] theorem ty_nk176 : nk Tryz.prog 176 = 4 := by kernel_rfl
@[go_sem] theorem ty_tk178 : tk Tryz.prog 178 = some (false, 1) := by kernel_rfl
@[go_sem] theorem ty_zk178 : zk Tryz.prog 178 = some #[.nilFunc] := by kernel_rfl
@[go_sem] theorem ty_nk178 : nk Tryz.prog 178 = 4 := by kernel_rfl
@[go_sem] theorem ty_tk179 : tk Tryz.prog 179 = some (false, 1) := by kernel_rfl
@[go_sem] theorem ty_zk179 : zk Tryz.prog 179 = some #[.nilFunc] := by kernel_rfl
@[go_sem] theorem ty_nk179 : nk Tryz.prog 179 = 4 := by kernel_rfl
@[go_sem] theorem ty_tk180 : tk Tryz.prog 180 = some (false, 1) := by kernel_rfl
@[go_sem] theorem ty_zk180 : zk Tryz.prog 180 = some #[.nilFunc] := by kernel_rfl
@[go_sem] theorem ty_nk180 : nk Tryz.prog 180 = 4 := by kernel_rfl
@[go_sem] theorem ty_tk182 : tk Tryz.prog 182 = some (false, 1) := by kernel_rfl
@[go_sem] theorem ty_zk182 : zk Tryz.prog 182 = some #[.nilFunc] := by kernel_rfl
@[go_sem] theorem ty_nk182 : nk Tryz.prog 182 = 4 := by kernel_rfl
@[go_sem] theorem ty_tk184 : tk Tryz.prog 184 = some (false, 1) := by kernel_rfl
@[go_sem] theorem ty_zk184 : zk Tryz.prog 184 = some #[.nilFunc] := by kernel_rfl
@[go_sem] theorem ty_nk184 : nk Tryz.prog 184 = 4 := by kernel_rfl
@[go_sem] theorem ty_tk185 : tk Tryz.prog 185 = some (false, 1) := by kernel_rfl
@[go_sem] theorem ty_zk185 : zk Tryz.prog 185 = some #[.int .i64 0] := by kernel_rfl
@[go_sem] theorem ty_sk186 : sk Tryz.prog 186 = some 5 := by kernel_rfl
@[go_sem] theorem ty_tk186 : tk Tryz.prog 186 = some (false, 1) := by kernel_rfl
@[go_sem] theorem ty_zk186 : zk Tryz.prog 186 = some #[.slice none 0 0] := by kernel_rfl
@[go_sem] theorem ty_nk186 : nk Tryz.prog 186 = 3 := by kernel_rfl
@[go_sem] theorem ty_tk187 : tk Tryz.prog 187 = some (false, 1) := by kernel_rfl
@[go_sem] theorem ty_zk187 : zk Tryz.prog 187 = some #[.pointer none] := by kernel_rfl
@[go_sem] theorem ty_nk187 : nk Tryz.prog 187 = 2 := by kernel_rfl
@[go_sem] theorem ty_tk188 : tk Tryz.prog 188 = some (false, 1) := by kernel_rfl
@[go_sem] theorem ty_zk188 : zk Tryz.prog 188 = some #[.nilFunc] := by kernel_rfl
@[go_sem] theorem ty_nk188 : nk Tryz.prog 188 = 4 := by kernel_rfl
@[go_sem] theorem ty_tk189 : tk Tryz.prog 189 = some (false, 1) := by kernel_rfl
@[go_sem] theorem ty_zk189 : zk Tryz.prog 189 = some #[.nilFunc] := by kernel_rfl
@[go_sem] theorem ty_nk189 : nk Tryz.prog 189 = 4 := by kernel_rfl
@[go_sem] theorem ty_tk190 : tk Tryz.prog 190 = some (false, 1) := by kernel_rfl
@[go_sem] theorem ty_zk190 : zk Tryz.prog 190 = some #[.nilFunc] := by kernel_rfl
@[go_sem] theorem ty_nk190 : nk Tryz.prog 190 = 4 := by kernel_rfl
@[go_sem] theorem ty_tk192 : tk Tryz.prog 192 = some (false, 1) := by kernel_rfl
@[go_sem] theorem ty_zk192 : zk Tryz.prog 192 = some #[.nilFunc] := by kernel_rfl
@[go_sem] theorem ty_nk192 : nk Tryz.prog 192 = 4 := by kernel_rfl
@[go_sem] theorem ty_tk193 : tk Tryz.prog 193 = some (false, 1) := by kernel_rfl
@[go_sem] theorem ty_zk193 : zk Tryz.prog 193 = some #[.nilFunc] := by kernel_rfl
@[go_sem] theorem ty_nk193 : nk Tryz.prog 193 = 4 := by kernel_rfl
@[go_sem] theorem ty_tk194 : tk Tryz.prog 194 = some (false, 1) := by kernel_rfl
@[go_sem] theorem ty_zk194 : zk Tryz.prog 194 = some #[.nilFunc] := by kernel_rfl
@[go_sem] theorem ty_nk194 : nk Tryz.prog 194 = 4 := by kernel_rfl
@[go_sem] theorem ty_tk195 : tk Tryz.prog 195 = some (false, 1) := by kernel_rfl
@[go_sem] theorem ty_zk195 : zk Tryz.prog 195 = some #[.nilFunc] := by kernel_rfl
@[go_sem] theorem ty_nk195 : nk Tryz.prog 195 = 4 := by kernel_rfl
@[go_sem] theorem ty_tk196 : tk Tryz.prog 196 = some (false, 1) := by kernel_rfl
@[go_sem] theorem ty_zk196 : zk Tryz.prog 196 = some #[.nilFunc] := by kernel_rfl
@[go_sem] theorem ty_nk196 : nk Tryz.prog 196 = 4 := by kernel_rfl
@[go_sem] theorem ty_tk197 : tk Tryz.prog 197 = some (false, 1) := by kernel_rfl
@[go_sem] theorem ty_zk197 : zk Tryz.prog 197 = some #[.nilFunc] := by kernel_rfl
@[go_sem] theorem ty_nk197 : nk Tryz.prog 197 = 4 := by kernel_rfl
@[go_sem] theorem ty_tk198 : tk Tryz.prog 198 = some (false, 1) := by kernel_rfl
@[go_sem] theorem ty_zk198 : zk Tryz.prog 198 = some #[.int .u64 0] := by kernel_rfl
@[go_sem] theorem ty_tk199 : tk Tryz.prog 199 = some (false, 1) := by kernel_rfl
@[go_sem] theorem ty_zk199 : zk Tryz.prog 199 = some #[.nilFunc] := by kernel_rfl
@[go_sem] theorem ty_nk199 : nk Tryz.prog 199 = 4 := by kernel_rfl
@[go_sem] theorem ty_tk200 : tk Tryz.prog 200 = some (false, 1) := by kernel_rfl
@[go_sem] theorem ty_zk200 : zk Tryz.prog 200 = some #[.nilFunc] := by kernel_rfl
@[go_sem] theorem ty_nk200 : nk Tryz.prog 200 = 4 := by kernel_rfl
@[go_sem] theorem ty_tk201 : tk Tryz.prog 201 = some (false, 1) := by kernel_rfl
@[go_sem] theorem ty_zk201 : zk Tryz.prog 201 = some #[.nilFunc] := by kernel_rfl
@[go_sem] theorem ty_nk201 : nk Tryz.prog 201 = 4 := by kernel_rfl
@[go_sem] theorem ty_tk202 : tk Tryz.prog 202 = some (false, 1) := by kernel_rfl
@[go_sem] theorem ty_zk202 : zk Tryz.prog 202 = some #[.pointer none] := by kernel_rfl
@[go_sem] theorem ty_nk202 : nk Tryz.prog 202 = 2 := by kernel_rfl
@[go_sem] theorem ty_tk203 : tk Tryz.prog 203 = some (false, 1) := by kernel_rfl
@[go_sem] theorem ty_zk203 : zk Tryz.prog 203 = some #[.nilFunc] := by kernel_rfl
@[go_sem] theorem ty_nk203 : nk Tryz.prog 203 = 4 := by kernel_rfl
@[go_sem] theorem ty_tk205 : tk Tryz.prog 205 = some (false, 1) := by kernel_rfl
@[go_sem] theorem ty_zk205 : zk Tryz.prog 205 = some #[.nilFunc] := by kernel_rfl
@[go_sem] theorem ty_nk205 : nk Tryz.prog 205 = 4 := by kernel_rfl
@[go_sem] theorem ty_tk206 : tk Tryz.prog 206 = some (false, 1) := by kernel_rfl
@[go_sem] theorem ty_zk206 : zk Tryz.prog 206 = some #[.nilFunc] := by kernel_rfl
@[go_sem] theorem ty_nk206 : nk Tryz.prog 206 = 4 := by kernel_rfl
@[go_sem] theorem ty_tk208 : tk Tryz.prog 208 = some (false, 1) := by kernel_rfl
@[go_sem] theorem ty_zk208 : zk Tryz.prog 208 = some #[.nilFunc] := by kernel_rfl
@[go_sem] theorem ty_nk208 : nk Tryz.prog 208 = 4 := by kernel_rfl
@[go_sem] theorem ty_tk209 : tk Tryz.prog 209 = some (false, 1) := by kernel_rfl
@[go_sem] theorem ty_zk209 : zk Tryz.prog 209 = some #[.nilFunc] := by kernel_rfl
@[go_sem] theorem ty_nk209 : nk Tryz.prog 209 = 4 := by kernel_rfl
@[go_sem] theorem ty_tk211 : tk Tryz.prog 211 = some (false, 1) := by kernel_rfl
@[go_sem] theorem ty_zk211 : zk Tryz.prog 211 = some #[.nilFunc] := by kernel_rfl
@[go_sem] theorem ty_nk211 : nk Tryz.prog 211 = 4 := by kernel_rfl
@[go_sem] theorem ty_tk213 : tk Tryz.prog 213 = some (false, 1) := by kernel_rfl
@[go_sem] theorem ty_zk213 : zk Tryz.prog 213 = some #[.nilFunc] := by kernel_rfl
@[go_sem] theorem ty_nk213 : nk Tryz.prog 213 = 4 := by kernel_rfl
@[go_sem] theorem ty_tk214 : tk Tryz.prog 214 = some (false, 1) := by kernel_rfl
@[go_sem] theorem ty_zk214 : zk Tryz.prog 214 = some #[.nilFunc] := by kernel_rfl
@[go_sem] theorem ty_nk214 : nk Tryz.prog 214 = 4 := by kernel_rfl
@[go_sem] theorem ty_tk215 : tk Tryz.prog 215 = some (false, 1) := by kernel_rfl
@[go_sem] theorem ty_zk215 : zk Tryz.prog 215 = some #[.nilFunc] := by kernel_rfl
@[go_sem] theorem ty_nk215 : nk Tryz.prog 215 = 4 := by kernel_rfl
@[go_sem] theorem ty_tk216 : tk Tryz.prog 216 = some (false, 1) := by kernel_rfl
@[go_sem] theorem ty_zk216 : zk Tryz.prog 216 = some #[.nilFunc] := by kernel_rfl
@[go_sem] theorem ty_nk216 : nk Tryz.prog 216 = 4 := by kernel_rfl
@[go_sem] theorem ty_tk217 : tk Tryz.prog 217 = some (false, 1) := by kernel_rfl
@[go_sem] theorem ty_zk217 : zk Tryz.prog 217 = some #[.nilFunc] := by kernel_rfl
@[go_sem] theorem ty_nk217 : nk Tryz.prog 217 = 4 := by kernel_rfl
@[go_sem] theorem ty_tk218 : tk Tryz.prog 218 = some (false, 1) := by kernel_rfl
@[go_sem] theorem ty_zk218 : zk Tryz.prog 218 = some #[.nilFunc] := by kernel_rfl
@[go_sem] theorem ty_nk218 : nk Tryz.prog 218 = 4 := by kernel_rfl
@[go_sem] theorem ty_tk219 : tk Tryz.prog 219 = some (false, 1) := by kernel_rfl
@[go_sem] theorem ty_zk219 : zk Tryz.prog 219 = some #[.nilFunc] := by kernel_rfl
@[go_sem] theorem ty_nk219 : nk Tryz.prog 219 = 4 := by kernel_rfl
@[go_sem] theorem ty_tk220 : tk Tryz.prog 220 = some (true, 3) := by kernel_rfl
@[go_sem] theorem ty_zk220 : zk Tryz.prog 220 = some #[.string ⟨#[]⟩, .string ⟨#[]⟩, .nilIface] := by kernel_rfl
@[go_sem] theorem ty_fk220_0 : fk Tryz.prog 220 0 = some (0, 9) := by kernel_rfl
@[go_sem] theorem ty_fk220_1 : fk Tryz.prog 220 1 = some (1, 9) := by kernel_rfl
@[go_sem] theorem ty_fk220_2 : fk Tryz.prog 220 2 = some (2, 113) := by kernel_rfl
@[go_sem] theorem ty_bk220 : bk Tryz.prog 220 = some ([.string ⟨#[]⟩, .string ⟨#[]⟩, .nilIface], [(0, 1), (1, 1), (2, 1)]) := by kernel_rfl
@[go_sem] theorem ty_tk221 : tk Tryz.prog 221 = some (true, 3) := by kernel_rfl
@[go_sem] theorem ty_zk221 : zk Tryz.prog 221 = some #[.string ⟨#[]⟩, .string ⟨#[]⟩, .nilIface] := by kernel_rfl
@[go_sem] theorem ty_fk221_0 : fk Tryz.prog 221 0 = some (0, 9) := by kernel_rfl
@[go_sem] theorem ty_fk221_1 : fk Tryz.prog 221 1 = some (1, 9) := by kernel_rfl
@[go_sem] theorem ty_fk221_2 : fk Tryz.prog 221 2 = some (2, 113) := by kernel_rfl
@[go_sem] theorem ty_bk221 : bk Tryz.prog 221 = some ([.string ⟨#[]⟩, .string ⟨#[]⟩, .nilIface], [(0, 1), (1, 1), (2, 1)]) := by kernel_rfl
@[go_sem] theorem ty_tk222 : tk Tryz.prog 222 = some (false, 1) := by kernel_rfl
@[go_sem] theorem ty_zk222 : zk Tryz.prog 222 = some #[.nilFunc] := by kernel_rfl
@[go_sem] theorem ty_nk222 : nk Tryz.prog 222 = 4 := by kernel_rfl
@[go_sem] theorem ty_tk223 : tk Tryz.prog 223 = some (false, 1) := by kernel_rfl
@[go_sem] theorem ty_zk223 : zk Tryz.prog 223 = some #[.nilFunc] := by kernel_rfl
@[go_sem] theorem ty_nk223 : nk Tryz.prog 223 = 4 := by kernel_rfl
@[go_sem] theorem ty_tk224 : tk Tryz.prog 224 = some (false, 1) := by kernel_rfl
@[go_sem] theorem ty_zk224 : zk Tryz.prog 224 = some #[.nilFunc] := by kernel_rfl
@[go_sem] theorem ty_nk224 : nk Tryz.prog 224 = 4 := by kernel_rfl
@[go_sem] theorem ty_tk225 : tk Tryz.prog 225 = some (false, 1) := by kernel_rfl
@[go_sem] theorem ty_zk225 : zk Tryz.prog 225 = some #[.nilFunc] := by kernel_rfl
@[go_sem] theorem ty_nk225 : nk Tryz.prog 225 = 4 := by kernel_rfl
@[go_sem] theorem ty_tk226 : tk Tryz.prog 226 = some (false, 1) := by kernel_rfl
@[go_sem] theorem ty_zk226 : zk Tryz.prog 226 = some #[.nilFunc] := by kernel_rfl
@[go_sem] theorem ty_nk226 : nk Tryz.prog 226 = 4 := by kernel_rfl
@[go_sem] theorem ty_tk227 : tk Tryz.prog 227 = some (false, 1) := by kernel_rfl
@[go_sem] theorem ty_zk227 : zk Tryz.prog 227 = some #[.nilFunc] := by kernel_rfl
@[go_sem] theorem ty_nk227 : nk Tryz.prog 227 = 4 := by kernel_rfl
@[go_sem] theorem ty_tk228 : tk Tryz.prog 228 = some (false, 1) := by kernel_rfl
@[go_sem] theorem ty_zk228 : zk Tryz.prog 228 = some #[.nilFunc] := by kernel_rfl
@[go_sem] theorem ty_nk228 : nk Tryz.prog 228 = 4 := by kernel_rfl
@[go_sem] theorem ty_tk229 : tk Tryz.prog 229 = some (false, 1) := by kernel_rfl
@[go_sem] theorem ty_zk229 : zk Tryz.prog 229 = some #[.nilFunc] := by kernel_rfl
@[go_sem] theorem ty_nk229 : nk Tryz.prog 229 = 4 := by kernel_rfl
@[go_sem] theorem ty_tk230 : tk Tryz.prog 230 = some (false, 1) := by kernel_rfl
@[go_sem] theorem ty_zk230 : zk Tryz.prog 230 = some #[.pointer none] := by kernel_rfl
@[go_sem] theorem ty_nk230 : nk Tryz.prog 230 = 2 := by kernel_rfl
@[go_sem] theorem ty_tk232 : tk Tryz.prog 232 = some (false, 1) := by kernel_rfl
@[go_sem] theorem ty_zk232 : zk Tryz.prog 232 = some #[.nilFunc] := by kernel_rfl
@[go_sem] theorem ty_nk232 : nk Tryz.prog 232 = 4 := by kernel_rfl
@[go_sem] theorem ty_tk233 : tk Tryz.prog 233 = some (false, 1) := by kernel_rfl
@[go_sem] theorem ty_zk233 : zk Tryz.prog 233 = some #[.nilFunc] := by kernel_rfl
@[go_sem] theorem ty_nk233 : nk Tryz.prog 233 = 4 := by kernel_rfl
@[go_sem] theorem ty_tk234 : tk Tryz.prog 234 = some (false, 1) := by kernel_rfl
@[go_sem] theorem ty_zk234 : zk Tryz.prog 234 = some #[.nilFunc] := by kernel_rfl
@[go_sem] theorem ty_nk234 : nk Tryz.prog 234 = 4 := by kernel_rfl
@[go_sem] theorem ty_tk235 : tk Tryz.prog 235 = some (false, 1) := by kernel_rfl
@[go_sem] theorem ty_zk235 : zk Tryz.prog 235 = some #[.nilFunc] := by kernel_rfl
@[go_sem] theorem ty_nk235 : nk Tryz.prog 235 = 4 := by kernel_rfl
@[go_sem] theorem ty_tk236 : tk Tryz.prog 236 = some (false, 1) := by kernel_rfl
@[go_sem] theorem ty_zk236 : zk Tryz.prog 236 = some #[.nilFunc] := by kernel_rfl
@[go_sem] theorem ty_nk236 : nk Tryz.prog 236 = 4 := by kernel_rfl
@[go_sem] theorem ty_tk237 : tk Tryz.prog 237 = some (false, 1) := by kernel_rfl
@[go_sem] theorem ty_zk237 : zk Tryz.prog 237 = some #[.nilFunc] := by kernel_rfl
@[go_sem] theorem ty_nk237 : nk Tryz.prog 237 = 4 := by kernel_rfl
@[go_sem] theorem ty_tk238 : tk Tryz.prog 238 = some (false, 1) := by kernel_rfl
@[go_sem] theorem ty_zk238 : zk Tryz.prog 238 = some #[.nilFunc] := by kernel_rfl
@[go_sem] theorem ty_nk238 : nk Tryz.prog 238 = 4 := by kernel_rfl
@[go_sem] theorem ty_tk240 : tk Tryz.prog 240 = some (false, 1) := by kernel_rfl
@[go_sem] theorem ty_zk240 : zk Tryz.prog 240 = some #[.nilFunc] := by kernel_rfl
@[go_sem] theorem ty_nk240 : nk Tryz.prog 240 = 4 := by kernel_rfl
@[go_sem] theorem ty_tk241 : tk Tryz.prog 241 = some (false, 1) := by kernel_rfl
@[go_sem] theorem ty_zk241 : zk Tryz.prog 241 = some #[.nilFunc] := by kernel_rfl
@[go_sem] theorem ty_nk241 : nk Tryz.prog 241 = 4 := by kernel_rfl
@[go_sem] theorem ty_tk243 : tk Tryz.prog 243 = some (false, 1) := by kernel_rfl
@[go_sem] theorem ty_zk243 : zk Tryz.prog 243 = some #[.nilFunc] := by kernel_rfl
@[go_sem] theorem ty_nk243 : nk Tryz.prog 243 = 4 := by kernel_rfl
@[go_sem] theorem ty_tk244 : tk Tryz.prog 244 = some (false, 1) := by kernel_rfl
@[go_sem] theorem ty_zk244 : zk Tryz.prog 244 = some #[.nilFunc] := by kernel_rfl
@[go_sem] theorem ty_nk244 : nk Tryz.prog 244 = 4 := by kernel_rfl
@[go_sem] theorem ty_sk245 : sk Tryz.prog 245 = some 172 := by kernel_rfl
@[go_sem] theorem ty_tk245 : tk Tryz.prog 245 = some (false, 1) := by kernel_rfl
@[go_sem] theorem ty_zk245 : zk Tryz.prog 245 = some #[.slice none 0 0] := by kernel_rfl
@[go_sem] theorem ty_nk245 : nk Tryz.prog 245 = 3 := by kernel_rfl
@[go_sem] theorem ty_sk246 : sk Tryz.prog 246 = some 172 := by kernel_rfl
@[go_sem] theorem ty_tk246 : tk Tryz.prog 246 = some (false, 1) := by kernel_rfl
@[go_sem] theorem ty_zk246 : zk Tryz.prog 246 = some #[.slice none 0 0] := by kernel_rfl
@[go_sem] theorem ty_nk246 : nk Tryz.prog 246 = 3 := by kernel_rfl
@[go_sem] theorem ty_tk247 : tk Tryz.prog 247 = some (false, 1) := by kernel_rfl
@[go_sem] theorem ty_zk247 : zk Tryz.prog 247 = some #[.nilFunc] := by kernel_rfl
@[go_sem] theorem ty_nk247 : nk Tryz.prog 247 = 4 := by kernel_rfl
@[go_sem] theorem ty_tk248 : tk Tryz.prog 248 = some (false, 1) := by kernel_rfl
@[go_sem] theorem ty_zk248 : zk Tryz.prog 248 = some #[.nilFunc] := by kernel_rfl
@[go_sem] theorem ty_nk248 : nk Tryz.prog 248 = 4 := by kernel_rfl
@[go_sem] theorem ty_tk250 : tk Tryz.prog 250 = some (false, 1) := by kernel_rfl
@[go_sem] theorem ty_zk250 : zk Tryz.prog 250 = some #[.nilFunc] := by kernel_rfl
@[go_sem] theorem ty_nk250 : nk Tryz.prog 250 = 4 := by kernel_rfl
@[go_sem] theorem ty_tk251 : tk Tryz.prog 251 = some (false, 1) := by kernel_rfl
@[go_sem] theorem ty_zk251 : zk Tryz.prog 251 = some #[.nilFunc] := by kernel_rfl
@[go_sem] theorem ty_nk251 : nk Tryz.prog 251 = 4 := by kernel_rfl
@[go_sem] theorem ty_tk253 : tk Tryz.prog 253 = some (false, 1) := by kernel_rfl
@[go_sem] theorem ty_zk253 : zk Tryz.prog 253 = some #[.nilFunc] := by kernel_rfl
@[go_sem] theorem ty_nk253 : nk Tryz.prog 253 = 4 := by kernel_rfl
@[go_sem] theorem ty_tk254 : tk Tryz.prog 254 = some (false, 1) := by kernel_rfl
@[go_sem] theorem ty_zk254 : zk Tryz.prog 254 = some #[.nilFunc] := by kernel_rfl
@[go_sem] theorem ty_nk254 : nk Tryz.prog 254 = 4 := by kernel_rfl
@[go_sem] theorem ty_tk255 : tk Tryz.prog 255 = some (false, 1) := by kernel_rfl
@[go_sem] theorem ty_zk255 : zk Tryz.prog 255 = some #[.nilFunc] := by kernel_rfl
@[go_sem] theorem ty_nk255 : nk Tryz.prog 255 = 4 := by kernel_rfl
@[go_sem] theorem ty_tk256 : tk Tryz.prog 256 = some (false, 1) := by kernel_rfl
@[go_sem] theorem ty_zk256 : zk Tryz.prog 256 = some #[.nilFunc] := by kernel_rfl
@[go_sem] theorem ty_nk256 : nk Tryz.prog 256 = 4 := by kernel_rfl
@[go_sem] theorem ty_tk257 : tk Tryz.prog 257 = some (false, 1) := by kernel_rfl
@[go_sem] theorem ty_zk257 : zk Tryz.prog 257 = some #[.nilFunc] := by kernel_rfl
@[go_sem] theorem ty_nk257 : nk Tryz.prog 257 = 4 := by kernel_rfl
@[go_sem] theorem ty_tk258 : tk Tryz.prog 258 = some (false, 1) := by kernel_rfl
@[go_sem] theorem ty_zk258 : zk Tryz.prog 258 = some #[.pointer none] := by kernel_rfl
@[go_sem] theorem ty_nk258 : nk Tryz.prog 258 = 2 := by kernel_rfl
@[go_sem] theorem ty_tk259 : tk Tryz.prog 259 = some (false, 1) := by kernel_rfl
@[go_sem] theorem ty_zk259 : zk Tryz.prog 259 = some #[.pointer none] := by kernel_rfl
@[go_sem] theorem ty_nk259 : nk Tryz.prog 259 = 2 := by kernel_rfl
@[go_sem] theorem ty_tk260 : tk Tryz.prog 260 = some (true, 1) := by kernel_rfl
@[go_sem] theorem ty_zk260 : zk Tryz.prog 260 = some #[.string ⟨#[]⟩] := by kernel_rfl
@[go_sem] theorem ty_fk260_0 : fk Tryz.prog 260 0 = some (0, 9) := by kernel_rfl
@[go_sem] theorem ty_bk260 : bk Tryz.prog 260 = some ([.string ⟨#[]⟩], [(0, 1)]) := by kernel_rfl
@[go_sem] theorem ty_tk261 : tk Tryz.prog 261 = some (true, 1) := by kernel_rfl
@[go_sem] theorem ty_zk261 : zk Tryz.prog 261 = some #[.string ⟨#[]⟩] := by kernel_rfl
@[go_sem] theorem ty_fk261_0 : fk Tryz.prog 261 0 = some (0, 9) := by kernel_rfl
@[go_sem] theorem ty_bk261 : bk Tryz.prog 261 = some ([.string ⟨#[]⟩], [(0, 1)]) := by kernel_rfl
@[go_sem] theorem ty_tk263 : tk Tryz.prog 263 = some (false, 1) := by kernel_rfl
@[go_sem] theorem ty_zk263 : zk Tryz.prog 263 = some #[.nilFunc] := by kernel_rfl
@[go_sem] theorem ty_nk263 : nk Tryz.prog 263 = 4 := by kernel_rfl
@[go_sem] theorem ty_tk264 : tk Tryz.prog 264 = some (false, 1) := by kernel_rfl
@[go_sem] theorem ty_zk264 : zk Tryz.prog 264 = some #[.pointer none] := by kernel_rfl
@[go_sem] theorem ty_nk264 : nk Tryz.prog 264 = 2 := by kernel_rfl
@[go_sem] theorem ty_tk265 : tk Tryz.prog 265 = some (true, 2) := by kernel_rfl
@[go_sem] theorem ty_zk265 : zk Tryz.prog 265 = some #[.pointer none, .slice none 0 0] := by kernel_rfl
@[go_sem] theorem ty_fk265_0 : fk Tryz.prog 265 0 = some (0, 264) := by kernel_rfl
@[go_sem] theorem ty_fk265_1 : fk Tryz.prog 265 1 = some (1, 186) := by kernel_rfl
@[go_sem] theorem ty_bk265 : bk Tryz.prog 265 = some ([.pointer none, .slice none 0 0], [(0, 1), (1, 1)]) := by kernel_rfl
@[go_sem] theorem ty_tk266 : tk Tryz.prog 266 = some (true, 2) := by kernel_rfl
@[go_sem] theorem ty_zk266 : zk Tryz.prog 266 = some #[.pointer none, .slice none 0 0] := by kernel_rfl
@[go_sem] theorem ty_fk266_0 : fk Tryz.prog 266 0 = some (0, 264) := by kernel_rfl
@[go_sem] theorem ty_fk266_1 : fk Tryz.prog 266 1 = some (1, 186) := by kernel_rfl
@[go_sem] theorem ty_bk266 : bk Tryz.prog 266 = some ([.pointer none, .slice none 0 0], [(0, 1), (1, 1)]) := by kernel_rfl
@[go_sem] theorem ty_tk267 : tk Tryz.prog 267 = some (false, 1) := by kernel_rfl
@[go_sem] theorem ty_zk267 : zk Tryz.prog 267 = some #[.nilFunc] := by kernel_rfl
@[go_sem] theorem ty_nk267 : nk Tryz.prog 267 = 4 := by kernel_rfl
@[go_sem] theorem ty_tk268 : tk Tryz.prog 268 = some (false, 1) := by kernel_rfl
@[go_sem] theorem ty_zk268 : zk Tryz.prog 268 = some #[.nilFunc] := by kernel_rfl
@[go_sem] theorem ty_nk268 : nk Tryz.prog 268 = 4 := by kernel_rfl
@[go_sem] theorem ty_ak269 : ak Tryz.prog 269 = some (24, 5) := by kernel_rfl
@[go_sem] theorem ty_tk269 : tk Tryz.prog 269 = some (true, 24) := by kernel_rfl
@[go_sem] theorem ty_zk269 : zk Tryz.prog 269 = some #[.int .u8 0, .int .u8 0, .int .u8 0, .int .u8 0, .int .u8 0, .int .u8 0, .int .u8 0, .int .u8 0, .int .u8 0, .int .u8 0, .int .u8 0, .int .u8 0, .int .u8 0, .int .u8 0, .int .u8 0, .int .u8 0, .int .u8 0, .int .u8 0, .int .u8 0, .int .u8 0, .int .u8 0, .int .u8 0, .int .u8 0, .int .u8 0] := by kernel_rfl
@[go_sem] theorem ty_tk270 : tk Tryz.prog 270 = some (false, 1) := by kernel_rfl
@[go_sem] theorem ty_zk270 : zk Tryz.prog 270 = some #[.nilFunc] := by kernel_rfl
@[go_sem] theorem ty_nk270 : nk Tryz.prog 270 = 4 := by kernel_rfl
@[go_sem] theorem ty_tk272 : tk Tryz.prog 272 = some (false, 1) := by kernel_rfl
@[go_sem] theorem ty_zk272 : zk Tryz.prog 272 = some #[.nilFunc] := by kernel_rfl
@[go_sem] theorem ty_nk272 : nk Tryz.prog 272 = 4 := by kernel_rfl
@[go_sem] theorem ty_tk274 : tk Tryz.prog 274 = some (false, 1) := by kernel_rfl
@[go_sem] theorem ty_zk274 : zk Tryz.prog 274 = some #[.nilFunc] := by kernel_rfl
@[go_sem] theorem ty_nk274 : nk Tryz.prog 274 = 4 := by kernel_rfl
@[go_sem] theorem ty_tk276 : tk Tryz.prog 276 = some (false, 1) := by kernel_rfl
@[go_sem] theorem ty_zk276 : zk Tryz.prog 276 = some #[.nilFunc] := by kernel_rfl
@[go_sem] theorem ty_nk276 : nk Tryz.prog 276 = 4 := by kernel_rfl
@[go_sem] theorem ty_tk277 : tk Tryz.prog 277 = some (false, 1) := by kernel_rfl
@[go_sem] theorem ty_zk277 : zk Tryz.prog 277 = some #[.nilFunc] := by kernel_rfl
@[go_sem] theorem ty_nk277 : nk Tryz.prog 277 = 4 := by kernel_rfl
@[go_sem] theorem ty_tk278 : tk Tryz.prog 278 = some (false, 1) := by kernel_rfl
@[go_sem] theorem ty_zk278 : zk Tryz.prog 278 = some #[.nilFunc] := by kernel_rfl
@[go_sem] theorem ty_nk278 : nk Tryz.prog 278 = 4 := by kernel_rfl
@[go_sem] theorem ty_tk279 : tk Tryz.prog 279 = some (false, 1) := by kernel_rfl
@[go_sem] theorem ty_zk279 : zk Tryz.prog 279 = some #[.nilFunc] := by kernel_rfl
@[go_sem] theorem ty_nk279 : nk Tryz.prog 279 = 4 := by kernel_rfl
@[go_sem] theorem ty_tk281 : tk Tryz.prog 281 = some (false, 1) := by kernel_rfl
@[go_sem] theorem ty_zk281 : zk Tryz.prog 281 = some #[.nilFunc] := by kernel_rfl
@[go_sem] theorem ty_nk281 : nk Tryz.prog 281 = 4 := by kernel_rfl
@[go_sem] theorem ty_tk282 : tk Tryz.prog 282 = some (false, 1) := by kernel_rfl
@[go_sem] theorem ty_zk282 : zk Tryz.prog 282 = some #[.nilFunc] := by kernel_rfl
@[go_sem] theorem ty_nk282 : nk Tryz.prog 282 = 4 := by kernel_rfl
@[go_sem] theorem ty_tk283 : tk Tryz.prog 283 = some (false, 1) := by kernel_rfl
@[go_sem] theorem ty_zk283 : zk Tryz.prog 283 = some #[.nilFunc] := by kernel_rfl
@[go_sem] theorem ty_nk283 : nk Tryz.prog 283 = 4 := by kernel_rfl
@[go_sem] theorem ty_ak284 : ak Tryz.prog 284 = some (20, 172) := by kernel_rfl
@[go_sem] theorem ty_tk284 : tk Tryz.prog 284 = some (true, 20) := by kernel_rfl
@[go_sem] theorem ty_zk284 : zk Tryz.prog 284 = some #[.int .u64 0, .int .u64 0, .int .u64 0, .int .u64 0, .int .u64 0, .int .u64 0, .int .u64 0, .int .u64 0, .int .u64 0, .int .u64 0, .int .u64 0, .int .u64 0, .int .u64 0, .int .u64 0, .int .u64 0, .int .u64 0, .int .u64 0, .int .u64 0, .int .u64 0, .int .u64 0] := by kernel_rfl
@[go_sem] theorem ty_ak285 : ak Tryz.prog 285 = some (65, 5) := by kernel_rfl
@[go_sem] theorem ty_tk285 : tk Tryz.prog 285 = some (true, 65) := by kernel_rfl
@[go_sem] theorem ty_tk287 : tk Tryz.prog 287 = some (false, 1) := by kernel_rfl
@[go_sem] theorem ty_zk287 : zk Tryz.prog 287 = some #[.nilFunc] := by kernel_rfl
@[go_sem] theorem ty_nk287 : nk Tryz.prog 287 = 4 := by kernel_rfl
@[go_sem] theorem ty_tk288 : tk Tryz.prog 288 = some (false, 1) := by kernel_rfl
@[go_sem] theorem ty_zk288 : zk Tryz.prog 288 = some #[.nilFunc] := by kernel_rfl
@[go_sem] theorem ty_nk288 : nk Tryz.prog 288 = 4 := by kernel_rfl
@[go_sem] theorem ty_ak289 : ak Tryz.prog 289 = some (32, 5) := by kernel_rfl
@[go_sem] theorem ty_tk289 : tk Tryz.prog 289 = some (true, 32) := by kernel_rfl
@[go_sem] theorem ty_zk289 : zk Tryz.prog 289 = some #[.int .u8 0, .int .u8 0, .int .u8 0, .int .u8 0, .int .u8 0, .int .u8 0, .int .u8 0, .int .u8 0, .int .u8 0, .int .u8 0, .int .u8 0, .int .u8 0, .int .u8 0, .int .u8 0, .int .u8 0, .int .u8 0, .int .u8 0, .int .u8 0, .int .u8 0, .int .u8 0, .int .u8 0, .int .u8 0, .int .u8 0, .int .u8 0, .int .u8 0, .int .u8 0, .int .u8 0, .int .u8 0, .int .u8 0, .int .u8 0, .int .u8 0, .int .u8 0] := by kernel_rfl
@[go_sem] theorem ty_ak290 : ak Tryz.prog 290 = some (64, 5) := by kernel_rfl
@[go_sem] theorem ty_tk290 : tk Tryz.prog 290 = some (true, 64) := by kernel_rfl
@[go_sem] theorem ty_zk290 : zk Tryz.prog 290 = some #[.int .u8 0, .int .u8 0, .int .u8 0, .int .u8 0, .int .u8 0, .int .u8 0, .int .u8 0, .int .u8 0, .int .u8 0, .int .u8 0, .int .u8 0, .int .u8 0, .int .u8 0, .int .u8 0, .int .u8 0, .int .u8 0, .int .u8 0, .int .u8 0, .int .u8 0, .int .u8 0, .int .u8 0, .int .u8 0, .int .u8 0, .int .u8 0, .int .u8 0, .int .u8 0, .int .u8 0, .int .u8 0, .int .u8 0, .int .u8 0, .int .u8 0, .int .u8 0, .int .u8 0, .int .u8 0, .int .u8 0, .int .u8 0, .int .u8 0, .int .u8 0, .int .u8 0, .int .u8 0, .int .u8 0, .int .u8 0, .int .u8 0, .int .u8 0, .int .u8 0, .int .u8 0, .int .u8 0, .int .u8 0, .int .u8 0, .int .u8 0, .int .u8 0, .int .u8 0, .int .u8 0, .int .u8 0, .int .u8 0, .int .u8 0, .int .u8 0, .int .u8 0, .int .u8 0, .int .u8 0, .int .u8 0, .int .u8 0, .int .u8 0, .int .u8 0] := by kernel_rfl
@[go_sem] theorem ty_tk291 : tk Tryz.prog 291 = some (true, 4) := by kernel_rfl
@[go_sem] theorem ty_zk291 : zk Tryz.prog 291 = some #[.pointer none, .pointer none, .pointer none, .string ⟨#[]⟩] := by kernel_rfl
@[go_sem] theorem ty_fk291_0 : fk Tryz.prog 291 0 = some (0, 17) := by kernel_rfl
@[go_sem] theorem ty_fk291_1 : fk Tryz.prog 291 1 = some (1, 17) := by kernel_rfl
@[go_sem] theorem ty_fk291_2 : fk Tryz.prog 291 2 = some (2, 17) := by kernel_rfl
@[go_sem] theorem ty_fk291_3 : fk Tryz.prog 291 3 = some (3, 9) := by kernel_rfl
@[go_sem] theorem ty_bk291 : bk Tryz.prog 291 = some ([.pointer none, .pointer none, .pointer none, .string ⟨#[]⟩], [(0, 1), (1, 1), (2, 1), (3, 1)]) := by kernel_rfl
@[go_sem] theorem ty_tk292 : tk Tryz.prog 292 = some (true, 4) := by kernel_rfl
@[go_sem] theorem ty_zk292 : zk Tryz.prog 292 = some #[.pointer none, .pointer none, .pointer none, .string ⟨#[]⟩] := by kernel_rfl
@[go_sem] theorem ty_fk292_0 : fk Tryz.prog 292 0 = some (0, 17) := by kernel_rfl
@[go_sem] theorem ty_fk292_1 : fk Tryz.prog 292 1 = some (1, 17) := by kernel_rfl
@[go_sem] theorem ty_fk292_2 : fk Tryz.prog 292 2 = some (2, 17) := by kernel_rfl
@[go_sem] theorem ty_fk292_3 : fk Tryz.prog 292 3 = some (3, 9) := by kernel_rfl
@[go_sem] theorem ty_bk292 : bk Tryz.prog 292 = some ([.pointer none, .pointer none, .pointer none, .string ⟨#[]⟩], [(0, 1), (1, 1), (2, 1), (3, 1)]) := by kernel_rfl
@[go_sem] theorem ty_ak293 : ak Tryz.prog 293 = some (0, 16) := by kernel_rfl
@[go_sem] theorem ty_tk293 : tk Tryz.prog 293 = some (true, 0) := by kernel_rfl
@[go_sem] theorem ty_zk293 : zk Tryz.prog 293 = some #[] := by kernel_rfl
@[go_sem] theorem ty_tk294 : tk Tryz.prog 294 = some (true, 0) := by kernel_rfl
@[go_sem] theorem ty_zk294 : zk Tryz.prog 294 = some #[] := by kernel_rfl
@[go_sem] theorem ty_fk294_0 : fk Tryz.prog 294 0 = some (0, 293) := by kernel_rfl
@[go_sem] theorem ty_bk294 : bk Tryz.prog 294 = some ([], [(0, 0)]) := by kernel_rfl
@[go_sem] theorem ty_tk295 : tk Tryz.prog 295 = some (true, 0) := by kernel_rfl
@[go_sem] theorem ty_zk295 : zk Tryz.prog 295 = some #[] := by kernel_rfl
@[go_sem] theorem ty_fk295_0 : fk Tryz.prog 295 0 = some (0, 293) := by kernel_rfl
@[go_sem] theorem ty_bk295 : bk Tryz.prog 295 = some ([], [(0, 0)]) := by kernel_rfl
@[go_sem] theorem ty_tk296 : tk Tryz.prog 296 = some (false, 1) := by kernel_rfl
@[go_sem] theorem ty_zk296 : zk Tryz.prog 296 = some #[.int .u8 0] := by kernel_rfl
@[go_sem] theorem ty_tk297 : tk Tryz.prog 297 = some (false, 1) := by kernel_rfl
@[go_sem] theorem ty_zk297 : zk Tryz.prog 297 = some #[.int .u8 0] := by kernel_rfl
@[go_sem] theorem ty_tk298 : tk Tryz.prog 298 = some (false, 1) := by kernel_rfl
@[go_sem] theorem ty_zk298 : zk Tryz.prog 298 = some #[.nilFunc] := by kernel_rfl
@[go_sem] theorem ty_nk298 : nk Tryz.prog 298 = 4 := by kernel_rfl
@[go_sem] theorem ty_tk299 : tk Tryz.prog 299 = some (false, 1) := by kernel_rfl
@[go_sem] theorem ty_zk299 : zk Tryz.prog 299 = some #[.int .i32 0] := by kernel_rfl
@[go_sem] theorem ty_tk300 : tk Tryz.prog 300 = some (false, 1) := by kernel_rfl
@[go_sem] theorem ty_zk300 : zk Tryz.prog 300 = some #[.int .i32 0] := by kernel_rfl
@[go_sem] theorem ty_ce3 : Tryz.prog.cellsOf 3 = 1 := by kernel_rfl
@[go_sem] theorem ty_be3 : Tryz.prog.bytesOf 3 = 8 := by kernel_rfl
@[go_sem] theorem ty_ce5 : Tryz.prog.cellsOf 5 = 1 := by kernel_rfl
@[go_sem] theorem ty_be5 : Tryz.prog.bytesOf 5 = 1 := by kernel_rfl
@[go_sem] theorem ty_ce32 : Tryz.prog.cellsOf 32 = 1 := by kernel_rfl
@[go_sem] theorem ty_be32 : Tryz.prog.bytesOf 32 = 24 := by kernel_rfl
@[go_sem] theorem ty_ce34 : Tryz.prog.cellsOf 34 = 1 := by kernel_rfl
@[go_sem] theorem ty_be34 : Tryz.prog.bytesOf 34 = 24 := by kernel_rfl
@[go_sem] theorem ty_ce50 : Tryz.prog.cellsOf 50 = 1 := by kernel_rfl
@[go_sem] theorem ty_be50 : Tryz.prog.bytesOf 50 = 16 := by kernel_rfl
@[go_sem] theorem ty_ce60 : Tryz.prog.cellsOf 60 = 2 := by kernel_rfl
@[go_sem] theorem ty_be60 : Tryz.prog.bytesOf 60 = 32 := by kernel_rfl
@[go_sem] theorem ty_ce172 : Tryz.prog.cellsOf 172 = 1 := by kernel_rfl
@[go_sem] theorem ty_be172 : Tryz.prog.bytesOf 172 = 8 := by kernel_rfl
attribute [go_sem] Tryz.underlying0 Tryz.underlying1 Tryz.underlying2 Tryz.underlying3 Tryz.underlying4 Tryz.underlying5 Tryz.underlying6 Tryz.underlying7 Tryz.underlying8 Tryz.underlying9 Tryz.underlying10 Tryz.underlying11 Tryz.underlying12 Tryz.underlying13 Tryz.underlying14 Tryz.underlying15 Tryz.underlying16 Tryz.underlying17 Tryz.underlying18 Tryz.underlying19 Tryz.underlying20 Tryz.underlying21 Tryz.underlying22 Tryz.underlying23 Tryz.underlying24 Tryz.underlying25 Tryz.underlying26 Tryz.underlying27 Tryz.underlying28 Tryz.underlying29 Tryz.underlying30 Tryz.underlying31 Tryz.underlying32 Tryz.underlying33 Tryz.underlying34 Tryz.underlying35 Tryz.underlying36 Tryz.underlying37 Tryz.underlying38 Tryz.underlying39 Tryz.underlying40 Tryz.underlying41 Tryz.underlying42 Tryz.underlying43 Tryz.underlying44 Tryz.underlying45 Tryz.underlying46 Tryz.underlying47 Tryz.underlying48 Tryz.underlying49 Tryz.underlying50 Tryz.underlying51 Tryz.underlying52 Tryz.underlying53 Tryz.underlying54 Tryz.underlying55 Tryz.underlying56 Tryz.underlying57 Tryz.underlying58 Tryz.underlying59 Tryz.underlying60 Tryz.underlying61 Tryz.underlying62 Tryz.underlying63 Tryz.underlying64 Tryz.underlying65 Tryz.underlying66 Tryz.underlying67 Tryz.underlying68 Tryz.underlying69 Tryz.underlying70 Tryz.underlying71 Tryz.underlying72 Tryz.underlying73 Tryz.underlying74 Tryz.underlying75 Tryz.underlying76 Tryz.underlying77 Tryz.underlying78 Tryz.underlying79 Tryz.underlying80 Tryz.underlying81 Tryz.underlying82 Tryz.underlying83 Tryz.underlying84 Tryz.underlying85 Tryz.underlying86 Tryz.underlying87 Tryz.underlying88 Tryz.underlying89 Tryz.underlying90 Tryz.underlying91 Tryz.underlying92 Tryz.underlying93 Tryz.underlying94 Tryz.underlying95 Tryz.underlying96 Tryz.underlying97 Tryz.underlying98 Tryz.underlying99 Tryz.underlying100 Tryz.underlying101 Tryz.underlying102 Tryz.underlying103 Tryz.underlying104 Tryz.underlying105 Tryz.underlying106 Tryz.underlying107 Tryz.underlying108 Tryz.underlying109 Tryz.underlying110 Tryz.underlying111 Tryz.underlying112 Tryz.underlying113 Tryz.underlying114 Tryz.underlying115 Tryz.underlying116 Tryz.underlying117 Tryz.underlying118 Tryz.underlying119 Tryz.underlying120 Tryz.underlying121 Tryz.underlying122 Tryz.underlying123 Tryz.underlying124 Tryz.underlying125 Tryz.underlying126 Tryz.underlying127 Tryz.underlying128 Tryz.underlying129 Tryz.underlying130 Tryz.underlying131 Tryz.underlying132 Tryz.underlying133 Tryz.underlying134 Tryz.underlying135 Tryz.underlying136 Tryz.underlying137 Tryz.underlying138 Tryz.underlying139 Tryz.underlying140 Tryz.underlying141 Tryz.underlying142 Tryz.underlying143 Tryz.underlying144 Tryz.underlying145 Tryz.underlying146 Tryz.underlying147 Tryz.underlying148 Tryz.underlying149 Tryz.underlying150 Tryz.underlying151 Tryz.underlying152 Tryz.underlying153 Tryz.underlying154 Tryz.underlying155 Tryz.underlying156 Tryz.underlying157 Tryz.underlying158 Tryz.underlying159 Tryz.underlying160 Tryz.underlying161 Tryz.underlying162 Tryz.underlying163 Tryz.underlying164 Tryz.underlying165 Tryz.underlying166 Tryz.underlying167 Tryz.underlying168 Tryz.underlying169 Tryz.underlying170 Tryz.underlying171 Tryz.underlying172 Tryz.underlying173 Tryz.underlying174 Tryz.underlying175 Tryz.underlying176 Tryz.underlying177 Tryz.underlying178 Tryz.underlying179 Tryz.underlying180 Tryz.underlying181 Tryz.underlying182 Tryz.underlying183 Tryz.underlying184 Tryz.underlying185 Tryz.underlying186 Tryz.underlying187 Tryz.underlying188 Tryz.underlying189 Tryz.underlying190 Tryz.underlying191 Tryz.underlying192 Tryz.underlying193 Tryz.underlying194 Tryz.underlying195 Tryz.underlying196 Tryz.underlying197 Tryz.underlying198 Tryz.underlying199 Tryz.underlying200 Tryz.underlying201 Tryz.underlying202 Tryz.underlying203 Tryz.underlying204 Tryz.underlying205 Tryz.underlying206 Tryz.underlying207 Tryz.underlying208 Tryz.underlying209 Tryz.underlying210 Tryz.underlying211 Tryz.underlying212 Tryz.underlying213 Tryz.underlying214 Tryz.underlying215 Tryz.underlying216 Tryz.underlying217 Tryz.underlying218 Tryz.underlying219 Tryz.underlying220 Tryz.underlying221 Tryz.underlying222 Tryz.underlying223 Tryz.underlying224 Tryz.underlying225 Tryz.underlying226 Tryz.underlying227 Tryz.underlying228 Tryz.underlying229 Tryz.underlying230 Tryz.underlying231 Tryz.underlying232 Tryz.underlying233 Tryz.underlying234 Tryz.underlying235 Tryz.underlying236 Tryz.underlying237 Tryz.underlying238 Tryz.underlying239 Tryz.underlying240 Tryz.underlying241 Tryz.underlying242 Tryz.underlying243 Tryz.underlying244 Tryz.underlying245 Tryz.underlying246 Tryz.underlying247 Tryz.underlying248 Tryz.underlying249 Tryz.underlying250 Tryz.underlying251 Tryz.underlying252 Tryz.underlying253 Tryz.underlying254 Tryz.underlying255 Tryz.underlying256 Tryz.underlying257 Tryz.underlying258 Tryz.underlying259 Tryz.underlying260 Tryz.underlying261 Tryz.underlying262 Tryz.underlying263 Tryz.underlying264 Tryz.underlying265 Tryz.underlying266 Tryz.underlying267 Tryz.underlying268 Tryz.underlying269 Tryz.underlying270 Tryz.underlying271 Tryz.underlying272 Tryz.underlying273 Tryz.underlying274 Tryz.underlying275 Tryz.underlying276 Tryz.underlying277 Tryz.underlying278 Tryz.underlying279 Tryz.underlying280 Tryz.underlying281 Tryz.underlying282 Tryz.underlying283 Tryz.underlying284 Tryz.underlying285 Tryz.underlying286 Tryz.underlying287 Tryz.underlying288 Tryz.underlying289 Tryz.underlying290 Tryz.underlying291 Tryz.underlying292 Tryz.underlying293 Tryz.underlying294 Tryz.underlying295 Tryz.underlying296 Tryz.underlying297 Tryz.underlying298 Tryz.underlying299 Tryz.underlying300
end Go.Proofs.Gh
