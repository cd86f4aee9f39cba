/- Part 5 of a proof: walks of the program in a small memory, plain lemmas. -/
import Derived.Test.YthnmdhfbbbfleaaGreatDoorProg
import Derived.Test.YthnmdhfbbbfleaaGreatDoorU2
set_option linter.all false
/- The functions' plans, and the check of each function by the kernel. Printed by genok.py. -/
namespace Go.Proofs.Gh
open Go Go.Proofs
set_option maxRecDepth 100000
def noPl : Plans := fun _ => []
theorem ok3 : funcOk Tryz.prog 6 noPl 3 3 = true := by decide +kernel
def pl4 : Plans := fun
  | 9 => [(0, []), (1, []), (2, []), (3, []), (4, []), (5, []), (6, []), (7, []), (8, []), (9, []), (10, []), (15, []), (11, []), (12, []), (13, []), (14, []), (16, []), (17, [])]
  | 14 => [(0, []), (1, []), (4, []), (5, []), (7, []), (2, [5]), (3, []), (6, []), (8, []), (9, [])]
  | _ => []
theorem ok4 : funcOk Tryz.prog 6 pl4 4 2 = true := by decide +kernel
def pl5 : Plans := fun
  | 10 => [(0, []), (1, []), (2, []), (3, []), (5, []), (6, []), (4, [5]), (7, []), (8, []), (9, []), (10, [])]
  | _ => []
theorem ok5 : funcOk Tryz.prog 6 pl5 5 2 = true := by decide +kernel
def pl6 : Plans := fun
  | 19 => [(0, []), (1, []), (3, []), (4, []), (5, []), (6, []), (7, []), (8, []), (9, []), (10, []), (13, []), (2, [5, 7]), (11, []), (12, [])]
  | 22 => [(0, []), (1, []), (2, []), (3, []), (5, []), (6, []), (7, []), (8, []), (4, [1, 5, 8]), (9, [1]), (10, [1]), (11, []), (12, []), (13, []), (14, [])]
  | _ => []
theorem ok6 : funcOk Tryz.prog 6 pl6 6 2 = true := by decide +kernel
def pl7 : Plans := fun
  | 3 => [(0, []), (2, []), (4, []), (5, []), (1, [2]), (3, []), (6, []), (7, [])]
  | 8 => [(0, []), (1, []), (2, []), (3, []), (5, []), (6, []), (7, []), (8, []), (9, []), (12, []), (4, [1, 6, 8]), (10, [1]), (11, []), (13, [])]
  | _ => []
theorem ok7 : funcOk Tryz.prog 6 pl7 7 2 = true := by decide +kernel
def pl8 : Plans := fun
  | 3 => [(0, []), (2, []), (4, []), (5, []), (1, [2]), (3, []), (6, []), (7, [])]
  | 13 => [(0, []), (1, []), (3, []), (2, [3]), (4, [])]
  | 19 => [(0, []), (1, []), (2, []), (3, []), (4, []), (5, []), (6, [3]), (7, []), (8, []), (9, [])]
  | _ => []
theorem ok8 : funcOk Tryz.prog 6 pl8 8 3 = true := by decide +kernel
def pl9 : Plans := fun
  | 5 => [(0, []), (1, []), (2, []), (3, []), (4, []), (5, []), (6, []), (7, []), (8, []), (9, [])]
  | 8 => [(0, []), (1, []), (2, []), (3, []), (4, []), (5, []), (10, []), (6, []), (7, []), (8, []), (9, []), (11, []), (12, [])]
  | 10 => [(0, []), (1, []), (2, []), (3, []), (4, []), (5, []), (6, []), (7, []), (8, []), (9, []), (14, []), (10, []), (11, []), (12, []), (13, []), (15, []), (16, [])]
  | 20 => [(0, []), (1, []), (2, []), (3, []), (4, []), (5, []), (6, []), (7, []), (8, []), (9, [])]
  | _ => []
theorem ok9 : funcOk Tryz.prog 6 pl9 9 3 = true := by decide +kernel
def pl10 : Plans := fun
  | 5 => [(0, []), (1, []), (2, []), (3, []), (4, []), (5, []), (6, []), (7, []), (8, []), (9, []), (10, []), (11, []), (12, [11]), (13, []), (14, []), (15, []), (16, []), (17, []), (18, []), (19, []), (20, []), (21, []), (22, []), (23, []), (24, []), (25, [23]), (26, []), (27, []), (28, []), (29, []), (30, []), (31, []), (32, []), (33, []), (34, []), (35, []), (36, []), (37, []), (38, [])]
  | _ => []
theorem ok10 : funcOk Tryz.prog 6 pl10 10 0 = true := by decide +kernel
theorem ok11 : funcOk Tryz.prog 6 noPl 11 1 = true := by decide +kernel
theorem ok12 : funcOk Tryz.prog 6 noPl 12 2 = true := by decide +kernel
def pl13 : Plans := fun
  | 13 => [(0, []), (1, []), (2, []), (3, []), (4, []), (5, [1, 3]), (6, []), (7, []), (8, []), (9, []), (10, []), (11, [])]
  | _ => []
theorem ok13 : funcOk Tryz.prog 6 pl13 13 1 = true := by decide +kernel
theorem ok14 : funcOk Tryz.prog 6 noPl 14 1 = true := by decide +kernel
theorem ok15 : funcOk Tryz.prog 6 noPl 15 2 = true := by decide +kernel
def pl16 : Plans := fun
  | 6 => [(0, []), (1, []), (2, []), (3, [0]), (4, []), (5, []), (6, []), (7, []), (8, []), (9, []), (10, []), (11, [])]
  | _ => []
theorem ok16 : funcOk Tryz.prog 6 pl16 16 3 = true := by decide +kernel
theorem ok17 : funcOk Tryz.prog 6 noPl 17 3 = true := by decide +kernel
theorem ok18 : funcOk Tryz.prog 6 noPl 18 2 = true := by decide +kernel
theorem ok19 : funcOk Tryz.prog 6 noPl 19 1 = true := by decide +kernel
def pl20 : Plans := fun
  | 7 => [(0, []), (1, []), (3, []), (4, []), (5, []), (6, []), (8, []), (9, []), (2, [6]), (7, []), (10, []), (11, []), (12, [])]
  | _ => []
theorem ok20 : funcOk Tryz.prog 6 pl20 20 1 = true := by decide +kernel
def pl21 : Plans := fun
  | 4 => [(0, []), (1, []), (2, []), (4, []), (3, [1]), (5, []), (6, []), (7, []), (8, []), (9, []), (10, []), (11, [])]
  | _ => []
theorem ok21 : funcOk Tryz.prog 6 pl21 21 2 = true := by decide +kernel
def pl22 : Plans := fun
  | 4 => [(0, []), (1, []), (2, []), (4, []), (10, []), (3, [1]), (5, []), (6, []), (7, []), (8, []), (9, []), (11, []), (12, []), (13, [])]
  | _ => []
theorem ok22 : funcOk Tryz.prog 6 pl22 22 2 = true := by decide +kernel
theorem ok23 : funcOk Tryz.prog 6 noPl 23 2 = true := by decide +kernel
theorem ok24 : funcOk Tryz.prog 6 noPl 24 3 = true := by decide +kernel
theorem ok25 : funcOk Tryz.prog 6 noPl 25 2 = true := by decide +kernel
theorem ok26 : funcOk Tryz.prog 6 noPl 26 1 = true := by decide +kernel
theorem ok27 : funcOk Tryz.prog 6 noPl 27 2 = true := by decide +kernel
theorem ok28 : funcOk Tryz.prog 6 noPl 28 2 = true := by decide +kernel
theorem ok29 : funcOk Tryz.prog 6 noPl 29 2 = true := by decide +kernel
theorem ok30 : funcOk Tryz.prog 6 noPl 30 2 = true := by decide +kernel
theorem ok31 : funcOk Tryz.prog 6 noPl 31 3 = true := by decide +kernel
def pl32 : Plans := fun
  | 2 => [(0, []), (1, []), (2, []), (3, []), (4, []), (5, []), (6, []), (7, [])]
  | 5 => [(0, []), (1, []), (2, []), (3, []), (4, []), (5, []), (6, []), (7, [1, 5]), (8, []), (9, [])]
  | _ => []
theorem ok32 : funcOk Tryz.prog 6 pl32 32 2 = true := by decide +kernel
def pl33 : Plans := fun
  | 10 => [(0, []), (1, []), (2, []), (3, []), (4, []), (5, []), (6, []), (7, []), (8, []), (9, []), (10, []), (11, []), (12, []), (13, []), (14, [])]
  | _ => []
theorem ok33 : funcOk Tryz.prog 6 pl33 33 1 = true := by decide +kernel
theorem ok34 : funcOk Tryz.prog 6 noPl 34 2 = true := by decide +kernel
def pl35 : Plans := fun
  | 14 => [(0, []), (1, []), (2, []), (3, []), (4, []), (5, []), (6, []), (7, []), (8, []), (9, [])]
  | 18 => [(0, []), (1, []), (3, []), (4, []), (5, []), (6, []), (7, []), (8, []), (9, []), (10, []), (13, []), (2, [5, 7]), (11, []), (12, [])]
  | _ => []
theorem ok35 : funcOk Tryz.prog 6 pl35 35 2 = true := by decide +kernel
theorem ok36 : funcOk Tryz.prog 6 noPl 36 1 = true := by decide +kernel
def pl37 : Plans := fun
  | 4 => [(0, []), (1, []), (2, []), (4, []), (5, []), (6, []), (7, []), (8, []), (3, [1, 5, 7]), (9, [1]), (10, []), (11, []), (12, []), (13, []), (14, [])]
  | _ => []
theorem ok37 : funcOk Tryz.prog 6 pl37 37 2 = true := by decide +kernel
theorem ok38 : funcOk Tryz.prog 6 noPl 38 2 = true := by decide +kernel
def pl39 : Plans := fun
  | 6 => [(0, []), (1, []), (2, []), (3, []), (4, []), (5, []), (6, []), (7, []), (8, [])]
  | _ => []
theorem ok39 : funcOk Tryz.prog 6 pl39 39 2 = true := by decide +kernel
theorem ok41 : funcOk Tryz.prog 6 noPl 41 2 = true := by decide +kernel
theorem ok42 : funcOk Tryz.prog 6 noPl 42 2 = true := by decide +kernel
theorem ok43 : funcOk Tryz.prog 6 noPl 43 2 = true := by decide +kernel
def pl44 : Plans := fun
  | 5 => [(0, []), (1, []), (2, []), (3, []), (4, []), (5, []), (7, []), (8, []), (6, [1, 7]), (9, [1]), (10, [1]), (11, []), (12, []), (13, []), (14, [])]
  | _ => []
theorem ok44 : funcOk Tryz.prog 6 pl44 44 2 = true := by decide +kernel
theorem ok45 : funcOk Tryz.prog 6 noPl 45 3 = true := by decide +kernel
theorem ok46 : funcOk Tryz.prog 6 noPl 46 2 = true := by decide +kernel
def pl47 : Plans := fun
  | 5 => [(0, []), (1, []), (2, []), (3, []), (4, []), (5, []), (6, []), (7, []), (8, []), (9, []), (10, []), (11, []), (12, [])]
  | _ => []
theorem ok47 : funcOk Tryz.prog 6 pl47 47 2 = true := by decide +kernel
theorem ok48 : funcOk Tryz.prog 6 noPl 48 1 = true := by decide +kernel
theorem ok49 : funcOk Tryz.prog 6 noPl 49 0 = true := by decide +kernel
theorem ok50 : funcOk Tryz.prog 6 noPl 50 2 = true := by decide +kernel
theorem ok51 : funcOk Tryz.prog 6 noPl 51 2 = true := by decide +kernel
theorem ok52 : funcOk Tryz.prog 6 noPl 52 3 = true := by decide +kernel
theorem ok53 : funcOk Tryz.prog 6 noPl 53 1 = true := by decide +kernel
def pl54 : Plans := fun
  | 21 => [(0, []), (1, []), (2, []), (3, []), (4, []), (5, []), (6, []), (7, []), (8, []), (9, [])]
  | 23 => [(0, []), (1, []), (2, []), (3, [1]), (4, []), (5, []), (6, []), (7, [])]
  | _ => []
theorem ok54 : funcOk Tryz.prog 6 pl54 54 3 = true := by decide +kernel
theorem ok55 : funcOk Tryz.prog 6 noPl 55 1 = true := by decide +kernel
theorem ok56 : funcOk Tryz.prog 6 noPl 56 1 = true := by decide +kernel
theorem ok57 : funcOk Tryz.prog 6 noPl 57 2 = true := by decide +kernel
theorem ok58 : funcOk Tryz.prog 6 noPl 58 2 = true := by decide +kernel
theorem ok59 : funcOk Tryz.prog 6 noPl 59 2 = true := by decide +kernel
theorem ok60 : funcOk Tryz.prog 6 noPl 60 3 = true := by decide +kernel
theorem ok61 : funcOk Tryz.prog 6 noPl 61 3 = true := by decide +kernel
def pl62 : Plans := fun
  | 5 => [(0, []), (1, []), (2, []), (3, []), (4, []), (5, []), (6, []), (7, []), (8, []), (9, [])]
  | _ => []
theorem ok62 : funcOk Tryz.prog 6 pl62 62 2 = true := by decide +kernel
theorem ok63 : funcOk Tryz.prog 6 noPl 63 3 = true := by decide +kernel
theorem ok64 : funcOk Tryz.prog 6 noPl 64 1 = true := by decide +kernel
theorem ok65 : funcOk Tryz.prog 6 noPl 65 2 = true := by decide +kernel
theorem ok66 : funcOk Tryz.prog 6 noPl 66 3 = true := by decide +kernel
theorem ok67 : funcOk Tryz.prog 6 noPl 67 1 = true := by decide +kernel
theorem ok68 : funcOk Tryz.prog 6 noPl 68 1 = true := by decide +kernel
theorem ok69 : funcOk Tryz.prog 6 noPl 69 2 = true := by decide +kernel
theorem ok70 : funcOk Tryz.prog 6 noPl 70 1 = true := by decide +kernel
theorem ok71 : funcOk Tryz.prog 6 noPl 71 1 = true := by decide +kernel
theorem ok72 : funcOk Tryz.prog 6 noPl 72 2 = true := by decide +kernel
theorem ok73 : funcOk Tryz.prog 6 noPl 73 3 = true := by decide +kernel
theorem ok74 : funcOk Tryz.prog 6 noPl 74 2 = true := by decide +kernel
def pl75 : Plans := fun
  | 6 => [(0, []), (1, []), (2, []), (3, []), (4, []), (5, []), (6, []), (7, []), (8, [])]
  | _ => []
theorem ok75 : funcOk Tryz.prog 6 pl75 75 2 = true := by decide +kernel
theorem ok76 : funcOk Tryz.prog 6 noPl 76 1 = true := by decide +kernel
theorem ok77 : funcOk Tryz.prog 6 noPl 77 1 = true := by decide +kernel
theorem ok78 : funcOk Tryz.prog 6 noPl 78 3 = true := by decide +kernel
theorem ok79 : funcOk Tryz.prog 6 noPl 79 1 = true := by decide +kernel
def pl80 : Plans := fun
  | 2 => [(0, []), (1, []), (2, []), (3, []), (4, []), (5, []), (6, []), (7, [])]
  | 5 => [(0, []), (1, []), (2, []), (4, []), (3, [1]), (5, [1]), (6, []), (7, []), (8, []), (9, []), (10, []), (11, [])]
  | 8 => [(0, []), (1, []), (2, []), (3, []), (4, []), (5, []), (6, []), (7, []), (8, []), (9, []), (10, []), (11, []), (12, []), (13, [])]
  | _ => []
theorem ok80 : funcOk Tryz.prog 6 pl80 80 2 = true := by decide +kernel
theorem ok81 : funcOk Tryz.prog 6 noPl 81 1 = true := by decide +kernel
def pl82 : Plans := fun
  | 4 => [(0, []), (1, []), (2, []), (3, []), (4, []), (5, []), (6, []), (7, []), (9, []), (8, [9]), (10, []), (11, []), (12, []), (13, [])]
  | _ => []
theorem ok82 : funcOk Tryz.prog 6 pl82 82 2 = true := by decide +kernel
theorem ok83 : funcOk Tryz.prog 6 noPl 83 2 = true := by decide +kernel
theorem ok84 : funcOk Tryz.prog 6 noPl 84 2 = true := by decide +kernel
theorem ok86 : funcOk Tryz.prog 6 noPl 86 2 = true := by decide +kernel
theorem ok87 : funcOk Tryz.prog 6 noPl 87 2 = true := by decide +kernel
theorem ok88 : funcOk Tryz.prog 6 noPl 88 2 = true := by decide +kernel
theorem ok89 : funcOk Tryz.prog 6 noPl 89 2 = true := by decide +kernel
theorem ok90 : funcOk Tryz.prog 6 noPl 90 2 = true := by decide +kernel
def pl91 : Plans := fun
  | 2 => [(0, []), (1, []), (3, []), (4, []), (7, []), (8, []), (2, [4, 8]), (5, [8]), (6, [8]), (9, []), (10, []), (11, [])]
  | 3 => [(0, []), (1, []), (3, []), (4, []), (7, []), (8, []), (10, []), (11, []), (15, []), (16, []), (18, []), (19, []), (2, [4, 8, 11, 16, 19]), (5, [8, 11, 16, 19]), (6, [8, 11, 16, 19]), (9, [11, 16, 19]), (12, [16, 19]), (13, [16, 19]), (14, [16, 19]), (17, [19]), (20, []), (21, []), (22, []), (23, [])]
  | _ => []
theorem ok91 : funcOk Tryz.prog 6 pl91 91 2 = true := by decide +kernel
theorem ok92 : funcOk Tryz.prog 6 noPl 92 2 = true := by decide +kernel
theorem ok93 : funcOk Tryz.prog 6 noPl 93 3 = true := by decide +kernel
theorem ok94 : funcOk Tryz.prog 6 noPl 94 1 = true := by decide +kernel
theorem ok95 : funcOk Tryz.prog 6 noPl 95 2 = true := by decide +kernel
theorem ok96 : funcOk Tryz.prog 6 noPl 96 2 = true := by decide +kernel
theorem ok97 : funcOk Tryz.prog 6 noPl 97 1 = true := by decide +kernel
theorem ok98 : funcOk Tryz.prog 6 noPl 98 1 = true := by decide +kernel
def pl99 : Plans := fun
  | 17 => [(0, []), (1, []), (2, []), (3, []), (4, []), (5, []), (6, []), (7, []), (8, []), (9, []), (10, []), (11, []), (12, []), (13, []), (14, []), (15, []), (16, [])]
  | _ => []
theorem ok99 : funcOk Tryz.prog 6 pl99 99 5 = true := by decide +kernel
theorem ok100 : funcOk Tryz.prog 6 noPl 100 1 = true := by decide +kernel
theorem ok101 : funcOk Tryz.prog 6 noPl 101 3 = true := by decide +kernel
def pl102 : Plans := fun
  | 1 => [(0, []), (1, []), (3, []), (4, []), (7, []), (8, []), (10, []), (11, []), (2, [4, 8, 11]), (5, [8, 11]), (6, [8, 11]), (9, [11]), (12, []), (13, []), (14, []), (15, [])]
  | _ => []
theorem ok102 : funcOk Tryz.prog 6 pl102 102 2 = true := by decide +kernel
def pl103 : Plans := fun
  | 5 => [(0, []), (1, []), (2, []), (3, []), (4, []), (6, []), (5, [6]), (7, []), (8, []), (9, []), (10, []), (11, []), (12, []), (13, [])]
  | _ => []
theorem ok103 : funcOk Tryz.prog 6 pl103 103 3 = true := by decide +kernel
theorem ok104 : funcOk Tryz.prog 6 noPl 104 1 = true := by decide +kernel
theorem ok105 : funcOk Tryz.prog 6 noPl 105 3 = true := by decide +kernel
theorem ok106 : funcOk Tryz.prog 6 noPl 106 1 = true := by decide +kernel
theorem ok107 : funcOk Tryz.prog 6 noPl 107 1 = true := by decide +kernel
theorem ok108 : funcOk Tryz.prog 6 noPl 108 1 = true := by decide +kernel
theorem ok109 : funcOk Tryz.prog 6 noPl 109 3 = true := by decide +kernel
def pl110 : Plans := fun
  | 20 => [(0, []), (1, []), (2, []), (4, []), (5, []), (6, []), (3, [6]), (7, []), (8, []), (9, []), (10, []), (11, []), (12, []), (13, []), (14, []), (15, [])]
  | 21 => [(0, []), (1, []), (2, []), (4, []), (5, []), (6, []), (3, [6]), (7, []), (8, []), (9, []), (10, []), (11, []), (12, []), (13, []), (14, []), (15, [])]
  | _ => []
theorem ok110 : funcOk Tryz.prog 6 pl110 110 3 = true := by decide +kernel
theorem ok111 : funcOk Tryz.prog 6 noPl 111 1 = true := by decide +kernel
theorem ok112 : funcOk Tryz.prog 6 noPl 112 5 = true := by decide +kernel
theorem ok113 : funcOk Tryz.prog 6 noPl 113 1 = true := by decide +kernel
theorem ok114 : funcOk Tryz.prog 6 noPl 114 3 = true := by decide +kernel
def pl115 : Plans := fun
  | 12 => [(0, []), (1, []), (2, []), (3, []), (4, []), (5, []), (6, []), (8, []), (9, []), (10, []), (11, []), (12, []), (7, [9, 11]), (16, []), (13, [9]), (14, []), (15, []), (17, []), (18, []), (19, [])]
  | _ => []
theorem ok115 : funcOk Tryz.prog 6 pl115 115 2 = true := by decide +kernel
theorem ok116 : funcOk Tryz.prog 6 noPl 116 1 = true := by decide +kernel
def pl117 : Plans := fun
  | 2 => [(0, []), (2, []), (1, [2]), (3, []), (4, []), (5, [])]
  | 4 => [(0, []), (1, []), (2, []), (3, []), (4, []), (5, []), (6, [])]
  | _ => []
theorem ok117 : funcOk Tryz.prog 6 pl117 117 2 = true := by decide +kernel
def pl118 : Plans := fun
  | 2 => [(0, []), (1, []), (2, []), (3, []), (4, []), (5, []), (6, [1]), (7, []), (8, []), (9, [])]
  | 4 => [(0, []), (1, []), (2, []), (3, []), (4, []), (5, []), (6, [1]), (7, []), (8, []), (9, [])]
  | 5 => [(0, []), (1, []), (2, []), (3, []), (4, []), (5, []), (6, [1]), (7, []), (8, []), (9, [])]
  | _ => []
theorem ok118 : funcOk Tryz.prog 6 pl118 118 2 = true := by decide +kernel
def pl119 : Plans := fun
  | 11 => [(0, []), (1, []), (2, []), (3, []), (4, []), (5, []), (6, []), (7, []), (8, []), (9, []), (10, []), (11, []), (12, []), (13, [])]
  | _ => []
theorem ok119 : funcOk Tryz.prog 6 pl119 119 2 = true := by decide +kernel
theorem ok120 : funcOk Tryz.prog 6 noPl 120 1 = true := by decide +kernel
theorem ok121 : funcOk Tryz.prog 6 noPl 121 2 = true := by decide +kernel
theorem ok122 : funcOk Tryz.prog 6 noPl 122 1 = true := by decide +kernel
theorem ok123 : funcOk Tryz.prog 6 noPl 123 1 = true := by decide +kernel
def pl124 : Plans := fun
  | 8 => [(0, []), (1, []), (2, []), (3, []), (4, []), (5, []), (6, []), (7, []), (8, []), (9, []), (10, []), (11, [5]), (12, []), (13, []), (14, [])]
  | _ => []
theorem ok124 : funcOk Tryz.prog 6 pl124 124 3 = true := by decide +kernel
theorem ok125 : funcOk Tryz.prog 6 noPl 125 1 = true := by decide +kernel
theorem ok126 : funcOk Tryz.prog 6 noPl 126 2 = true := by decide +kernel
def pl127 : Plans := fun
  | 1 => [(0, []), (1, []), (2, []), (3, []), (4, []), (5, []), (6, []), (7, []), (8, []), (9, []), (10, [])]
  | _ => []
theorem ok127 : funcOk Tryz.prog 6 pl127 127 4 = true := by decide +kernel
theorem ok128 : funcOk Tryz.prog 6 noPl 128 3 = true := by decide +kernel
theorem ok129 : funcOk Tryz.prog 6 noPl 129 2 = true := by decide +kernel
theorem ok130 : funcOk Tryz.prog 6 noPl 130 1 = true := by decide +kernel
def pl131 : Plans := fun
  | 4 => [(0, []), (1, []), (2, []), (3, []), (4, []), (5, []), (6, []), (7, []), (8, []), (9, []), (10, []), (11, []), (12, []), (13, []), (14, []), (15, []), (16, [])]
  | 6 => [(0, []), (1, []), (2, []), (3, []), (4, []), (5, []), (6, []), (7, []), (8, []), (9, []), (10, []), (11, []), (12, []), (13, []), (14, []), (15, []), (16, []), (17, [])]
  | _ => []
theorem ok131 : funcOk Tryz.prog 6 pl131 131 4 = true := by decide +kernel
def pl132 : Plans := fun
  | 10 => [(0, []), (1, []), (2, []), (3, []), (4, []), (5, []), (6, []), (7, []), (8, []), (9, []), (10, []), (11, []), (12, []), (13, []), (14, []), (15, []), (16, []), (17, []), (18, []), (19, [])]
  | _ => []
theorem ok132 : funcOk Tryz.prog 6 pl132 132 4 = true := by decide +kernel
def pl133 : Plans := fun
  | 10 => [(0, []), (1, []), (2, []), (3, []), (4, []), (5, []), (6, []), (7, []), (8, []), (9, []), (10, []), (11, []), (12, []), (13, []), (14, []), (15, []), (16, []), (17, []), (18, []), (19, [])]
  | _ => []
theorem ok133 : funcOk Tryz.prog 6 pl133 133 4 = true := by decide +kernel
theorem ok134 : funcOk Tryz.prog 6 noPl 134 4 = true := by decide +kernel
def pl135 : Plans := fun
  | 3 => [(0, []), (1, []), (2, []), (3, []), (4, []), (5, []), (6, []), (7, []), (8, []), (9, []), (10, []), (11, []), (12, []), (13, []), (14, []), (15, [])]
  | _ => []
theorem ok135 : funcOk Tryz.prog 6 pl135 135 4 = true := by decide +kernel
def pl136 : Plans := fun
  | 5 => [(0, []), (1, []), (2, []), (3, []), (4, []), (5, []), (6, []), (7, []), (8, []), (9, []), (10, []), (11, []), (12, []), (13, []), (14, []), (15, []), (16, []), (17, [])]
  | 11 => [(0, []), (1, []), (2, []), (3, []), (4, []), (5, []), (6, []), (7, []), (8, []), (9, []), (10, []), (11, []), (12, []), (13, []), (14, []), (15, []), (16, []), (17, [])]
  | 16 => [(0, []), (1, []), (2, []), (3, []), (4, []), (5, []), (6, []), (7, []), (8, []), (9, []), (10, []), (11, []), (12, [])]
  | 17 => [(0, []), (1, []), (2, []), (3, []), (4, []), (5, []), (6, []), (7, []), (8, []), (9, []), (10, []), (11, []), (12, []), (13, []), (14, []), (15, []), (16, []), (17, [])]
  | 22 => [(0, []), (1, []), (2, []), (3, []), (4, []), (5, []), (6, []), (7, []), (8, []), (9, []), (10, []), (11, []), (12, [])]
  | 23 => [(0, []), (1, []), (2, []), (3, []), (4, []), (5, []), (6, []), (7, []), (8, []), (9, []), (10, []), (11, []), (12, []), (13, []), (14, []), (15, []), (16, []), (17, [])]
  | _ => []
theorem ok136 : funcOk Tryz.prog 6 pl136 136 4 = true := by decide +kernel
def pl137 : Plans := fun
  | 1 => [(0, []), (1, []), (2, []), (3, []), (4, []), (5, []), (6, []), (7, []), (8, []), (9, []), (10, []), (11, []), (12, []), (13, []), (14, []), (15, [])]
  | 3 => [(0, []), (1, []), (2, []), (3, []), (4, []), (5, []), (6, []), (7, []), (8, []), (9, []), (10, []), (11, []), (12, []), (13, []), (14, []), (15, []), (16, [])]
  | 5 => [(0, []), (1, []), (2, []), (3, []), (4, []), (5, []), (6, []), (7, []), (8, []), (9, []), (10, []), (11, []), (12, []), (13, []), (14, []), (15, [])]
  | 8 => [(0, []), (1, []), (2, []), (3, []), (4, []), (5, []), (6, []), (7, []), (8, []), (9, []), (10, []), (11, []), (12, []), (13, []), (14, []), (15, [])]
  | _ => []
theorem ok137 : funcOk Tryz.prog 6 pl137 137 5 = true := by decide +kernel
def pl138 : Plans := fun
  | 1 => [(0, []), (1, []), (2, []), (3, []), (4, []), (5, []), (6, []), (7, []), (8, []), (9, []), (10, []), (11, []), (12, []), (13, []), (14, []), (15, [])]
  | 3 => [(0, []), (1, []), (2, []), (3, []), (4, []), (5, []), (6, []), (7, []), (8, []), (9, []), (10, []), (11, []), (12, []), (13, []), (14, []), (15, [])]
  | 5 => [(0, []), (1, []), (2, []), (3, []), (4, []), (5, []), (6, []), (7, []), (8, []), (9, []), (10, []), (11, []), (12, []), (13, []), (14, []), (15, []), (16, [])]
  | 8 => [(0, []), (1, []), (2, []), (3, []), (4, []), (5, []), (6, []), (7, []), (8, []), (9, []), (10, []), (11, []), (12, []), (13, []), (14, []), (15, [])]
  | 10 => [(0, []), (1, []), (2, []), (3, []), (4, []), (5, []), (6, []), (7, []), (8, []), (9, []), (10, []), (11, []), (12, []), (13, []), (14, []), (15, [])]
  | 13 => [(0, []), (1, []), (2, []), (3, []), (4, []), (5, []), (6, []), (7, []), (8, []), (9, []), (10, []), (11, []), (12, []), (13, []), (14, []), (15, [])]
  | 15 => [(0, []), (1, []), (2, []), (3, []), (4, []), (5, []), (6, []), (7, []), (8, []), (9, []), (10, []), (11, []), (12, []), (13, []), (14, []), (15, []), (16, [])]
  | 18 => [(0, []), (1, []), (2, []), (3, []), (4, []), (5, []), (6, []), (7, []), (8, []), (9, []), (10, []), (11, []), (12, []), (13, []), (14, []), (15, [])]
  | 21 => [(0, []), (1, []), (2, []), (3, []), (4, []), (5, []), (6, []), (7, []), (8, []), (9, []), (10, []), (11, []), (12, []), (13, []), (14, []), (15, [])]
  | _ => []
theorem ok138 : funcOk Tryz.prog 6 pl138 138 5 = true := by decide +kernel
theorem ok139 : funcOk Tryz.prog 6 noPl 139 1 = true := by decide +kernel
theorem ok140 : funcOk Tryz.prog 6 noPl 140 1 = true := by decide +kernel
theorem ok141 : funcOk Tryz.prog 6 noPl 141 1 = true := by decide +kernel
theorem ok142 : funcOk Tryz.prog 6 noPl 142 3 = true := by decide +kernel
theorem ok143 : funcOk Tryz.prog 6 noPl 143 1 = true := by decide +kernel
theorem ok144 : funcOk Tryz.prog 6 noPl 144 1 = true := by decide +kernel
theorem ok145 : funcOk Tryz.prog 6 noPl 145 2 = true := by decide +kernel
theorem ok146 : funcOk Tryz.prog 6 noPl 146 1 = true := by decide +kernel
def pl147 : Plans := fun
  | 6 => [(0, []), (1, []), (2, []), (3, []), (4, []), (5, []), (6, []), (7, []), (8, []), (9, [])]
  | 11 => [(0, []), (1, []), (3, []), (4, []), (5, []), (6, []), (2, [6]), (7, [])]
  | _ => []
theorem ok147 : funcOk Tryz.prog 6 pl147 147 2 = true := by decide +kernel
theorem ok148 : funcOk Tryz.prog 6 noPl 148 1 = true := by decide +kernel
theorem ok149 : funcOk Tryz.prog 6 noPl 149 2 = true := by decide +kernel
def pl151 : Plans := fun
  | 7 => [(0, []), (1, []), (2, []), (3, []), (4, []), (5, []), (6, []), (7, [])]
  | _ => []
theorem ok151 : funcOk Tryz.prog 6 pl151 151 2 = true := by decide +kernel
theorem ok152 : funcOk Tryz.prog 6 noPl 152 2 = true := by decide +kernel
def pl153 : Plans := fun
  | 1 => [(0, []), (1, []), (3, []), (2, [3]), (4, []), (5, []), (6, [])]
  | _ => []
theorem ok153 : funcOk Tryz.prog 6 pl153 153 2 = true := by decide +kernel
def pl154 : Plans := fun
  | 1 => [(0, []), (1, []), (3, []), (2, [3]), (4, []), (5, []), (6, [])]
  | _ => []
theorem ok154 : funcOk Tryz.prog 6 pl154 154 2 = true := by decide +kernel
theorem ok155 : funcOk Tryz.prog 6 noPl 155 3 = true := by decide +kernel
theorem ok156 : funcOk Tryz.prog 6 noPl 156 3 = true := by decide +kernel
theorem ok157 : funcOk Tryz.prog 6 noPl 157 2 = true := by decide +kernel
theorem ok158 : funcOk Tryz.prog 6 noPl 158 1 = true := by decide +kernel
theorem ok159 : funcOk Tryz.prog 6 noPl 159 1 = true := by decide +kernel
def pl160 : Plans := fun
  | 6 => [(0, []), (1, []), (2, []), (3, []), (4, []), (5, [])]
  | 7 => [(0, []), (1, []), (2, []), (3, []), (4, []), (5, []), (6, []), (7, [])]
  | _ => []
theorem ok160 : funcOk Tryz.prog 6 pl160 160 2 = true := by decide +kernel
def pl161 : Plans := fun
  | 1 => [(0, []), (1, []), (2, []), (3, []), (4, []), (5, [])]
  | _ => []
theorem ok161 : funcOk Tryz.prog 6 pl161 161 2 = true := by decide +kernel
def pl162 : Plans := fun
  | 8 => [(0, []), (1, []), (2, []), (3, []), (4, []), (5, []), (6, []), (7, []), (8, []), (9, []), (10, []), (11, []), (12, []), (13, []), (14, []), (15, []), (16, []), (17, []), (18, [4, 7]), (19, []), (20, []), (21, []), (22, [])]
  | _ => []
theorem ok162 : funcOk Tryz.prog 6 pl162 162 2 = true := by decide +kernel
theorem ok163 : funcOk Tryz.prog 6 noPl 163 1 = true := by decide +kernel
theorem ok164 : funcOk Tryz.prog 6 noPl 164 2 = true := by decide +kernel
def pl165 : Plans := fun
  | 8 => [(0, []), (1, []), (2, []), (3, []), (4, []), (5, []), (6, []), (7, []), (8, [])]
  | 10 => [(0, []), (1, []), (2, []), (3, []), (4, []), (5, []), (6, []), (7, []), (8, [])]
  | _ => []
theorem ok165 : funcOk Tryz.prog 6 pl165 165 2 = true := by decide +kernel
theorem ok166 : funcOk Tryz.prog 6 noPl 166 2 = true := by decide +kernel
theorem ok167 : funcOk Tryz.prog 6 noPl 167 1 = true := by decide +kernel
theorem ok168 : funcOk Tryz.prog 6 noPl 168 2 = true := by decide +kernel
theorem ok169 : funcOk Tryz.prog 6 noPl 169 1 = true := by decide +kernel
def pl170 : Plans := fun
  | 8 => [(0, []), (1, []), (2, []), (3, []), (5, []), (6, []), (7, []), (8, []), (11, []), (12, []), (13, []), (14, []), (4, [6, 8, 12, 14]), (9, [12, 14]), (10, [12, 14]), (15, []), (16, []), (17, [])]
  | _ => []
theorem ok170 : funcOk Tryz.prog 6 pl170 170 2 = true := by decide +kernel
def pl171 : Plans := fun
  | 6 => [(0, []), (1, []), (2, []), (3, []), (5, []), (6, []), (7, []), (8, []), (4, [6, 8]), (9, []), (10, []), (11, [])]
  | _ => []
theorem ok171 : funcOk Tryz.prog 6 pl171 171 2 = true := by decide +kernel
theorem ok172 : funcOk Tryz.prog 6 noPl 172 1 = true := by decide +kernel
theorem ok173 : funcOk Tryz.prog 6 noPl 173 3 = true := by decide +kernel
theorem ok174 : funcOk Tryz.prog 6 noPl 174 2 = true := by decide +kernel
def pl175 : Plans := fun
  | 3 => [(0, []), (1, []), (2, []), (3, []), (4, []), (5, []), (6, []), (7, []), (8, []), (9, []), (10, []), (11, []), (12, []), (13, []), (14, []), (15, []), (16, []), (17, []), (18, []), (19, []), (20, []), (21, [])]
  | 5 => [(0, []), (1, []), (2, []), (3, []), (4, []), (5, []), (6, []), (7, []), (8, []), (9, []), (10, []), (11, []), (12, []), (13, []), (14, []), (15, [])]
  | 6 => [(0, []), (1, []), (2, []), (3, []), (4, []), (5, []), (6, []), (7, []), (8, []), (9, []), (10, []), (11, []), (12, []), (13, []), (14, []), (15, []), (16, []), (17, []), (18, []), (19, []), (20, []), (21, []), (22, []), (23, [])]
  | _ => []
theorem ok175 : funcOk Tryz.prog 6 pl175 175 5 = true := by decide +kernel
theorem ok176 : funcOk Tryz.prog 6 noPl 176 1 = true := by decide +kernel
def pl177 : Plans := fun
  | 1 => [(0, []), (1, []), (2, []), (3, []), (4, []), (5, []), (6, []), (7, []), (8, []), (9, [])]
  | 2 => [(0, []), (1, []), (2, []), (3, []), (4, []), (5, []), (6, []), (7, []), (8, []), (9, [])]
  | 3 => [(0, []), (1, []), (2, []), (3, []), (4, []), (5, []), (6, []), (7, []), (8, []), (9, [])]
  | _ => []
theorem ok177 : funcOk Tryz.prog 6 pl177 177 1 = true := by decide +kernel
theorem ok178 : funcOk Tryz.prog 6 noPl 178 4 = true := by decide +kernel
theorem ok179 : funcOk Tryz.prog 6 noPl 179 6 = true := by decide +kernel
def pl180 : Plans := fun
  | 2 => [(0, []), (1, []), (2, []), (3, [])]
  | _ => []
theorem ok180 : funcOk Tryz.prog 6 pl180 180 1 = true := by decide +kernel
theorem ok181 : funcOk Tryz.prog 6 noPl 181 2 = true := by decide +kernel
theorem ok182 : funcOk Tryz.prog 6 noPl 182 3 = true := by decide +kernel
theorem ok183 : funcOk Tryz.prog 6 noPl 183 1 = true := by decide +kernel
def pl184 : Plans := fun
  | 4 => [(0, []), (1, []), (2, []), (3, []), (4, [])]
  | _ => []
theorem ok184 : funcOk Tryz.prog 6 pl184 184 2 = true := by decide +kernel
def pl185 : Plans := fun
  | 2 => [(0, []), (1, []), (2, []), (3, []), (4, []), (5, [])]
  | _ => []
theorem ok185 : funcOk Tryz.prog 6 pl185 185 2 = true := by decide +kernel
theorem ok186 : funcOk Tryz.prog 6 noPl 186 2 = true := by decide +kernel
def pl187 : Plans := fun
  | 3 => [(0, []), (1, []), (2, []), (3, []), (5, []), (6, []), (7, []), (8, []), (4, [6, 8]), (9, []), (10, []), (11, []), (12, [])]
  | _ => []
theorem ok187 : funcOk Tryz.prog 6 pl187 187 2 = true := by decide +kernel
theorem ok189 : funcOk Tryz.prog 6 noPl 189 2 = true := by decide +kernel
theorem ok190 : funcOk Tryz.prog 6 noPl 190 1 = true := by decide +kernel
theorem ok191 : funcOk Tryz.prog 6 noPl 191 2 = true := by decide +kernel
theorem ok192 : funcOk Tryz.prog 6 noPl 192 2 = true := by decide +kernel
def pl193 : Plans := fun
  | 5 => [(0, []), (1, []), (2, []), (4, []), (5, []), (6, []), (3, []), (7, []), (8, []), (9, []), (10, [])]
  | _ => []
theorem ok193 : funcOk Tryz.prog 6 pl193 193 2 = true := by decide +kernel
theorem ok194 : funcOk Tryz.prog 6 noPl 194 2 = true := by decide +kernel
theorem ok195 : funcOk Tryz.prog 6 noPl 195 2 = true := by decide +kernel
theorem ok196 : funcOk Tryz.prog 6 noPl 196 2 = true := by decide +kernel
theorem ok197 : funcOk Tryz.prog 6 noPl 197 1 = true := by decide +kernel
theorem ok198 : funcOk Tryz.prog 6 noPl 198 1 = true := by decide +kernel
theorem ok199 : funcOk Tryz.prog 6 noPl 199 2 = true := by decide +kernel
theorem ok200 : funcOk Tryz.prog 6 noPl 200 2 = true := by decide +kernel
theorem ok202 : funcOk Tryz.prog 6 noPl 202 1 = true := by decide +kernel
def pl203 : Plans := fun
  | 3 => [(0, []), (1, []), (2, []), (3, []), (4, []), (5, [])]
  | 6 => [(0, []), (1, []), (2, []), (4, []), (5, []), (6, []), (3, []), (7, []), (8, []), (9, [])]
  | _ => []
theorem ok203 : funcOk Tryz.prog 6 pl203 203 2 = true := by decide +kernel
theorem ok204 : funcOk Tryz.prog 6 noPl 204 2 = true := by decide +kernel
theorem ok205 : funcOk Tryz.prog 6 noPl 205 2 = true := by decide +kernel
def pl206 : Plans := fun
  | 4 => [(0, []), (1, []), (2, []), (3, []), (4, []), (5, []), (6, []), (7, []), (8, []), (9, []), (10, []), (11, []), (12, []), (13, []), (14, []), (15, []), (16, [])]
  | 6 => [(0, []), (1, []), (2, []), (3, []), (4, []), (5, []), (6, []), (7, []), (8, []), (9, []), (10, []), (11, []), (12, []), (13, []), (14, []), (15, []), (16, []), (17, [])]
  | _ => []
theorem ok206 : funcOk Tryz.prog 6 pl206 206 4 = true := by decide +kernel
def pl207 : Plans := fun
  | 5 => [(0, []), (1, []), (2, []), (3, []), (4, []), (5, []), (6, []), (7, []), (8, []), (9, []), (10, [])]
  | 11 => [(0, []), (1, []), (2, []), (3, []), (4, []), (5, []), (6, []), (7, []), (8, []), (9, []), (10, []), (11, []), (12, []), (13, []), (14, []), (15, []), (16, []), (17, [])]
  | 17 => [(0, []), (1, []), (2, []), (3, []), (4, []), (5, []), (6, []), (7, []), (8, []), (9, []), (10, []), (11, [])]
  | 23 => [(0, []), (1, []), (2, []), (3, []), (4, []), (5, []), (6, []), (7, []), (8, []), (9, []), (10, []), (11, []), (12, []), (13, []), (14, []), (15, []), (16, []), (17, [])]
  | 35 => [(0, []), (1, []), (2, []), (3, []), (4, []), (5, []), (6, []), (7, []), (8, []), (9, []), (10, []), (11, []), (12, []), (13, [])]
  | _ => []
theorem ok207 : funcOk Tryz.prog 6 pl207 207 5 = true := by decide +kernel
def pl208 : Plans := fun
  | 1 => [(0, []), (1, []), (2, []), (3, []), (4, []), (5, []), (6, []), (7, []), (8, []), (9, []), (10, [])]
  | _ => []
theorem ok208 : funcOk Tryz.prog 6 pl208 208 5 = true := by decide +kernel
theorem ok209 : funcOk Tryz.prog 6 noPl 209 1 = true := by decide +kernel
theorem ok210 : funcOk Tryz.prog 6 noPl 210 1 = true := by decide +kernel
theorem ok211 : funcOk Tryz.prog 6 noPl 211 1 = true := by decide +kernel
theorem ok212 : funcOk Tryz.prog 6 noPl 212 1 = true := by decide +kernel
theorem ok213 : funcOk Tryz.prog 6 noPl 213 1 = true := by decide +kernel
theorem ok214 : funcOk Tryz.prog 6 noPl 214 2 = true := by decide +kernel
theorem ok215 : funcOk Tryz.prog 6 noPl 215 2 = true := by decide +kernel
theorem ok216 : funcOk Tryz.prog 6 noPl 216 3 = true := by decide +kernel
theorem ok217 : funcOk Tryz.prog 6 noPl 217 2 = true := by decide +kernel
theorem ok218 : funcOk Tryz.prog 6 noPl 218 2 = true := by decide +kernel
theorem ok219 : funcOk Tryz.prog 6 noPl 219 1 = true := by decide +kernel
theorem ok220 : funcOk Tryz.prog 6 noPl 220 1 = true := by decide +kernel
def pl221 : Plans := fun
  | 6 => [(0, []), (1, []), (2, []), (3, []), (4, []), (5, []), (6, []), (7, []), (8, []), (9, [])]
  | 8 => [(0, []), (1, []), (2, []), (3, []), (4, []), (5, []), (6, []), (7, []), (8, []), (9, [])]
  | _ => []
theorem ok221 : funcOk Tryz.prog 6 pl221 221 2 = true := by decide +kernel
theorem ok222 : funcOk Tryz.prog 6 noPl 222 2 = true := by decide +kernel
theorem ok223 : funcOk Tryz.prog 6 noPl 223 1 = true := by decide +kernel
def pl224 : Plans := fun
  | 10 => [(0, []), (1, []), (2, []), (3, []), (4, []), (5, []), (6, []), (7, []), (8, []), (9, []), (10, []), (11, []), (12, []), (13, []), (14, []), (15, [])]
  | 11 => [(0, []), (1, []), (2, []), (3, []), (4, []), (5, []), (6, []), (7, []), (8, []), (9, []), (10, []), (11, []), (12, []), (13, []), (14, []), (15, [])]
  | 12 => [(0, []), (1, []), (2, []), (3, []), (4, []), (5, []), (6, []), (7, []), (8, []), (9, []), (10, []), (11, []), (12, []), (13, []), (14, []), (15, []), (16, []), (17, []), (18, []), (19, []), (20, []), (21, []), (22, []), (23, []), (24, []), (25, [])]
  | _ => []
theorem ok224 : funcOk Tryz.prog 6 pl224 224 2 = true := by decide +kernel
theorem ok225 : funcOk Tryz.prog 6 noPl 225 3 = true := by decide +kernel
theorem ok226 : funcOk Tryz.prog 6 noPl 226 1 = true := by decide +kernel
theorem ok227 : funcOk Tryz.prog 6 noPl 227 4 = true := by decide +kernel
theorem ok228 : funcOk Tryz.prog 6 noPl 228 2 = true := by decide +kernel
theorem ok229 : funcOk Tryz.prog 6 noPl 229 2 = true := by decide +kernel
theorem ok231 : funcOk Tryz.prog 6 noPl 231 2 = true := by decide +kernel
theorem ok232 : funcOk Tryz.prog 6 noPl 232 1 = true := by decide +kernel
def pl233 : Plans := fun
  | 1 => [(0, []), (1, []), (2, []), (3, []), (5, []), (6, []), (7, []), (8, []), (9, []), (4, [8]), (10, []), (11, [])]
  | _ => []
theorem ok233 : funcOk Tryz.prog 6 pl233 233 1 = true := by decide +kernel
def pl234 : Plans := fun
  | 4 => [(0, []), (1, []), (2, []), (3, []), (4, [])]
  | _ => []
theorem ok234 : funcOk Tryz.prog 6 pl234 234 1 = true := by decide +kernel
theorem ok235 : funcOk Tryz.prog 6 noPl 235 1 = true := by decide +kernel
theorem ok236 : funcOk Tryz.prog 6 noPl 236 1 = true := by decide +kernel
def pl237 : Plans := fun
  | 7 => [(0, []), (1, []), (2, []), (3, []), (4, []), (5, []), (6, []), (7, []), (8, []), (9, []), (10, []), (11, []), (12, []), (13, []), (14, [])]
  | 8 => [(0, []), (1, []), (2, []), (3, []), (4, []), (5, []), (6, []), (7, []), (8, []), (9, []), (10, []), (11, []), (12, []), (13, []), (14, [])]
  | 9 => [(0, []), (1, []), (2, []), (3, []), (4, []), (5, []), (6, []), (7, []), (8, []), (9, []), (10, []), (11, []), (12, []), (13, []), (14, [])]
  | 10 => [(0, []), (1, []), (2, []), (3, []), (4, []), (5, []), (6, []), (7, []), (8, []), (9, []), (10, []), (11, []), (12, []), (13, []), (14, [])]
  | 17 => [(0, []), (1, []), (2, []), (3, []), (4, []), (5, []), (6, []), (7, []), (8, []), (9, []), (10, []), (11, []), (12, []), (13, []), (14, [])]
  | 18 => [(0, []), (1, []), (2, []), (3, []), (4, []), (5, []), (6, []), (7, []), (8, []), (9, []), (10, []), (11, []), (12, []), (13, []), (14, [])]
  | 23 => [(0, []), (1, []), (2, []), (3, []), (4, []), (5, []), (6, []), (7, []), (8, []), (9, []), (10, []), (11, []), (12, []), (13, []), (14, [])]
  | _ => []
theorem ok237 : funcOk Tryz.prog 6 pl237 237 2 = true := by decide +kernel
theorem ok239 : funcOk Tryz.prog 6 noPl 239 5 = true := by decide +kernel
theorem ok240 : funcOk Tryz.prog 6 noPl 240 2 = true := by decide +kernel
theorem ok241 : funcOk Tryz.prog 6 noPl 241 2 = true := by decide +kernel
theorem ok242 : funcOk Tryz.prog 6 noPl 242 2 = true := by decide +kernel
theorem ok243 : funcOk Tryz.prog 6 noPl 243 1 = true := by decide +kernel
theorem ok244 : funcOk Tryz.prog 6 noPl 244 2 = true := by decide +kernel
def pl245 : Plans := fun
  | 3 => [(0, []), (1, []), (2, []), (3, []), (4, []), (5, []), (6, []), (7, []), (8, []), (9, []), (10, []), (11, []), (12, []), (13, []), (14, []), (15, [])]
  | _ => []
theorem ok245 : funcOk Tryz.prog 6 pl245 245 1 = true := by decide +kernel
theorem ok246 : funcOk Tryz.prog 6 noPl 246 2 = true := by decide +kernel
theorem ok247 : funcOk Tryz.prog 6 noPl 247 2 = true := by decide +kernel
theorem ok248 : funcOk Tryz.prog 6 noPl 248 1 = true := by decide +kernel
def pl249 : Plans := fun
  | 0 => [(0, []), (1, []), (2, []), (3, []), (4, []), (5, []), (6, []), (7, []), (9, []), (10, []), (11, []), (12, []), (13, []), (8, [12]), (14, []), (15, [])]
  | _ => []
theorem ok249 : funcOk Tryz.prog 6 pl249 249 2 = true := by decide +kernel
theorem ok250 : funcOk Tryz.prog 6 noPl 250 1 = true := by decide +kernel
theorem ok251 : funcOk Tryz.prog 6 noPl 251 1 = true := by decide +kernel
theorem ok252 : funcOk Tryz.prog 6 noPl 252 1 = true := by decide +kernel
theorem ok253 : funcOk Tryz.prog 6 noPl 253 1 = true := by decide +kernel
def pl254 : Plans := fun
  | 3 => [(0, []), (1, []), (2, []), (3, []), (4, []), (5, []), (6, []), (7, []), (8, []), (9, []), (10, []), (11, []), (12, []), (13, []), (14, []), (15, []), (16, []), (17, []), (18, []), (19, []), (20, []), (21, []), (22, []), (23, [])]
  | _ => []
theorem ok254 : funcOk Tryz.prog 6 pl254 254 5 = true := by decide +kernel
theorem ok255 : funcOk Tryz.prog 6 noPl 255 1 = true := by decide +kernel
theorem ok256 : funcOk Tryz.prog 6 noPl 256 3 = true := by decide +kernel
theorem ok257 : funcOk Tryz.prog 6 noPl 257 2 = true := by decide +kernel
theorem ok260 : funcOk Tryz.prog 6 noPl 260 1 = true := by decide +kernel
theorem ok261 : funcOk Tryz.prog 6 noPl 261 1 = true := by decide +kernel
theorem ok289 : funcOk Tryz.prog 6 noPl 289 0 = true := by decide +kernel
end Go.Proofs.Gh
