/-
  Closed facts on the types and functions of the translation.
-/
import Derived.Test.YtmedmajdoecjfaaDoorProg
import Derived.Test.YtmedmajdoecjfaaDoorMap
import Derived.Test.YtmedmajdoecjfaaDoorRec
import Derived.KernelRfl
import Derived.Test.YtmedmajdoecjfaaDoorEng
namespace Go.Proofs
open Go
theorem Tryd.by2 : (Tryd.prog.info? 2).map (·.bytes) = some 8 := by kernel_rfl
theorem Tryd.by3 : (Tryd.prog.info? 3).map (·.bytes) = some 8 := by kernel_rfl
theorem Tryd.by4 : (Tryd.prog.info? 4).map (·.bytes) = some 1 := by kernel_rfl
theorem Tryd.by5 : (Tryd.prog.info? 5).map (·.bytes) = some 1 := by kernel_rfl
theorem Tryd.by6 : (Tryd.prog.info? 6).map (·.bytes) = some 1 := by kernel_rfl
theorem Tryd.by7 : (Tryd.prog.info? 7).map (·.bytes) = some 24 := by kernel_rfl
theorem Tryd.by8 : (Tryd.prog.info? 8).map (·.bytes) = some 24 := by kernel_rfl
theorem Tryd.by9 : (Tryd.prog.info? 9).map (·.bytes) = some 16 := by kernel_rfl
theorem Tryd.by10 : (Tryd.prog.info? 10).map (·.bytes) = some 16 := by kernel_rfl
theorem Tryd.by11 : (Tryd.prog.info? 11).map (·.bytes) = some 16 := by kernel_rfl
theorem Tryd.by12 : (Tryd.prog.info? 12).map (·.bytes) = some 8 := by kernel_rfl
theorem Tryd.by13 : (Tryd.prog.info? 13).map (·.bytes) = some 24 := by kernel_rfl
theorem Tryd.by14 : (Tryd.prog.info? 14).map (·.bytes) = some 24 := by kernel_rfl
theorem Tryd.by15 : (Tryd.prog.info? 15).map (·.bytes) = some 8 := by kernel_rfl
theorem Tryd.by16 : (Tryd.prog.info? 16).map (·.bytes) = some 8 := by kernel_rfl
theorem Tryd.by17 : (Tryd.prog.info? 17).map (·.bytes) = some 8 := by kernel_rfl
theorem Tryd.by18 : (Tryd.prog.info? 18).map (·.bytes) = some 8 := by kernel_rfl
theorem Tryd.by19 : (Tryd.prog.info? 19).map (·.bytes) = some 8 := by kernel_rfl
theorem Tryd.by21 : (Tryd.prog.info? 21).map (·.bytes) = some 4 := by kernel_rfl
theorem Tryd.by22 : (Tryd.prog.info? 22).map (·.bytes) = some 24 := by kernel_rfl
theorem Tryd.by23 : (Tryd.prog.info? 23).map (·.bytes) = some 24 := by kernel_rfl
theorem Tryd.by24 : (Tryd.prog.info? 24).map (·.bytes) = some 24 := by kernel_rfl
theorem Tryd.by28 : (Tryd.prog.info? 28).map (·.bytes) = some 8 := by kernel_rfl
theorem Tryd.by29 : (Tryd.prog.info? 29).map (·.bytes) = some 8 := by kernel_rfl
theorem Tryd.by32 : (Tryd.prog.info? 32).map (·.bytes) = some 8 := by kernel_rfl
theorem Tryd.by34 : (Tryd.prog.info? 34).map (·.bytes) = some 40 := by kernel_rfl
theorem Tryd.by35 : (Tryd.prog.info? 35).map (·.bytes) = some 40 := by kernel_rfl
theorem Tryd.by37 : (Tryd.prog.info? 37).map (·.bytes) = some 48 := by kernel_rfl
theorem Tryd.by38 : (Tryd.prog.info? 38).map (·.bytes) = some 48 := by kernel_rfl
theorem Tryd.by39 : (Tryd.prog.info? 39).map (·.bytes) = some 24 := by kernel_rfl
theorem Tryd.by40 : (Tryd.prog.info? 40).map (·.bytes) = some 40 := by kernel_rfl
theorem Tryd.by41 : (Tryd.prog.info? 41).map (·.bytes) = some 40 := by kernel_rfl
theorem Tryd.by42 : (Tryd.prog.info? 42).map (·.bytes) = some 32 := by kernel_rfl
theorem Tryd.by43 : (Tryd.prog.info? 43).map (·.bytes) = some 32 := by kernel_rfl
theorem Tryd.by49 : (Tryd.prog.info? 49).map (·.bytes) = some 24 := by kernel_rfl
theorem Tryd.by52 : (Tryd.prog.info? 52).map (·.bytes) = some 24 := by kernel_rfl
theorem Tryd.by66 : (Tryd.prog.info? 66).map (·.bytes) = some 24 := by kernel_rfl
theorem Tryd.by68 : (Tryd.prog.info? 68).map (·.bytes) = some 48 := by kernel_rfl
theorem Tryd.by69 : (Tryd.prog.info? 69).map (·.bytes) = some 48 := by kernel_rfl
theorem Tryd.by71 : (Tryd.prog.info? 71).map (·.bytes) = some 48 := by kernel_rfl
theorem Tryd.by72 : (Tryd.prog.info? 72).map (·.bytes) = some 48 := by kernel_rfl
theorem Tryd.by74 : (Tryd.prog.info? 74).map (·.bytes) = some 24 := by kernel_rfl
theorem Tryd.by77 : (Tryd.prog.info? 77).map (·.bytes) = some 24 := by kernel_rfl
theorem Tryd.by78 : (Tryd.prog.info? 78).map (·.bytes) = some 48 := by kernel_rfl
theorem Tryd.by79 : (Tryd.prog.info? 79).map (·.bytes) = some 48 := by kernel_rfl
theorem Tryd.by82 : (Tryd.prog.info? 82).map (·.bytes) = some 24 := by kernel_rfl
theorem Tryd.by83 : (Tryd.prog.info? 83).map (·.bytes) = some 24 := by kernel_rfl
theorem Tryd.by84 : (Tryd.prog.info? 84).map (·.bytes) = some 128 := by kernel_rfl
theorem Tryd.by85 : (Tryd.prog.info? 85).map (·.bytes) = some 128 := by kernel_rfl
theorem Tryd.by98 : (Tryd.prog.info? 98).map (·.bytes) = some 24 := by kernel_rfl
theorem Tryd.by99 : (Tryd.prog.info? 99).map (·.bytes) = some 24 := by kernel_rfl
theorem Tryd.by100 : (Tryd.prog.info? 100).map (·.bytes) = some 48 := by kernel_rfl
theorem Tryd.by101 : (Tryd.prog.info? 101).map (·.bytes) = some 48 := by kernel_rfl
theorem Tryd.by102 : (Tryd.prog.info? 102).map (·.bytes) = some 24 := by kernel_rfl
theorem Tryd.by103 : (Tryd.prog.info? 103).map (·.bytes) = some 8 := by kernel_rfl
theorem Tryd.by104 : (Tryd.prog.info? 104).map (·.bytes) = some 32 := by kernel_rfl
theorem Tryd.by105 : (Tryd.prog.info? 105).map (·.bytes) = some 32 := by kernel_rfl
theorem Tryd.by106 : (Tryd.prog.info? 106).map (·.bytes) = some 8 := by kernel_rfl
theorem Tryd.by107 : (Tryd.prog.info? 107).map (·.bytes) = some 8 := by kernel_rfl
theorem Tryd.by108 : (Tryd.prog.info? 108).map (·.bytes) = some 8 := by kernel_rfl
theorem Tryd.by109 : (Tryd.prog.info? 109).map (·.bytes) = some 8 := by kernel_rfl
theorem Tryd.by110 : (Tryd.prog.info? 110).map (·.bytes) = some 24 := by kernel_rfl
theorem Tryd.by111 : (Tryd.prog.info? 111).map (·.bytes) = some 24 := by kernel_rfl
theorem Tryd.by112 : (Tryd.prog.info? 112).map (·.bytes) = some 48 := by kernel_rfl
theorem Tryd.by113 : (Tryd.prog.info? 113).map (·.bytes) = some 48 := by kernel_rfl
theorem Tryd.by114 : (Tryd.prog.info? 114).map (·.bytes) = some 8 := by kernel_rfl
theorem Tryd.by132 : (Tryd.prog.info? 132).map (·.bytes) = some 24 := by kernel_rfl
theorem Tryd.by134 : (Tryd.prog.info? 134).map (·.bytes) = some 8 := by kernel_rfl
theorem Tryd.by140 : (Tryd.prog.info? 140).map (·.bytes) = some 8 := by kernel_rfl
theorem Tryd.by161 : (Tryd.prog.info? 161).map (·.bytes) = some 8 := by kernel_rfl
theorem Tryd.by162 : (Tryd.prog.info? 162).map (·.bytes) = some 2 := by kernel_rfl
theorem Tryd.by163 : (Tryd.prog.info? 163).map (·.bytes) = some 2 := by kernel_rfl
theorem Tryd.by167 : (Tryd.prog.info? 167).map (·.bytes) = some 4 := by kernel_rfl
theorem Tryd.by171 : (Tryd.prog.info? 171).map (·.bytes) = some 40 := by kernel_rfl
theorem Tryd.by172 : (Tryd.prog.info? 172).map (·.bytes) = some 40 := by kernel_rfl
theorem Tryd.by174 : (Tryd.prog.info? 174).map (·.bytes) = some 0 := by kernel_rfl
theorem Tryd.by175 : (Tryd.prog.info? 175).map (·.bytes) = some 0 := by kernel_rfl
theorem Tryd.by176 : (Tryd.prog.info? 176).map (·.bytes) = some 1 := by kernel_rfl
theorem Tryd.by177 : (Tryd.prog.info? 177).map (·.bytes) = some 1 := by kernel_rfl
theorem Tryd.by179 : (Tryd.prog.info? 179).map (·.bytes) = some 8 := by kernel_rfl
theorem Tryd.by180 : (Tryd.prog.info? 180).map (·.bytes) = some 4 := by kernel_rfl
theorem Tryd.by181 : (Tryd.prog.info? 181).map (·.bytes) = some 4 := by kernel_rfl
theorem Tryd.by182 : (Tryd.prog.info? 182).map (·.bytes) = some 48 := by kernel_rfl
theorem Tryd.by183 : (Tryd.prog.info? 183).map (·.bytes) = some 48 := by kernel_rfl
theorem Tryd.fld7_0 : Go.Eng.fieldOf Tryd.prog 7 0 = some (0, 1, 2) := by kernel_rfl
theorem Tryd.fld7_1 : Go.Eng.fieldOf Tryd.prog 7 1 = some (1, 1, 3) := by kernel_rfl
theorem Tryd.fld7_2 : Go.Eng.fieldOf Tryd.prog 7 2 = some (2, 1, 4) := by kernel_rfl
theorem Tryd.fld7_3 : Go.Eng.fieldOf Tryd.prog 7 3 = some (3, 1, 6) := by kernel_rfl
theorem Tryd.fld8_0 : Go.Eng.fieldOf Tryd.prog 8 0 = some (0, 1, 2) := by kernel_rfl
theorem Tryd.fld8_1 : Go.Eng.fieldOf Tryd.prog 8 1 = some (1, 1, 3) := by kernel_rfl
theorem Tryd.fld8_2 : Go.Eng.fieldOf Tryd.prog 8 2 = some (2, 1, 4) := by kernel_rfl
theorem Tryd.fld8_3 : Go.Eng.fieldOf Tryd.prog 8 3 = some (3, 1, 6) := by kernel_rfl
theorem Tryd.fld13_0 : Go.Eng.fieldOf Tryd.prog 13 0 = some (0, 1, 9) := by kernel_rfl
theorem Tryd.fld13_1 : Go.Eng.fieldOf Tryd.prog 13 1 = some (1, 1, 12) := by kernel_rfl
theorem Tryd.fld14_0 : Go.Eng.fieldOf Tryd.prog 14 0 = some (0, 1, 9) := by kernel_rfl
theorem Tryd.fld14_1 : Go.Eng.fieldOf Tryd.prog 14 1 = some (1, 1, 12) := by kernel_rfl
theorem Tryd.fld18_0 : Go.Eng.fieldOf Tryd.prog 18 0 = some (0, 1, 17) := by kernel_rfl
theorem Tryd.fld19_0 : Go.Eng.fieldOf Tryd.prog 19 0 = some (0, 1, 17) := by kernel_rfl
theorem Tryd.fld34_0 : Go.Eng.fieldOf Tryd.prog 34 0 = some (0, 1, 9) := by kernel_rfl
theorem Tryd.fld34_1 : Go.Eng.fieldOf Tryd.prog 34 1 = some (1, 1, 24) := by kernel_rfl
theorem Tryd.fld35_0 : Go.Eng.fieldOf Tryd.prog 35 0 = some (0, 1, 9) := by kernel_rfl
theorem Tryd.fld35_1 : Go.Eng.fieldOf Tryd.prog 35 1 = some (1, 1, 24) := by kernel_rfl
theorem Tryd.fld37_0 : Go.Eng.fieldOf Tryd.prog 37 0 = some (0, 1, 3) := by kernel_rfl
theorem Tryd.fld37_1 : Go.Eng.fieldOf Tryd.prog 37 1 = some (1, 1, 9) := by kernel_rfl
theorem Tryd.fld37_2 : Go.Eng.fieldOf Tryd.prog 37 2 = some (2, 1, 24) := by kernel_rfl
theorem Tryd.fld38_0 : Go.Eng.fieldOf Tryd.prog 38 0 = some (0, 1, 3) := by kernel_rfl
theorem Tryd.fld38_1 : Go.Eng.fieldOf Tryd.prog 38 1 = some (1, 1, 9) := by kernel_rfl
theorem Tryd.fld38_2 : Go.Eng.fieldOf Tryd.prog 38 2 = some (2, 1, 24) := by kernel_rfl
theorem Tryd.fld40_0 : Go.Eng.fieldOf Tryd.prog 40 0 = some (0, 1, 3) := by kernel_rfl
theorem Tryd.fld40_1 : Go.Eng.fieldOf Tryd.prog 40 1 = some (1, 1, 3) := by kernel_rfl
theorem Tryd.fld40_2 : Go.Eng.fieldOf Tryd.prog 40 2 = some (2, 1, 39) := by kernel_rfl
theorem Tryd.fld41_0 : Go.Eng.fieldOf Tryd.prog 41 0 = some (0, 1, 3) := by kernel_rfl
theorem Tryd.fld41_1 : Go.Eng.fieldOf Tryd.prog 41 1 = some (1, 1, 3) := by kernel_rfl
theorem Tryd.fld41_2 : Go.Eng.fieldOf Tryd.prog 41 2 = some (2, 1, 39) := by kernel_rfl
theorem Tryd.fld42_0 : Go.Eng.fieldOf Tryd.prog 42 0 = some (0, 1, 3) := by kernel_rfl
theorem Tryd.fld42_1 : Go.Eng.fieldOf Tryd.prog 42 1 = some (1, 1, 3) := by kernel_rfl
theorem Tryd.fld42_2 : Go.Eng.fieldOf Tryd.prog 42 2 = some (2, 1, 3) := by kernel_rfl
theorem Tryd.fld42_3 : Go.Eng.fieldOf Tryd.prog 42 3 = some (3, 1, 29) := by kernel_rfl
theorem Tryd.fld43_0 : Go.Eng.fieldOf Tryd.prog 43 0 = some (0, 1, 3) := by kernel_rfl
theorem Tryd.fld43_1 : Go.Eng.fieldOf Tryd.prog 43 1 = some (1, 1, 3) := by kernel_rfl
theorem Tryd.fld43_2 : Go.Eng.fieldOf Tryd.prog 43 2 = some (2, 1, 3) := by kernel_rfl
theorem Tryd.fld43_3 : Go.Eng.fieldOf Tryd.prog 43 3 = some (3, 1, 29) := by kernel_rfl
theorem Tryd.fld68_0 : Go.Eng.fieldOf Tryd.prog 68 0 = some (0, 1, 3) := by kernel_rfl
theorem Tryd.fld68_1 : Go.Eng.fieldOf Tryd.prog 68 1 = some (1, 4, 43) := by kernel_rfl
theorem Tryd.fld68_2 : Go.Eng.fieldOf Tryd.prog 68 2 = some (5, 1, 4) := by kernel_rfl
theorem Tryd.fld69_0 : Go.Eng.fieldOf Tryd.prog 69 0 = some (0, 1, 3) := by kernel_rfl
theorem Tryd.fld69_1 : Go.Eng.fieldOf Tryd.prog 69 1 = some (1, 4, 43) := by kernel_rfl
theorem Tryd.fld69_2 : Go.Eng.fieldOf Tryd.prog 69 2 = some (5, 1, 4) := by kernel_rfl
theorem Tryd.fld71_0 : Go.Eng.fieldOf Tryd.prog 71 0 = some (0, 1, 3) := by kernel_rfl
theorem Tryd.fld71_1 : Go.Eng.fieldOf Tryd.prog 71 1 = some (1, 3, 41) := by kernel_rfl
theorem Tryd.fld72_0 : Go.Eng.fieldOf Tryd.prog 72 0 = some (0, 1, 3) := by kernel_rfl
theorem Tryd.fld72_1 : Go.Eng.fieldOf Tryd.prog 72 1 = some (1, 3, 41) := by kernel_rfl
theorem Tryd.fld78_0 : Go.Eng.fieldOf Tryd.prog 78 0 = some (0, 1, 77) := by kernel_rfl
theorem Tryd.fld78_1 : Go.Eng.fieldOf Tryd.prog 78 1 = some (1, 1, 52) := by kernel_rfl
theorem Tryd.fld79_0 : Go.Eng.fieldOf Tryd.prog 79 0 = some (0, 1, 77) := by kernel_rfl
theorem Tryd.fld79_1 : Go.Eng.fieldOf Tryd.prog 79 1 = some (1, 1, 52) := by kernel_rfl
theorem Tryd.fld84_0 : Go.Eng.fieldOf Tryd.prog 84 0 = some (0, 2, 79) := by kernel_rfl
theorem Tryd.fld84_1 : Go.Eng.fieldOf Tryd.prog 84 1 = some (2, 1, 82) := by kernel_rfl
theorem Tryd.fld84_2 : Go.Eng.fieldOf Tryd.prog 84 2 = some (3, 1, 3) := by kernel_rfl
theorem Tryd.fld84_3 : Go.Eng.fieldOf Tryd.prog 84 3 = some (4, 1, 49) := by kernel_rfl
theorem Tryd.fld84_4 : Go.Eng.fieldOf Tryd.prog 84 4 = some (5, 1, 83) := by kernel_rfl
theorem Tryd.fld85_0 : Go.Eng.fieldOf Tryd.prog 85 0 = some (0, 2, 79) := by kernel_rfl
theorem Tryd.fld85_1 : Go.Eng.fieldOf Tryd.prog 85 1 = some (2, 1, 82) := by kernel_rfl
theorem Tryd.fld85_2 : Go.Eng.fieldOf Tryd.prog 85 2 = some (3, 1, 3) := by kernel_rfl
theorem Tryd.fld85_3 : Go.Eng.fieldOf Tryd.prog 85 3 = some (4, 1, 49) := by kernel_rfl
theorem Tryd.fld85_4 : Go.Eng.fieldOf Tryd.prog 85 4 = some (5, 1, 83) := by kernel_rfl
theorem Tryd.fld98_0 : Go.Eng.fieldOf Tryd.prog 98 0 = some (0, 1, 39) := by kernel_rfl
theorem Tryd.fld99_0 : Go.Eng.fieldOf Tryd.prog 99 0 = some (0, 1, 39) := by kernel_rfl
theorem Tryd.fld100_0 : Go.Eng.fieldOf Tryd.prog 100 0 = some (0, 1, 99) := by kernel_rfl
theorem Tryd.fld100_1 : Go.Eng.fieldOf Tryd.prog 100 1 = some (1, 1, 23) := by kernel_rfl
theorem Tryd.fld101_0 : Go.Eng.fieldOf Tryd.prog 101 0 = some (0, 1, 99) := by kernel_rfl
theorem Tryd.fld101_1 : Go.Eng.fieldOf Tryd.prog 101 1 = some (1, 1, 23) := by kernel_rfl
theorem Tryd.fld104_0 : Go.Eng.fieldOf Tryd.prog 104 0 = some (0, 1, 102) := by kernel_rfl
theorem Tryd.fld104_1 : Go.Eng.fieldOf Tryd.prog 104 1 = some (1, 1, 103) := by kernel_rfl
theorem Tryd.fld105_0 : Go.Eng.fieldOf Tryd.prog 105 0 = some (0, 1, 102) := by kernel_rfl
theorem Tryd.fld105_1 : Go.Eng.fieldOf Tryd.prog 105 1 = some (1, 1, 103) := by kernel_rfl
theorem Tryd.fld107_0 : Go.Eng.fieldOf Tryd.prog 107 0 = some (0, 1, 28) := by kernel_rfl
theorem Tryd.fld108_0 : Go.Eng.fieldOf Tryd.prog 108 0 = some (0, 1, 28) := by kernel_rfl
theorem Tryd.fld110_0 : Go.Eng.fieldOf Tryd.prog 110 0 = some (0, 1, 82) := by kernel_rfl
theorem Tryd.fld111_0 : Go.Eng.fieldOf Tryd.prog 111 0 = some (0, 1, 82) := by kernel_rfl
theorem Tryd.fld112_0 : Go.Eng.fieldOf Tryd.prog 112 0 = some (0, 1, 106) := by kernel_rfl
theorem Tryd.fld112_1 : Go.Eng.fieldOf Tryd.prog 112 1 = some (1, 1, 111) := by kernel_rfl
theorem Tryd.fld112_2 : Go.Eng.fieldOf Tryd.prog 112 2 = some (2, 1, 3) := by kernel_rfl
theorem Tryd.fld112_3 : Go.Eng.fieldOf Tryd.prog 112 3 = some (3, 1, 109) := by kernel_rfl
theorem Tryd.fld113_0 : Go.Eng.fieldOf Tryd.prog 113 0 = some (0, 1, 106) := by kernel_rfl
theorem Tryd.fld113_1 : Go.Eng.fieldOf Tryd.prog 113 1 = some (1, 1, 111) := by kernel_rfl
theorem Tryd.fld113_2 : Go.Eng.fieldOf Tryd.prog 113 2 = some (2, 1, 3) := by kernel_rfl
theorem Tryd.fld113_3 : Go.Eng.fieldOf Tryd.prog 113 3 = some (3, 1, 109) := by kernel_rfl
theorem Tryd.fld162_0 : Go.Eng.fieldOf Tryd.prog 162 0 = some (0, 1, 5) := by kernel_rfl
theorem Tryd.fld162_1 : Go.Eng.fieldOf Tryd.prog 162 1 = some (1, 1, 5) := by kernel_rfl
theorem Tryd.fld163_0 : Go.Eng.fieldOf Tryd.prog 163 0 = some (0, 1, 5) := by kernel_rfl
theorem Tryd.fld163_1 : Go.Eng.fieldOf Tryd.prog 163 1 = some (1, 1, 5) := by kernel_rfl
theorem Tryd.fld171_0 : Go.Eng.fieldOf Tryd.prog 171 0 = some (0, 1, 17) := by kernel_rfl
theorem Tryd.fld171_1 : Go.Eng.fieldOf Tryd.prog 171 1 = some (1, 1, 17) := by kernel_rfl
theorem Tryd.fld171_2 : Go.Eng.fieldOf Tryd.prog 171 2 = some (2, 1, 17) := by kernel_rfl
theorem Tryd.fld171_3 : Go.Eng.fieldOf Tryd.prog 171 3 = some (3, 1, 9) := by kernel_rfl
theorem Tryd.fld172_0 : Go.Eng.fieldOf Tryd.prog 172 0 = some (0, 1, 17) := by kernel_rfl
theorem Tryd.fld172_1 : Go.Eng.fieldOf Tryd.prog 172 1 = some (1, 1, 17) := by kernel_rfl
theorem Tryd.fld172_2 : Go.Eng.fieldOf Tryd.prog 172 2 = some (2, 1, 17) := by kernel_rfl
theorem Tryd.fld172_3 : Go.Eng.fieldOf Tryd.prog 172 3 = some (3, 1, 9) := by kernel_rfl
theorem Tryd.fld174_0 : Go.Eng.fieldOf Tryd.prog 174 0 = some (0, 0, 173) := by kernel_rfl
theorem Tryd.fld175_0 : Go.Eng.fieldOf Tryd.prog 175 0 = some (0, 0, 173) := by kernel_rfl
theorem Tryd.fld182_0 : Go.Eng.fieldOf Tryd.prog 182 0 = some (0, 1, 12) := by kernel_rfl
theorem Tryd.fld182_1 : Go.Eng.fieldOf Tryd.prog 182 1 = some (1, 1, 12) := by kernel_rfl
theorem Tryd.fld182_2 : Go.Eng.fieldOf Tryd.prog 182 2 = some (2, 1, 167) := by kernel_rfl
theorem Tryd.fld182_3 : Go.Eng.fieldOf Tryd.prog 182 3 = some (3, 1, 176) := by kernel_rfl
theorem Tryd.fld182_4 : Go.Eng.fieldOf Tryd.prog 182 4 = some (4, 1, 5) := by kernel_rfl
theorem Tryd.fld182_5 : Go.Eng.fieldOf Tryd.prog 182 5 = some (5, 1, 5) := by kernel_rfl
theorem Tryd.fld182_6 : Go.Eng.fieldOf Tryd.prog 182 6 = some (6, 1, 177) := by kernel_rfl
theorem Tryd.fld182_7 : Go.Eng.fieldOf Tryd.prog 182 7 = some (7, 1, 178) := by kernel_rfl
theorem Tryd.fld182_8 : Go.Eng.fieldOf Tryd.prog 182 8 = some (8, 1, 179) := by kernel_rfl
theorem Tryd.fld182_9 : Go.Eng.fieldOf Tryd.prog 182 9 = some (9, 1, 180) := by kernel_rfl
theorem Tryd.fld182_10 : Go.Eng.fieldOf Tryd.prog 182 10 = some (10, 1, 181) := by kernel_rfl
theorem Tryd.fld183_0 : Go.Eng.fieldOf Tryd.prog 183 0 = some (0, 1, 12) := by kernel_rfl
theorem Tryd.fld183_1 : Go.Eng.fieldOf Tryd.prog 183 1 = some (1, 1, 12) := by kernel_rfl
theorem Tryd.fld183_2 : Go.Eng.fieldOf Tryd.prog 183 2 = some (2, 1, 167) := by kernel_rfl
theorem Tryd.fld183_3 : Go.Eng.fieldOf Tryd.prog 183 3 = some (3, 1, 176) := by kernel_rfl
theorem Tryd.fld183_4 : Go.Eng.fieldOf Tryd.prog 183 4 = some (4, 1, 5) := by kernel_rfl
theorem Tryd.fld183_5 : Go.Eng.fieldOf Tryd.prog 183 5 = some (5, 1, 5) := by kernel_rfl
theorem Tryd.fld183_6 : Go.Eng.fieldOf Tryd.prog 183 6 = some (6, 1, 177) := by kernel_rfl
theorem Tryd.fld183_7 : Go.Eng.fieldOf Tryd.prog 183 7 = some (7, 1, 178) := by kernel_rfl
theorem Tryd.fld183_8 : Go.Eng.fieldOf Tryd.prog 183 8 = some (8, 1, 179) := by kernel_rfl
theorem Tryd.fld183_9 : Go.Eng.fieldOf Tryd.prog 183 9 = some (9, 1, 180) := by kernel_rfl
theorem Tryd.fld183_10 : Go.Eng.fieldOf Tryd.prog 183 10 = some (10, 1, 181) := by kernel_rfl
theorem Tryd.ints43 : Go.Eng.intsOf Tryd.prog 43 = some 4 := by kernel_rfl
theorem Tryd.lay7 : Go.Eng.layOf Tryd.prog 7 = some ([.int .i64 0, .int .i64 0, .bool false, .int .u8 0], [0, 1, 2, 3]) := by kernel_rfl
theorem Tryd.lay8 : Go.Eng.layOf Tryd.prog 8 = some ([.int .i64 0, .int .i64 0, .bool false, .int .u8 0], [0, 1, 2, 3]) := by kernel_rfl
theorem Tryd.lay13 : Go.Eng.layOf Tryd.prog 13 = some ([.string ⟨#[]⟩, .int .u64 0], [0, 1]) := by kernel_rfl
theorem Tryd.lay14 : Go.Eng.layOf Tryd.prog 14 = some ([.string ⟨#[]⟩, .int .u64 0], [0, 1]) := by kernel_rfl
theorem Tryd.lay18 : Go.Eng.layOf Tryd.prog 18 = some ([.pointer none], [0]) := by kernel_rfl
theorem Tryd.lay19 : Go.Eng.layOf Tryd.prog 19 = some ([.pointer none], [0]) := by kernel_rfl
theorem Tryd.lay34 : Go.Eng.layOf Tryd.prog 34 = some ([.string ⟨#[]⟩, .slice none 0 0], [0, 1]) := by kernel_rfl
theorem Tryd.lay35 : Go.Eng.layOf Tryd.prog 35 = some ([.string ⟨#[]⟩, .slice none 0 0], [0, 1]) := by kernel_rfl
theorem Tryd.lay37 : Go.Eng.layOf Tryd.prog 37 = some ([.int .i64 0, .string ⟨#[]⟩, .slice none 0 0], [0, 1, 2]) := by kernel_rfl
theorem Tryd.lay38 : Go.Eng.layOf Tryd.prog 38 = some ([.int .i64 0, .string ⟨#[]⟩, .slice none 0 0], [0, 1, 2]) := by kernel_rfl
theorem Tryd.lay40 : Go.Eng.layOf Tryd.prog 40 = some ([.int .i64 0, .int .i64 0, .slice none 0 0], [0, 1, 2]) := by kernel_rfl
theorem Tryd.lay41 : Go.Eng.layOf Tryd.prog 41 = some ([.int .i64 0, .int .i64 0, .slice none 0 0], [0, 1, 2]) := by kernel_rfl
theorem Tryd.lay42 : Go.Eng.layOf Tryd.prog 42 = some ([.int .i64 0, .int .i64 0, .int .i64 0, .int .i64 0], [0, 1, 2, 3]) := by kernel_rfl
theorem Tryd.lay43 : Go.Eng.layOf Tryd.prog 43 = some ([.int .i64 0, .int .i64 0, .int .i64 0, .int .i64 0], [0, 1, 2, 3]) := by kernel_rfl
theorem Tryd.lay78 : Go.Eng.layOf Tryd.prog 78 = some ([.slice none 0 0, .slice none 0 0], [0, 1]) := by kernel_rfl
theorem Tryd.lay79 : Go.Eng.layOf Tryd.prog 79 = some ([.slice none 0 0, .slice none 0 0], [0, 1]) := by kernel_rfl
theorem Tryd.lay98 : Go.Eng.layOf Tryd.prog 98 = some ([.slice none 0 0], [0]) := by kernel_rfl
theorem Tryd.lay99 : Go.Eng.layOf Tryd.prog 99 = some ([.slice none 0 0], [0]) := by kernel_rfl
theorem Tryd.lay100 : Go.Eng.layOf Tryd.prog 100 = some ([.slice none 0 0, .slice none 0 0], [0, 1]) := by kernel_rfl
theorem Tryd.lay101 : Go.Eng.layOf Tryd.prog 101 = some ([.slice none 0 0, .slice none 0 0], [0, 1]) := by kernel_rfl
theorem Tryd.lay104 : Go.Eng.layOf Tryd.prog 104 = some ([.slice none 0 0, .map none], [0, 1]) := by kernel_rfl
theorem Tryd.lay105 : Go.Eng.layOf Tryd.prog 105 = some ([.slice none 0 0, .map none], [0, 1]) := by kernel_rfl
theorem Tryd.lay107 : Go.Eng.layOf Tryd.prog 107 = some ([.pointer none], [0]) := by kernel_rfl
theorem Tryd.lay108 : Go.Eng.layOf Tryd.prog 108 = some ([.pointer none], [0]) := by kernel_rfl
theorem Tryd.lay110 : Go.Eng.layOf Tryd.prog 110 = some ([.slice none 0 0], [0]) := by kernel_rfl
theorem Tryd.lay111 : Go.Eng.layOf Tryd.prog 111 = some ([.slice none 0 0], [0]) := by kernel_rfl
theorem Tryd.lay112 : Go.Eng.layOf Tryd.prog 112 = some ([.pointer none, .slice none 0 0, .int .i64 0, .map none], [0, 1, 2, 3]) := by kernel_rfl
theorem Tryd.lay113 : Go.Eng.layOf Tryd.prog 113 = some ([.pointer none, .slice none 0 0, .int .i64 0, .map none], [0, 1, 2, 3]) := by kernel_rfl
theorem Tryd.lay162 : Go.Eng.layOf Tryd.prog 162 = some ([.int .u8 0, .int .u8 0], [0, 1]) := by kernel_rfl
theorem Tryd.lay163 : Go.Eng.layOf Tryd.prog 163 = some ([.int .u8 0, .int .u8 0], [0, 1]) := by kernel_rfl
theorem Tryd.lay171 : Go.Eng.layOf Tryd.prog 171 = some ([.pointer none, .pointer none, .pointer none, .string ⟨#[]⟩], [0, 1, 2, 3]) := by kernel_rfl
theorem Tryd.lay172 : Go.Eng.layOf Tryd.prog 172 = some ([.pointer none, .pointer none, .pointer none, .string ⟨#[]⟩], [0, 1, 2, 3]) := by kernel_rfl
theorem Tryd.lay182 : Go.Eng.layOf Tryd.prog 182 = some ([.int .u64 0, .int .u64 0, .int .u32 0, .int .u8 0, .int .u8 0, .int .u8 0, .int .u8 0, .nilFunc, .pointer none, .int .i32 0, .int .i32 0], [0, 1, 2, 3, 4, 5, 6, 7, 8, 9, 10]) := by kernel_rfl
theorem Tryd.lay183 : Go.Eng.layOf Tryd.prog 183 = some ([.int .u64 0, .int .u64 0, .int .u32 0, .int .u8 0, .int .u8 0, .int .u8 0, .int .u8 0, .nilFunc, .pointer none, .int .i32 0, .int .i32 0], [0, 1, 2, 3, 4, 5, 6, 7, 8, 9, 10]) := by kernel_rfl
theorem Tryd.layn68 : Go.Eng.layN Tryd.prog 68 = some ([.int .i64 0, .int .i64 0, .int .i64 0, .int .i64 0, .int .i64 0, .bool false], [(0, 1), (1, 4), (5, 1)]) := by kernel_rfl
theorem Tryd.layn69 : Go.Eng.layN Tryd.prog 69 = some ([.int .i64 0, .int .i64 0, .int .i64 0, .int .i64 0, .int .i64 0, .bool false], [(0, 1), (1, 4), (5, 1)]) := by kernel_rfl
theorem Tryd.layn71 : Go.Eng.layN Tryd.prog 71 = some ([.int .i64 0, .int .i64 0, .int .i64 0, .slice none 0 0], [(0, 1), (1, 3)]) := by kernel_rfl
theorem Tryd.layn72 : Go.Eng.layN Tryd.prog 72 = some ([.int .i64 0, .int .i64 0, .int .i64 0, .slice none 0 0], [(0, 1), (1, 3)]) := by kernel_rfl
theorem Tryd.layn84 : Go.Eng.layN Tryd.prog 84 = some ([.slice none 0 0, .slice none 0 0, .slice none 0 0, .int .i64 0, .slice none 0 0, .slice none 0 0], [(0, 2), (2, 1), (3, 1), (4, 1), (5, 1)]) := by kernel_rfl
theorem Tryd.layn85 : Go.Eng.layN Tryd.prog 85 = some ([.slice none 0 0, .slice none 0 0, .slice none 0 0, .int .i64 0, .slice none 0 0, .slice none 0 0], [(0, 2), (2, 1), (3, 1), (4, 1), (5, 1)]) := by kernel_rfl
theorem Tryd.layn174 : Go.Eng.layN Tryd.prog 174 = some ([], [(0, 0)]) := by kernel_rfl
theorem Tryd.layn175 : Go.Eng.layN Tryd.prog 175 = some ([], [(0, 0)]) := by kernel_rfl
theorem Tryd.nm0 : (Tryd.f0.name == "runtime.NumGoroutine") = false := by kernel_rfl
theorem Tryd.nm1 : (Tryd.f1.name == "runtime.NumGoroutine") = false := by kernel_rfl
theorem Tryd.nm2 : (Tryd.f2.name == "runtime.NumGoroutine") = false := by kernel_rfl
theorem Tryd.nm3 : (Tryd.f3.name == "runtime.NumGoroutine") = false := by kernel_rfl
theorem Tryd.nm4 : (Tryd.f4.name == "runtime.NumGoroutine") = false := by kernel_rfl
theorem Tryd.nm5 : (Tryd.f5.name == "runtime.NumGoroutine") = false := by kernel_rfl
theorem Tryd.nm6 : (Tryd.f6.name == "runtime.NumGoroutine") = false := by kernel_rfl
theorem Tryd.nm7 : (Tryd.f7.name == "runtime.NumGoroutine") = false := by kernel_rfl
theorem Tryd.nm8 : (Tryd.f8.name == "runtime.NumGoroutine") = false := by kernel_rfl
theorem Tryd.nm9 : (Tryd.f9.name == "runtime.NumGoroutine") = false := by kernel_rfl
theorem Tryd.nm10 : (Tryd.f10.name == "runtime.NumGoroutine") = false := by kernel_rfl
theorem Tryd.nm11 : (Tryd.f11.name == "runtime.NumGoroutine") = false := by kernel_rfl
theorem Tryd.nm12 : (Tryd.f12.name == "runtime.NumGoroutine") = false := by kernel_rfl
theorem Tryd.nm13 : (Tryd.f13.name == "runtime.NumGoroutine") = false := by kernel_rfl
theorem Tryd.nm14 : (Tryd.f14.name == "runtime.NumGoroutine") = false := by kernel_rfl
theorem Tryd.nm15 : (Tryd.f15.name == "runtime.NumGoroutine") = false := by kernel_rfl
theorem Tryd.nm16 : (Tryd.f16.name == "runtime.NumGoroutine") = false := by kernel_rfl
theorem Tryd.nm17 : (Tryd.f17.name == "runtime.NumGoroutine") = false := by kernel_rfl
theorem Tryd.nm18 : (Tryd.f18.name == "runtime.NumGoroutine") = false := by kernel_rfl
theorem Tryd.nm19 : (Tryd.f19.name == "runtime.NumGoroutine") = false := by kernel_rfl
theorem Tryd.nm20 : (Tryd.f20.name == "runtime.NumGoroutine") = false := by kernel_rfl
theorem Tryd.nm21 : (Tryd.f21.name == "runtime.NumGoroutine") = false := by kernel_rfl
theorem Tryd.nm22 : (Tryd.f22.name == "runtime.NumGoroutine") = false := by kernel_rfl
theorem Tryd.nm23 : (Tryd.f23.name == "runtime.NumGoroutine") = false := by kernel_rfl
theorem Tryd.nm24 : (Tryd.f24.name == "runtime.NumGoroutine") = false := by kernel_rfl
theorem Tryd.nm25 : (Tryd.f25.name == "runtime.NumGoroutine") = false := by kernel_rfl
theorem Tryd.nm26 : (Tryd.f26.name == "runtime.NumGoroutine") = false := by kernel_rfl
theorem Tryd.nm27 : (Tryd.f27.name == "runtime.NumGoroutine") = false := by kernel_rfl
theorem Tryd.nm28 : (Tryd.f28.name == "runtime.NumGoroutine") = false := by kernel_rfl
theorem Tryd.nm29 : (Tryd.f29.name == "runtime.NumGoroutine") = false := by kernel_rfl
theorem Tryd.nm30 : (Tryd.f30.name == "runtime.NumGoroutine") = false := by kernel_rfl
theorem Tryd.nm31 : (Tryd.f31.name == "runtime.NumGoroutine") = false := by kernel_rfl
theorem Tryd.nm32 : (Tryd.f32.name == "runtime.NumGoroutine") = false := by kernel_rfl
theorem Tryd.nm33 : (Tryd.f33.name == "runtime.NumGoroutine") = false := by kernel_rfl
theorem Tryd.nm34 : (Tryd.f34.name == "runtime.NumGoroutine") = false := by kernel_rfl
theorem Tryd.nm35 : (Tryd.f35.name == "runtime.NumGoroutine") = false := by kernel_rfl
theorem Tryd.nm36 : (Tryd.f36.name == "runtime.NumGoroutine") = false := by kernel_rfl
theorem Tryd.nm37 : (Tryd.f37.name == "runtime.NumGoroutine") = false := by kernel_rfl
theorem Tryd.nm38 : (Tryd.f38.name == "runtime.NumGoroutine") = false := by kernel_rfl
theorem Tryd.nm39 : (Tryd.f39.name == "runtime.NumGoroutine") = false := by kernel_rfl
theorem Tryd.nm40 : (Tryd.f40.name == "runtime.NumGoroutine") = false := by kernel_rfl
theorem Tryd.nm41 : (Tryd.f41.name == "runtime.NumGoroutine") = false := by kernel_rfl
theorem Tryd.nm42 : (Tryd.f42.name == "runtime.NumGoroutine") = false := by kernel_rfl
theorem Tryd.nm43 : (Tryd.f43.name == "runtime.NumGoroutine") = false := by kernel_rfl
theorem Tryd.nm44 : (Tryd.f44.name == "runtime.NumGoroutine") = false := by kernel_rfl
theorem Tryd.nm45 : (Tryd.f45.name == "runtime.NumGoroutine") = false := by kernel_rfl
theorem Tryd.nm46 : (Tryd.f46.name == "runtime.NumGoroutine") = false := by kernel_rfl
theorem Tryd.nm47 : (Tryd.f47.name == "runtime.NumGoroutine") = false := by kernel_rfl
theorem Tryd.nm48 : (Tryd.f48.name == "runtime.NumGoroutine") = false := by kernel_rfl
theorem Tryd.nm49 : (Tryd.f49.name == "runtime.NumGoroutine") = false := by kernel_rfl
theorem Tryd.nm50 : (Tryd.f50.name == "runtime.NumGoroutine") = false := by kernel_rfl
theorem Tryd.nm51 : (Tryd.f51.name == "runtime.NumGoroutine") = false := by kernel_rfl
theorem Tryd.nm52 : (Tryd.f52.name == "runtime.NumGoroutine") = false := by kernel_rfl
theorem Tryd.nm53 : (Tryd.f53.name == "runtime.NumGoroutine") = false := by kernel_rfl
theorem Tryd.nm54 : (Tryd.f54.name == "runtime.NumGoroutine") = false := by kernel_rfl
theorem Tryd.nm55 : (Tryd.f55.name == "runtime.NumGoroutine") = false := by kernel_rfl
theorem Tryd.nm56 : (Tryd.f56.name == "runtime.NumGoroutine") = false := by kernel_rfl
theorem Tryd.nm57 : (Tryd.f57.name == "runtime.NumGoroutine") = false := by kernel_rfl
theorem Tryd.nm58 : (Tryd.f58.name == "runtime.NumGoroutine") = false := by kernel_rfl
theorem Tryd.nm59 : (Tryd.f59.name == "runtime.NumGoroutine") = false := by kernel_rfl
theorem Tryd.nm60 : (Tryd.f60.name == "runtime.NumGoroutine") = false := by kernel_rfl
theorem Tryd.nm61 : (Tryd.f61.name == "runtime.NumGoroutine") = false := by kernel_rfl
theorem Tryd.nm62 : (Tryd.f62.name == "runtime.NumGoroutine") = false := by kernel_rfl
theorem Tryd.nm63 : (Tryd.f63.name == "runtime.NumGoroutine") = false := by kernel_rfl
theorem Tryd.nm64 : (Tryd.f64.name == "runtime.NumGoroutine") = false := by kernel_rfl
theorem Tryd.nm65 : (Tryd.f65.name == "runtime.NumGoroutine") = false := by kernel_rfl
theorem Tryd.nm66 : (Tryd.f66.name == "runtime.NumGoroutine") = false := by kernel_rfl
theorem Tryd.nm67 : (Tryd.f67.name == "runtime.NumGoroutine") = false := by kernel_rfl
theorem Tryd.nm68 : (Tryd.f68.name == "runtime.NumGoroutine") = false := by kernel_rfl
theorem Tryd.nm69 : (Tryd.f69.name == "runtime.NumGoroutine") = false := by kernel_rfl
theorem Tryd.nm70 : (Tryd.f70.name == "runtime.NumGoroutine") = false := by kernel_rfl
theorem Tryd.nm71 : (Tryd.f71.name == "runtime.NumGoroutine") = false := by kernel_rfl
theorem Tryd.nm72 : (Tryd.f72.name == "runtime.NumGoroutine") = false := by kernel_rfl
theorem Tryd.nm73 : (Tryd.f73.name == "runtime.NumGoroutine") = false := by kernel_rfl
theorem Tryd.nm74 : (Tryd.f74.name == "runtime.NumGoroutine") = false := by kernel_rfl
theorem Tryd.nm75 : (Tryd.f75.name == "runtime.NumGoroutine") = false := by kernel_rfl
theorem Tryd.nm76 : (Tryd.f76.name == "runtime.NumGoroutine") = false := by kernel_rfl
theorem Tryd.nm77 : (Tryd.f77.name == "runtime.NumGoroutine") = false := by kernel_rfl
theorem Tryd.nm78 : (Tryd.f78.name == "runtime.NumGoroutine") = false := by kernel_rfl
theorem Tryd.nm79 : (Tryd.f79.name == "runtime.NumGoroutine") = false := by kernel_rfl
theorem Tryd.nm80 : (Tryd.f80.name == "runtime.NumGoroutine") = false := by kernel_rfl
theorem Tryd.nm81 : (Tryd.f81.name == "runtime.NumGoroutine") = false := by kernel_rfl
theorem Tryd.nm82 : (Tryd.f82.name == "runtime.NumGoroutine") = false := by kernel_rfl
theorem Tryd.nm83 : (Tryd.f83.name == "runtime.NumGoroutine") = false := by kernel_rfl
theorem Tryd.nm84 : (Tryd.f84.name == "runtime.NumGoroutine") = false := by kernel_rfl
theorem Tryd.nm85 : (Tryd.f85.name == "runtime.NumGoroutine") = false := by kernel_rfl
theorem Tryd.nm86 : (Tryd.f86.name == "runtime.NumGoroutine") = false := by kernel_rfl
theorem Tryd.nm87 : (Tryd.f87.name == "runtime.NumGoroutine") = false := by kernel_rfl
theorem Tryd.nm88 : (Tryd.f88.name == "runtime.NumGoroutine") = false := by kernel_rfl
theorem Tryd.nm89 : (Tryd.f89.name == "runtime.NumGoroutine") = false := by kernel_rfl
theorem Tryd.nm90 : (Tryd.f90.name == "runtime.NumGoroutine") = false := by kernel_rfl
theorem Tryd.nm91 : (Tryd.f91.name == "runtime.NumGoroutine") = false := by kernel_rfl
theorem Tryd.nm92 : (Tryd.f92.name == "runtime.NumGoroutine") = false := by kernel_rfl
theorem Tryd.nm93 : (Tryd.f93.name == "runtime.NumGoroutine") = false := by kernel_rfl
theorem Tryd.nm94 : (Tryd.f94.name == "runtime.NumGoroutine") = false := by kernel_rfl
theorem Tryd.nm95 : (Tryd.f95.name == "runtime.NumGoroutine") = false := by kernel_rfl
theorem Tryd.nm96 : (Tryd.f96.name == "runtime.NumGoroutine") = false := by kernel_rfl
theorem Tryd.nm97 : (Tryd.f97.name == "runtime.NumGoroutine") = false := by kernel_rfl
theorem Tryd.nm98 : (Tryd.f98.name == "runtime.NumGoroutine") = false := by kernel_rfl
theorem Tryd.nm99 : (Tryd.f99.name == "runtime.NumGoroutine") = false := by kernel_rfl
theorem Tryd.nm100 : (Tryd.f100.name == "runtime.NumGoroutine") = false := by kernel_rfl
theorem Tryd.nm101 : (Tryd.f101.name == "runtime.NumGoroutine") = false := by kernel_rfl
theorem Tryd.nm102 : (Tryd.f102.name == "runtime.NumGoroutine") = false := by kernel_rfl
theorem Tryd.nm103 : (Tryd.f103.name == "runtime.NumGoroutine") = false := by kernel_rfl
theorem Tryd.nm104 : (Tryd.f104.name == "runtime.NumGoroutine") = false := by kernel_rfl
theorem Tryd.nm105 : (Tryd.f105.name == "runtime.NumGoroutine") = false := by kernel_rfl
theorem Tryd.nm106 : (Tryd.f106.name == "runtime.NumGoroutine") = false := by kernel_rfl
theorem Tryd.nm107 : (Tryd.f107.name == "runtime.NumGoroutine") = false := by kernel_rfl
theorem Tryd.nm108 : (Tryd.f108.name == "runtime.NumGoroutine") = false := by kernel_rfl
theorem Tryd.nm109 : (Tryd.f109.name == "runtime.NumGoroutine") = false := by kernel_rfl
theorem Tryd.nm110 : (Tryd.f110.name == "runtime.NumGoroutine") = false := by kernel_rfl
theorem Tryd.nm111 : (Tryd.f111.name == "runtime.NumGoroutine") = false := by kernel_rfl
theorem Tryd.nm112 : (Tryd.f112.name == "runtime.NumGoroutine") = false := by kernel_rfl
theorem Tryd.nm113 : (Tryd.f113.name == "runtime.NumGoroutine") = false := by kernel_rfl
theorem Tryd.nm114 : (Tryd.f114.name == "runtime.NumGoroutine") = false := by kernel_rfl
theorem Tryd.nm115 : (Tryd.f115.name == "runtime.NumGoroutine") = false := by kernel_rfl
theorem Tryd.nm116 : (Tryd.f116.name == "runtime.NumGoroutine") = false := by kernel_rfl
theorem Tryd.nm117 : (Tryd.f117.name == "runtime.NumGoroutine") = false := by kernel_rfl
theorem Tryd.nm118 : (Tryd.f118.name == "runtime.NumGoroutine") = false := by kernel_rfl
theorem Tryd.nm119 : (Tryd.f119.name == "runtime.NumGoroutine") = false := by kernel_rfl
theorem Tryd.nm120 : (Tryd.f120.name == "runtime.NumGoroutine") = false := by kernel_rfl
theorem Tryd.nm121 : (Tryd.f121.name == "runtime.NumGoroutine") = false := by kernel_rfl
theorem Tryd.nm122 : (Tryd.f122.name == "runtime.NumGoroutine") = false := by kernel_rfl
theorem Tryd.nm123 : (Tryd.f123.name == "runtime.NumGoroutine") = false := by kernel_rfl
theorem Tryd.sz2 : (Tryd.prog.info? 2).map (·.size) = some 1 := by kernel_rfl
theorem Tryd.sz3 : (Tryd.prog.info? 3).map (·.size) = some 1 := by kernel_rfl
theorem Tryd.sz4 : (Tryd.prog.info? 4).map (·.size) = some 1 := by kernel_rfl
theorem Tryd.sz5 : (Tryd.prog.info? 5).map (·.size) = some 1 := by kernel_rfl
theorem Tryd.sz6 : (Tryd.prog.info? 6).map (·.size) = some 1 := by kernel_rfl
theorem Tryd.sz7 : (Tryd.prog.info? 7).map (·.size) = some 4 := by kernel_rfl
theorem Tryd.sz8 : (Tryd.prog.info? 8).map (·.size) = some 4 := by kernel_rfl
theorem Tryd.sz9 : (Tryd.prog.info? 9).map (·.size) = some 1 := by kernel_rfl
theorem Tryd.sz10 : (Tryd.prog.info? 10).map (·.size) = some 1 := by kernel_rfl
theorem Tryd.sz11 : (Tryd.prog.info? 11).map (·.size) = some 1 := by kernel_rfl
theorem Tryd.sz12 : (Tryd.prog.info? 12).map (·.size) = some 1 := by kernel_rfl
theorem Tryd.sz13 : (Tryd.prog.info? 13).map (·.size) = some 2 := by kernel_rfl
theorem Tryd.sz14 : (Tryd.prog.info? 14).map (·.size) = some 2 := by kernel_rfl
theorem Tryd.sz15 : (Tryd.prog.info? 15).map (·.size) = some 1 := by kernel_rfl
theorem Tryd.sz16 : (Tryd.prog.info? 16).map (·.size) = some 1 := by kernel_rfl
theorem Tryd.sz17 : (Tryd.prog.info? 17).map (·.size) = some 1 := by kernel_rfl
theorem Tryd.sz18 : (Tryd.prog.info? 18).map (·.size) = some 1 := by kernel_rfl
theorem Tryd.sz19 : (Tryd.prog.info? 19).map (·.size) = some 1 := by kernel_rfl
theorem Tryd.sz21 : (Tryd.prog.info? 21).map (·.size) = some 1 := by kernel_rfl
theorem Tryd.sz22 : (Tryd.prog.info? 22).map (·.size) = some 1 := by kernel_rfl
theorem Tryd.sz23 : (Tryd.prog.info? 23).map (·.size) = some 1 := by kernel_rfl
theorem Tryd.sz24 : (Tryd.prog.info? 24).map (·.size) = some 1 := by kernel_rfl
theorem Tryd.sz28 : (Tryd.prog.info? 28).map (·.size) = some 1 := by kernel_rfl
theorem Tryd.sz29 : (Tryd.prog.info? 29).map (·.size) = some 1 := by kernel_rfl
theorem Tryd.sz32 : (Tryd.prog.info? 32).map (·.size) = some 1 := by kernel_rfl
theorem Tryd.sz34 : (Tryd.prog.info? 34).map (·.size) = some 2 := by kernel_rfl
theorem Tryd.sz35 : (Tryd.prog.info? 35).map (·.size) = some 2 := by kernel_rfl
theorem Tryd.sz37 : (Tryd.prog.info? 37).map (·.size) = some 3 := by kernel_rfl
theorem Tryd.sz38 : (Tryd.prog.info? 38).map (·.size) = some 3 := by kernel_rfl
theorem Tryd.sz39 : (Tryd.prog.info? 39).map (·.size) = some 1 := by kernel_rfl
theorem Tryd.sz40 : (Tryd.prog.info? 40).map (·.size) = some 3 := by kernel_rfl
theorem Tryd.sz41 : (Tryd.prog.info? 41).map (·.size) = some 3 := by kernel_rfl
theorem Tryd.sz42 : (Tryd.prog.info? 42).map (·.size) = some 4 := by kernel_rfl
theorem Tryd.sz43 : (Tryd.prog.info? 43).map (·.size) = some 4 := by kernel_rfl
theorem Tryd.sz49 : (Tryd.prog.info? 49).map (·.size) = some 1 := by kernel_rfl
theorem Tryd.sz52 : (Tryd.prog.info? 52).map (·.size) = some 1 := by kernel_rfl
theorem Tryd.sz66 : (Tryd.prog.info? 66).map (·.size) = some 1 := by kernel_rfl
theorem Tryd.sz68 : (Tryd.prog.info? 68).map (·.size) = some 6 := by kernel_rfl
theorem Tryd.sz69 : (Tryd.prog.info? 69).map (·.size) = some 6 := by kernel_rfl
theorem Tryd.sz71 : (Tryd.prog.info? 71).map (·.size) = some 4 := by kernel_rfl
theorem Tryd.sz72 : (Tryd.prog.info? 72).map (·.size) = some 4 := by kernel_rfl
theorem Tryd.sz74 : (Tryd.prog.info? 74).map (·.size) = some 1 := by kernel_rfl
theorem Tryd.sz77 : (Tryd.prog.info? 77).map (·.size) = some 1 := by kernel_rfl
theorem Tryd.sz78 : (Tryd.prog.info? 78).map (·.size) = some 2 := by kernel_rfl
theorem Tryd.sz79 : (Tryd.prog.info? 79).map (·.size) = some 2 := by kernel_rfl
theorem Tryd.sz82 : (Tryd.prog.info? 82).map (·.size) = some 1 := by kernel_rfl
theorem Tryd.sz83 : (Tryd.prog.info? 83).map (·.size) = some 1 := by kernel_rfl
theorem Tryd.sz84 : (Tryd.prog.info? 84).map (·.size) = some 6 := by kernel_rfl
theorem Tryd.sz85 : (Tryd.prog.info? 85).map (·.size) = some 6 := by kernel_rfl
theorem Tryd.sz98 : (Tryd.prog.info? 98).map (·.size) = some 1 := by kernel_rfl
theorem Tryd.sz99 : (Tryd.prog.info? 99).map (·.size) = some 1 := by kernel_rfl
theorem Tryd.sz100 : (Tryd.prog.info? 100).map (·.size) = some 2 := by kernel_rfl
theorem Tryd.sz101 : (Tryd.prog.info? 101).map (·.size) = some 2 := by kernel_rfl
theorem Tryd.sz102 : (Tryd.prog.info? 102).map (·.size) = some 1 := by kernel_rfl
theorem Tryd.sz103 : (Tryd.prog.info? 103).map (·.size) = some 1 := by kernel_rfl
theorem Tryd.sz104 : (Tryd.prog.info? 104).map (·.size) = some 2 := by kernel_rfl
theorem Tryd.sz105 : (Tryd.prog.info? 105).map (·.size) = some 2 := by kernel_rfl
theorem Tryd.sz106 : (Tryd.prog.info? 106).map (·.size) = some 1 := by kernel_rfl
theorem Tryd.sz107 : (Tryd.prog.info? 107).map (·.size) = some 1 := by kernel_rfl
theorem Tryd.sz108 : (Tryd.prog.info? 108).map (·.size) = some 1 := by kernel_rfl
theorem Tryd.sz109 : (Tryd.prog.info? 109).map (·.size) = some 1 := by kernel_rfl
theorem Tryd.sz110 : (Tryd.prog.info? 110).map (·.size) = some 1 := by kernel_rfl
theorem Tryd.sz111 : (Tryd.prog.info? 111).map (·.size) = some 1 := by kernel_rfl
theorem Tryd.sz112 : (Tryd.prog.info? 112).map (·.size) = some 4 := by kernel_rfl
theorem Tryd.sz113 : (Tryd.prog.info? 113).map (·.size) = some 4 := by kernel_rfl
theorem Tryd.sz114 : (Tryd.prog.info? 114).map (·.size) = some 1 := by kernel_rfl
theorem Tryd.sz132 : (Tryd.prog.info? 132).map (·.size) = some 1 := by kernel_rfl
theorem Tryd.sz134 : (Tryd.prog.info? 134).map (·.size) = some 1 := by kernel_rfl
theorem Tryd.sz140 : (Tryd.prog.info? 140).map (·.size) = some 1 := by kernel_rfl
theorem Tryd.sz161 : (Tryd.prog.info? 161).map (·.size) = some 1 := by kernel_rfl
theorem Tryd.sz162 : (Tryd.prog.info? 162).map (·.size) = some 2 := by kernel_rfl
theorem Tryd.sz163 : (Tryd.prog.info? 163).map (·.size) = some 2 := by kernel_rfl
theorem Tryd.sz167 : (Tryd.prog.info? 167).map (·.size) = some 1 := by kernel_rfl
theorem Tryd.sz171 : (Tryd.prog.info? 171).map (·.size) = some 4 := by kernel_rfl
theorem Tryd.sz172 : (Tryd.prog.info? 172).map (·.size) = some 4 := by kernel_rfl
theorem Tryd.sz174 : (Tryd.prog.info? 174).map (·.size) = some 0 := by kernel_rfl
theorem Tryd.sz175 : (Tryd.prog.info? 175).map (·.size) = some 0 := by kernel_rfl
theorem Tryd.sz176 : (Tryd.prog.info? 176).map (·.size) = some 1 := by kernel_rfl
theorem Tryd.sz177 : (Tryd.prog.info? 177).map (·.size) = some 1 := by kernel_rfl
theorem Tryd.sz179 : (Tryd.prog.info? 179).map (·.size) = some 1 := by kernel_rfl
theorem Tryd.sz180 : (Tryd.prog.info? 180).map (·.size) = some 1 := by kernel_rfl
theorem Tryd.sz181 : (Tryd.prog.info? 181).map (·.size) = some 1 := by kernel_rfl
theorem Tryd.sz182 : (Tryd.prog.info? 182).map (·.size) = some 11 := by kernel_rfl
theorem Tryd.sz183 : (Tryd.prog.info? 183).map (·.size) = some 11 := by kernel_rfl
theorem Tryd.wd : Tryd.prog.follows .mixedOrders = true := by kernel_rfl
theorem Tryd.zero2 : (Tryd.prog.info? 2).bind (·.zero) = some (.int .i64 0) := by kernel_rfl
theorem Tryd.zero3 : (Tryd.prog.info? 3).bind (·.zero) = some (.int .i64 0) := by kernel_rfl
theorem Tryd.zero4 : (Tryd.prog.info? 4).bind (·.zero) = some (.bool false) := by kernel_rfl
theorem Tryd.zero5 : (Tryd.prog.info? 5).bind (·.zero) = some (.int .u8 0) := by kernel_rfl
theorem Tryd.zero6 : (Tryd.prog.info? 6).bind (·.zero) = some (.int .u8 0) := by kernel_rfl
theorem Tryd.zero7 : (Tryd.prog.info? 7).bind (·.zero) = some (.agg #[.int .i64 0, .int .i64 0, .bool false, .int .u8 0]) := by kernel_rfl
theorem Tryd.zero8 : (Tryd.prog.info? 8).bind (·.zero) = some (.agg #[.int .i64 0, .int .i64 0, .bool false, .int .u8 0]) := by kernel_rfl
theorem Tryd.zero9 : (Tryd.prog.info? 9).bind (·.zero) = some (.string ⟨#[]⟩) := by kernel_rfl
theorem Tryd.zero10 : (Tryd.prog.info? 10).bind (·.zero) = some (.string ⟨#[]⟩) := by kernel_rfl
theorem Tryd.zero11 : (Tryd.prog.info? 11).bind (·.zero) = some (.string ⟨#[]⟩) := by kernel_rfl
theorem Tryd.zero12 : (Tryd.prog.info? 12).bind (·.zero) = some (.int .u64 0) := by kernel_rfl
theorem Tryd.zero13 : (Tryd.prog.info? 13).bind (·.zero) = some (.agg #[.string ⟨#[]⟩, .int .u64 0]) := by kernel_rfl
theorem Tryd.zero14 : (Tryd.prog.info? 14).bind (·.zero) = some (.agg #[.string ⟨#[]⟩, .int .u64 0]) := by kernel_rfl
theorem Tryd.zero15 : (Tryd.prog.info? 15).bind (·.zero) = some (.pointer none) := by kernel_rfl
theorem Tryd.zero16 : (Tryd.prog.info? 16).bind (·.zero) = some (.pointer none) := by kernel_rfl
theorem Tryd.zero17 : (Tryd.prog.info? 17).bind (·.zero) = some (.pointer none) := by kernel_rfl
theorem Tryd.zero18 : (Tryd.prog.info? 18).bind (·.zero) = some (.agg #[.pointer none]) := by kernel_rfl
theorem Tryd.zero19 : (Tryd.prog.info? 19).bind (·.zero) = some (.agg #[.pointer none]) := by kernel_rfl
theorem Tryd.zero21 : (Tryd.prog.info? 21).bind (·.zero) = some (.int .i32 0) := by kernel_rfl
theorem Tryd.zero22 : (Tryd.prog.info? 22).bind (·.zero) = some (.slice none 0 0) := by kernel_rfl
theorem Tryd.zero23 : (Tryd.prog.info? 23).bind (·.zero) = some (.slice none 0 0) := by kernel_rfl
theorem Tryd.zero24 : (Tryd.prog.info? 24).bind (·.zero) = some (.slice none 0 0) := by kernel_rfl
theorem Tryd.zero28 : (Tryd.prog.info? 28).bind (·.zero) = some (.pointer none) := by kernel_rfl
theorem Tryd.zero29 : (Tryd.prog.info? 29).bind (·.zero) = some (.int .i64 0) := by kernel_rfl
theorem Tryd.zero32 : (Tryd.prog.info? 32).bind (·.zero) = some (.pointer none) := by kernel_rfl
theorem Tryd.zero34 : (Tryd.prog.info? 34).bind (·.zero) = some (.agg #[.string ⟨#[]⟩, .slice none 0 0]) := by kernel_rfl
theorem Tryd.zero35 : (Tryd.prog.info? 35).bind (·.zero) = some (.agg #[.string ⟨#[]⟩, .slice none 0 0]) := by kernel_rfl
theorem Tryd.zero37 : (Tryd.prog.info? 37).bind (·.zero) = some (.agg #[.int .i64 0, .string ⟨#[]⟩, .slice none 0 0]) := by kernel_rfl
theorem Tryd.zero38 : (Tryd.prog.info? 38).bind (·.zero) = some (.agg #[.int .i64 0, .string ⟨#[]⟩, .slice none 0 0]) := by kernel_rfl
theorem Tryd.zero39 : (Tryd.prog.info? 39).bind (·.zero) = some (.slice none 0 0) := by kernel_rfl
theorem Tryd.zero40 : (Tryd.prog.info? 40).bind (·.zero) = some (.agg #[.int .i64 0, .int .i64 0, .slice none 0 0]) := by kernel_rfl
theorem Tryd.zero41 : (Tryd.prog.info? 41).bind (·.zero) = some (.agg #[.int .i64 0, .int .i64 0, .slice none 0 0]) := by kernel_rfl
theorem Tryd.zero42 : (Tryd.prog.info? 42).bind (·.zero) = some (.agg #[.int .i64 0, .int .i64 0, .int .i64 0, .int .i64 0]) := by kernel_rfl
theorem Tryd.zero43 : (Tryd.prog.info? 43).bind (·.zero) = some (.agg #[.int .i64 0, .int .i64 0, .int .i64 0, .int .i64 0]) := by kernel_rfl
theorem Tryd.zero49 : (Tryd.prog.info? 49).bind (·.zero) = some (.slice none 0 0) := by kernel_rfl
theorem Tryd.zero52 : (Tryd.prog.info? 52).bind (·.zero) = some (.slice none 0 0) := by kernel_rfl
theorem Tryd.zero66 : (Tryd.prog.info? 66).bind (·.zero) = some (.slice none 0 0) := by kernel_rfl
theorem Tryd.zero68 : (Tryd.prog.info? 68).bind (·.zero) = some (.agg #[.int .i64 0, .int .i64 0, .int .i64 0, .int .i64 0, .int .i64 0, .bool false]) := by kernel_rfl
theorem Tryd.zero69 : (Tryd.prog.info? 69).bind (·.zero) = some (.agg #[.int .i64 0, .int .i64 0, .int .i64 0, .int .i64 0, .int .i64 0, .bool false]) := by kernel_rfl
theorem Tryd.zero71 : (Tryd.prog.info? 71).bind (·.zero) = some (.agg #[.int .i64 0, .int .i64 0, .int .i64 0, .slice none 0 0]) := by kernel_rfl
theorem Tryd.zero72 : (Tryd.prog.info? 72).bind (·.zero) = some (.agg #[.int .i64 0, .int .i64 0, .int .i64 0, .slice none 0 0]) := by kernel_rfl
theorem Tryd.zero74 : (Tryd.prog.info? 74).bind (·.zero) = some (.slice none 0 0) := by kernel_rfl
theorem Tryd.zero77 : (Tryd.prog.info? 77).bind (·.zero) = some (.slice none 0 0) := by kernel_rfl
theorem Tryd.zero78 : (Tryd.prog.info? 78).bind (·.zero) = some (.agg #[.slice none 0 0, .slice none 0 0]) := by kernel_rfl
theorem Tryd.zero79 : (Tryd.prog.info? 79).bind (·.zero) = some (.agg #[.slice none 0 0, .slice none 0 0]) := by kernel_rfl
theorem Tryd.zero82 : (Tryd.prog.info? 82).bind (·.zero) = some (.slice none 0 0) := by kernel_rfl
theorem Tryd.zero83 : (Tryd.prog.info? 83).bind (·.zero) = some (.slice none 0 0) := by kernel_rfl
theorem Tryd.zero84 : (Tryd.prog.info? 84).bind (·.zero) = some (.agg #[.slice none 0 0, .slice none 0 0, .slice none 0 0, .int .i64 0, .slice none 0 0, .slice none 0 0]) := by kernel_rfl
theorem Tryd.zero85 : (Tryd.prog.info? 85).bind (·.zero) = some (.agg #[.slice none 0 0, .slice none 0 0, .slice none 0 0, .int .i64 0, .slice none 0 0, .slice none 0 0]) := by kernel_rfl
theorem Tryd.zero98 : (Tryd.prog.info? 98).bind (·.zero) = some (.agg #[.slice none 0 0]) := by kernel_rfl
theorem Tryd.zero99 : (Tryd.prog.info? 99).bind (·.zero) = some (.agg #[.slice none 0 0]) := by kernel_rfl
theorem Tryd.zero100 : (Tryd.prog.info? 100).bind (·.zero) = some (.agg #[.slice none 0 0, .slice none 0 0]) := by kernel_rfl
theorem Tryd.zero101 : (Tryd.prog.info? 101).bind (·.zero) = some (.agg #[.slice none 0 0, .slice none 0 0]) := by kernel_rfl
theorem Tryd.zero102 : (Tryd.prog.info? 102).bind (·.zero) = some (.slice none 0 0) := by kernel_rfl
theorem Tryd.zero103 : (Tryd.prog.info? 103).bind (·.zero) = some (.map none) := by kernel_rfl
theorem Tryd.zero104 : (Tryd.prog.info? 104).bind (·.zero) = some (.agg #[.slice none 0 0, .map none]) := by kernel_rfl
theorem Tryd.zero105 : (Tryd.prog.info? 105).bind (·.zero) = some (.agg #[.slice none 0 0, .map none]) := by kernel_rfl
theorem Tryd.zero106 : (Tryd.prog.info? 106).bind (·.zero) = some (.pointer none) := by kernel_rfl
theorem Tryd.zero107 : (Tryd.prog.info? 107).bind (·.zero) = some (.agg #[.pointer none]) := by kernel_rfl
theorem Tryd.zero108 : (Tryd.prog.info? 108).bind (·.zero) = some (.agg #[.pointer none]) := by kernel_rfl
theorem Tryd.zero109 : (Tryd.prog.info? 109).bind (·.zero) = some (.map none) := by kernel_rfl
theorem Tryd.zero110 : (Tryd.prog.info? 110).bind (·.zero) = some (.agg #[.slice none 0 0]) := by kernel_rfl
theorem Tryd.zero111 : (Tryd.prog.info? 111).bind (·.zero) = some (.agg #[.slice none 0 0]) := by kernel_rfl
theorem Tryd.zero112 : (Tryd.prog.info? 112).bind (·.zero) = some (.agg #[.pointer none, .slice none 0 0, .int .i64 0, .map none]) := by kernel_rfl
theorem Tryd.zero113 : (Tryd.prog.info? 113).bind (·.zero) = some (.agg #[.pointer none, .slice none 0 0, .int .i64 0, .map none]) := by kernel_rfl
theorem Tryd.zero114 : (Tryd.prog.info? 114).bind (·.zero) = some (.pointer none) := by kernel_rfl
theorem Tryd.zero132 : (Tryd.prog.info? 132).bind (·.zero) = some (.slice none 0 0) := by kernel_rfl
theorem Tryd.zero134 : (Tryd.prog.info? 134).bind (·.zero) = some (.map none) := by kernel_rfl
theorem Tryd.zero140 : (Tryd.prog.info? 140).bind (·.zero) = some (.pointer none) := by kernel_rfl
theorem Tryd.zero161 : (Tryd.prog.info? 161).bind (·.zero) = some (.int .u64 0) := by kernel_rfl
theorem Tryd.zero162 : (Tryd.prog.info? 162).bind (·.zero) = some (.agg #[.int .u8 0, .int .u8 0]) := by kernel_rfl
theorem Tryd.zero163 : (Tryd.prog.info? 163).bind (·.zero) = some (.agg #[.int .u8 0, .int .u8 0]) := by kernel_rfl
theorem Tryd.zero167 : (Tryd.prog.info? 167).bind (·.zero) = some (.int .u32 0) := by kernel_rfl
theorem Tryd.zero171 : (Tryd.prog.info? 171).bind (·.zero) = some (.agg #[.pointer none, .pointer none, .pointer none, .string ⟨#[]⟩]) := by kernel_rfl
theorem Tryd.zero172 : (Tryd.prog.info? 172).bind (·.zero) = some (.agg #[.pointer none, .pointer none, .pointer none, .string ⟨#[]⟩]) := by kernel_rfl
theorem Tryd.zero174 : (Tryd.prog.info? 174).bind (·.zero) = some (.agg #[]) := by kernel_rfl
theorem Tryd.zero175 : (Tryd.prog.info? 175).bind (·.zero) = some (.agg #[]) := by kernel_rfl
theorem Tryd.zero176 : (Tryd.prog.info? 176).bind (·.zero) = some (.int .u8 0) := by kernel_rfl
theorem Tryd.zero177 : (Tryd.prog.info? 177).bind (·.zero) = some (.int .u8 0) := by kernel_rfl
theorem Tryd.zero179 : (Tryd.prog.info? 179).bind (·.zero) = some (.pointer none) := by kernel_rfl
theorem Tryd.zero180 : (Tryd.prog.info? 180).bind (·.zero) = some (.int .i32 0) := by kernel_rfl
theorem Tryd.zero181 : (Tryd.prog.info? 181).bind (·.zero) = some (.int .i32 0) := by kernel_rfl
theorem Tryd.zero182 : (Tryd.prog.info? 182).bind (·.zero) = some (.agg #[.int .u64 0, .int .u64 0, .int .u32 0, .int .u8 0, .int .u8 0, .int .u8 0, .int .u8 0, .nilFunc, .pointer none, .int .i32 0, .int .i32 0]) := by kernel_rfl
theorem Tryd.zero183 : (Tryd.prog.info? 183).bind (·.zero) = some (.agg #[.int .u64 0, .int .u64 0, .int .u32 0, .int .u8 0, .int .u8 0, .int .u8 0, .int .u8 0, .nilFunc, .pointer none, .int .i32 0, .int .i32 0]) := by kernel_rfl
end Go.Proofs
