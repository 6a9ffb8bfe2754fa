/-
  Closed facts on the types and functions of the translation.
-/
import Derived.Test.YtafcaigjijajnaaDoorProg
import Derived.Test.YtafcaigjijajnaaDoorGenB
import Derived.Test.YtafcaigjijajnaaDoorGenA
import Derived.KernelRfl
namespace Go.Proofs
open Go
theorem Tryd.by1 : (Tryd.prog.info? 1).map (·.bytes) = some 8 := by kernel_rfl
theorem Tryd.by2 : (Tryd.prog.info? 2).map (·.bytes) = some 8 := by kernel_rfl
theorem Tryd.by3 : (Tryd.prog.info? 3).map (·.bytes) = some 8 := by kernel_rfl
theorem Tryd.by4 : (Tryd.prog.info? 4).map (·.bytes) = some 1 := by kernel_rfl
theorem Tryd.by5 : (Tryd.prog.info? 5).map (·.bytes) = some 1 := by kernel_rfl
theorem Tryd.by6 : (Tryd.prog.info? 6).map (·.bytes) = some 1 := by kernel_rfl
theorem Tryd.by7 : (Tryd.prog.info? 7).map (·.bytes) = some 24 := by kernel_rfl
theorem Tryd.by8 : (Tryd.prog.info? 8).map (·.bytes) = some 24 := by kernel_rfl
theorem Tryd.by9 : (Tryd.prog.info? 9).map (·.bytes) = some 16 := by kernel_rfl
theorem Tryd.by10 : (Tryd.prog.info? 10).map (·.bytes) = some 16 := by kernel_rfl
theorem Tryd.by11 : (Tryd.prog.info? 11).map (·.bytes) = some 16 := by kernel_rfl
theorem Tryd.by12 : (Tryd.prog.info? 12).map (·.bytes) = some 8 := by kernel_rfl
theorem Tryd.by13 : (Tryd.prog.info? 13).map (·.bytes) = some 24 := by kernel_rfl
theorem Tryd.by14 : (Tryd.prog.info? 14).map (·.bytes) = some 24 := by kernel_rfl
theorem Tryd.by15 : (Tryd.prog.info? 15).map (·.bytes) = some 8 := by kernel_rfl
theorem Tryd.by16 : (Tryd.prog.info? 16).map (·.bytes) = some 8 := by kernel_rfl
theorem Tryd.by17 : (Tryd.prog.info? 17).map (·.bytes) = some 8 := by kernel_rfl
theorem Tryd.by18 : (Tryd.prog.info? 18).map (·.bytes) = some 8 := by kernel_rfl
theorem Tryd.by19 : (Tryd.prog.info? 19).map (·.bytes) = some 8 := by kernel_rfl
theorem Tryd.by20 : (Tryd.prog.info? 20).map (·.bytes) = some 16 := by kernel_rfl
theorem Tryd.by21 : (Tryd.prog.info? 21).map (·.bytes) = some 4 := by kernel_rfl
theorem Tryd.by22 : (Tryd.prog.info? 22).map (·.bytes) = some 8 := by kernel_rfl
theorem Tryd.by23 : (Tryd.prog.info? 23).map (·.bytes) = some 24 := by kernel_rfl
theorem Tryd.by24 : (Tryd.prog.info? 24).map (·.bytes) = some 8 := by kernel_rfl
theorem Tryd.by26 : (Tryd.prog.info? 26).map (·.bytes) = some 8 := by kernel_rfl
theorem Tryd.by28 : (Tryd.prog.info? 28).map (·.bytes) = some 8 := by kernel_rfl
theorem Tryd.by30 : (Tryd.prog.info? 30).map (·.bytes) = some 8 := by kernel_rfl
theorem Tryd.by31 : (Tryd.prog.info? 31).map (·.bytes) = some 8 := by kernel_rfl
theorem Tryd.by32 : (Tryd.prog.info? 32).map (·.bytes) = some 8 := by kernel_rfl
theorem Tryd.by33 : (Tryd.prog.info? 33).map (·.bytes) = some 8 := by kernel_rfl
theorem Tryd.by34 : (Tryd.prog.info? 34).map (·.bytes) = some 56 := by kernel_rfl
theorem Tryd.by35 : (Tryd.prog.info? 35).map (·.bytes) = some 56 := by kernel_rfl
theorem Tryd.by36 : (Tryd.prog.info? 36).map (·.bytes) = some 8 := by kernel_rfl
theorem Tryd.by38 : (Tryd.prog.info? 38).map (·.bytes) = some 8 := by kernel_rfl
theorem Tryd.by40 : (Tryd.prog.info? 40).map (·.bytes) = some 8 := by kernel_rfl
theorem Tryd.by41 : (Tryd.prog.info? 41).map (·.bytes) = some 8 := by kernel_rfl
theorem Tryd.by42 : (Tryd.prog.info? 42).map (·.bytes) = some 8 := by kernel_rfl
theorem Tryd.by43 : (Tryd.prog.info? 43).map (·.bytes) = some 8 := by kernel_rfl
theorem Tryd.by44 : (Tryd.prog.info? 44).map (·.bytes) = some 8 := by kernel_rfl
theorem Tryd.by45 : (Tryd.prog.info? 45).map (·.bytes) = some 24 := by kernel_rfl
theorem Tryd.by46 : (Tryd.prog.info? 46).map (·.bytes) = some 8 := by kernel_rfl
theorem Tryd.by47 : (Tryd.prog.info? 47).map (·.bytes) = some 8 := by kernel_rfl
theorem Tryd.by48 : (Tryd.prog.info? 48).map (·.bytes) = some 8 := by kernel_rfl
theorem Tryd.by49 : (Tryd.prog.info? 49).map (·.bytes) = some 24 := by kernel_rfl
theorem Tryd.by50 : (Tryd.prog.info? 50).map (·.bytes) = some 8 := by kernel_rfl
theorem Tryd.by51 : (Tryd.prog.info? 51).map (·.bytes) = some 8 := by kernel_rfl
theorem Tryd.by52 : (Tryd.prog.info? 52).map (·.bytes) = some 8 := by kernel_rfl
theorem Tryd.by53 : (Tryd.prog.info? 53).map (·.bytes) = some 8 := by kernel_rfl
theorem Tryd.by55 : (Tryd.prog.info? 55).map (·.bytes) = some 8 := by kernel_rfl
theorem Tryd.by56 : (Tryd.prog.info? 56).map (·.bytes) = some 8 := by kernel_rfl
theorem Tryd.by57 : (Tryd.prog.info? 57).map (·.bytes) = some 8 := by kernel_rfl
theorem Tryd.by58 : (Tryd.prog.info? 58).map (·.bytes) = some 8 := by kernel_rfl
theorem Tryd.by59 : (Tryd.prog.info? 59).map (·.bytes) = some 16 := by kernel_rfl
theorem Tryd.by60 : (Tryd.prog.info? 60).map (·.bytes) = some 16 := by kernel_rfl
theorem Tryd.by62 : (Tryd.prog.info? 62).map (·.bytes) = some 8 := by kernel_rfl
theorem Tryd.by63 : (Tryd.prog.info? 63).map (·.bytes) = some 8 := by kernel_rfl
theorem Tryd.by64 : (Tryd.prog.info? 64).map (·.bytes) = some 8 := by kernel_rfl
theorem Tryd.by65 : (Tryd.prog.info? 65).map (·.bytes) = some 32 := by kernel_rfl
theorem Tryd.by66 : (Tryd.prog.info? 66).map (·.bytes) = some 32 := by kernel_rfl
theorem Tryd.by67 : (Tryd.prog.info? 67).map (·.bytes) = some 8 := by kernel_rfl
theorem Tryd.by69 : (Tryd.prog.info? 69).map (·.bytes) = some 8 := by kernel_rfl
theorem Tryd.by70 : (Tryd.prog.info? 70).map (·.bytes) = some 8 := by kernel_rfl
theorem Tryd.by71 : (Tryd.prog.info? 71).map (·.bytes) = some 8 := by kernel_rfl
theorem Tryd.by72 : (Tryd.prog.info? 72).map (·.bytes) = some 8 := by kernel_rfl
theorem Tryd.by73 : (Tryd.prog.info? 73).map (·.bytes) = some 8 := by kernel_rfl
theorem Tryd.by74 : (Tryd.prog.info? 74).map (·.bytes) = some 8 := by kernel_rfl
theorem Tryd.by75 : (Tryd.prog.info? 75).map (·.bytes) = some 8 := by kernel_rfl
theorem Tryd.by76 : (Tryd.prog.info? 76).map (·.bytes) = some 8 := by kernel_rfl
theorem Tryd.by77 : (Tryd.prog.info? 77).map (·.bytes) = some 8 := by kernel_rfl
theorem Tryd.by78 : (Tryd.prog.info? 78).map (·.bytes) = some 8 := by kernel_rfl
theorem Tryd.by79 : (Tryd.prog.info? 79).map (·.bytes) = some 16 := by kernel_rfl
theorem Tryd.by80 : (Tryd.prog.info? 80).map (·.bytes) = some 16 := by kernel_rfl
theorem Tryd.by82 : (Tryd.prog.info? 82).map (·.bytes) = some 8 := by kernel_rfl
theorem Tryd.by83 : (Tryd.prog.info? 83).map (·.bytes) = some 8 := by kernel_rfl
theorem Tryd.by84 : (Tryd.prog.info? 84).map (·.bytes) = some 24 := by kernel_rfl
theorem Tryd.by85 : (Tryd.prog.info? 85).map (·.bytes) = some 8 := by kernel_rfl
theorem Tryd.by86 : (Tryd.prog.info? 86).map (·.bytes) = some 8 := by kernel_rfl
theorem Tryd.by87 : (Tryd.prog.info? 87).map (·.bytes) = some 8 := by kernel_rfl
theorem Tryd.by88 : (Tryd.prog.info? 88).map (·.bytes) = some 8 := by kernel_rfl
theorem Tryd.by89 : (Tryd.prog.info? 89).map (·.bytes) = some 8 := by kernel_rfl
theorem Tryd.by90 : (Tryd.prog.info? 90).map (·.bytes) = some 24 := by kernel_rfl
theorem Tryd.by91 : (Tryd.prog.info? 91).map (·.bytes) = some 8 := by kernel_rfl
theorem Tryd.by92 : (Tryd.prog.info? 92).map (·.bytes) = some 8 := by kernel_rfl
theorem Tryd.by94 : (Tryd.prog.info? 94).map (·.bytes) = some 8 := by kernel_rfl
theorem Tryd.by95 : (Tryd.prog.info? 95).map (·.bytes) = some 8 := by kernel_rfl
theorem Tryd.by96 : (Tryd.prog.info? 96).map (·.bytes) = some 8 := by kernel_rfl
theorem Tryd.by97 : (Tryd.prog.info? 97).map (·.bytes) = some 8 := by kernel_rfl
theorem Tryd.by98 : (Tryd.prog.info? 98).map (·.bytes) = some 8 := by kernel_rfl
theorem Tryd.by99 : (Tryd.prog.info? 99).map (·.bytes) = some 8 := by kernel_rfl
theorem Tryd.by100 : (Tryd.prog.info? 100).map (·.bytes) = some 8 := by kernel_rfl
theorem Tryd.by102 : (Tryd.prog.info? 102).map (·.bytes) = some 8 := by kernel_rfl
theorem Tryd.by103 : (Tryd.prog.info? 103).map (·.bytes) = some 8 := by kernel_rfl
theorem Tryd.by104 : (Tryd.prog.info? 104).map (·.bytes) = some 8 := by kernel_rfl
theorem Tryd.by105 : (Tryd.prog.info? 105).map (·.bytes) = some 48 := by kernel_rfl
theorem Tryd.by106 : (Tryd.prog.info? 106).map (·.bytes) = some 48 := by kernel_rfl
theorem Tryd.by107 : (Tryd.prog.info? 107).map (·.bytes) = some 8 := by kernel_rfl
theorem Tryd.by108 : (Tryd.prog.info? 108).map (·.bytes) = some 8 := by kernel_rfl
theorem Tryd.by109 : (Tryd.prog.info? 109).map (·.bytes) = some 8 := by kernel_rfl
theorem Tryd.by111 : (Tryd.prog.info? 111).map (·.bytes) = some 2 := by kernel_rfl
theorem Tryd.by112 : (Tryd.prog.info? 112).map (·.bytes) = some 2 := by kernel_rfl
theorem Tryd.by114 : (Tryd.prog.info? 114).map (·.bytes) = some 8 := by kernel_rfl
theorem Tryd.by115 : (Tryd.prog.info? 115).map (·.bytes) = some 16 := by kernel_rfl
theorem Tryd.by116 : (Tryd.prog.info? 116).map (·.bytes) = some 16 := by kernel_rfl
theorem Tryd.by117 : (Tryd.prog.info? 117).map (·.bytes) = some 4 := by kernel_rfl
theorem Tryd.by119 : (Tryd.prog.info? 119).map (·.bytes) = some 8 := by kernel_rfl
theorem Tryd.by120 : (Tryd.prog.info? 120).map (·.bytes) = some 8 := by kernel_rfl
theorem Tryd.by122 : (Tryd.prog.info? 122).map (·.bytes) = some 8 := by kernel_rfl
theorem Tryd.by123 : (Tryd.prog.info? 123).map (·.bytes) = some 8 := by kernel_rfl
theorem Tryd.by125 : (Tryd.prog.info? 125).map (·.bytes) = some 8 := by kernel_rfl
theorem Tryd.by126 : (Tryd.prog.info? 126).map (·.bytes) = some 8 := by kernel_rfl
theorem Tryd.by129 : (Tryd.prog.info? 129).map (·.bytes) = some 8 := by kernel_rfl
theorem Tryd.by130 : (Tryd.prog.info? 130).map (·.bytes) = some 8 := by kernel_rfl
theorem Tryd.by131 : (Tryd.prog.info? 131).map (·.bytes) = some 8 := by kernel_rfl
theorem Tryd.by134 : (Tryd.prog.info? 134).map (·.bytes) = some 40 := by kernel_rfl
theorem Tryd.by135 : (Tryd.prog.info? 135).map (·.bytes) = some 40 := by kernel_rfl
theorem Tryd.by139 : (Tryd.prog.info? 139).map (·.bytes) = some 8 := by kernel_rfl
theorem Tryd.by140 : (Tryd.prog.info? 140).map (·.bytes) = some 1 := by kernel_rfl
theorem Tryd.by141 : (Tryd.prog.info? 141).map (·.bytes) = some 1 := by kernel_rfl
theorem Tryd.by142 : (Tryd.prog.info? 142).map (·.bytes) = some 8 := by kernel_rfl
theorem Tryd.by143 : (Tryd.prog.info? 143).map (·.bytes) = some 4 := by kernel_rfl
theorem Tryd.by144 : (Tryd.prog.info? 144).map (·.bytes) = some 4 := by kernel_rfl
theorem Tryd.by145 : (Tryd.prog.info? 145).map (·.bytes) = some 48 := by kernel_rfl
theorem Tryd.by146 : (Tryd.prog.info? 146).map (·.bytes) = some 48 := by kernel_rfl
theorem Tryd.eqs7 : Go.Eng.eqsOf Tryd.prog 7 = some [.int .i64, .int .i64, .bool, .int .u8] := by kernel_rfl
theorem Tryd.eqs8 : Go.Eng.eqsOf Tryd.prog 8 = some [.int .i64, .int .i64, .bool, .int .u8] := by kernel_rfl
theorem Tryd.eqs34 : Go.Eng.eqsOf Tryd.prog 34 = some [.int .i64, .str, .str, .str] := by kernel_rfl
theorem Tryd.eqs35 : Go.Eng.eqsOf Tryd.prog 35 = some [.int .i64, .str, .str, .str] := by kernel_rfl
theorem Tryd.eqs79 : Go.Eng.eqsOf Tryd.prog 79 = some [.int .i64, .int .i64] := by kernel_rfl
theorem Tryd.eqs80 : Go.Eng.eqsOf Tryd.prog 80 = some [.int .i64, .int .i64] := by kernel_rfl
theorem Tryd.eqs111 : Go.Eng.eqsOf Tryd.prog 111 = some [.int .u8, .int .u8] := by kernel_rfl
theorem Tryd.eqs112 : Go.Eng.eqsOf Tryd.prog 112 = some [.int .u8, .int .u8] := by kernel_rfl
theorem Tryd.eqs115 : Go.Eng.eqsOf Tryd.prog 115 = some [.str] := by kernel_rfl
theorem Tryd.eqs116 : Go.Eng.eqsOf Tryd.prog 116 = some [.str] := by kernel_rfl
theorem Tryd.fld7_0 : Go.Eng.fieldOf Tryd.prog 7 0 = some (0, 1, 2) := by kernel_rfl
theorem Tryd.fld7_1 : Go.Eng.fieldOf Tryd.prog 7 1 = some (1, 1, 3) := by kernel_rfl
theorem Tryd.fld7_2 : Go.Eng.fieldOf Tryd.prog 7 2 = some (2, 1, 4) := by kernel_rfl
theorem Tryd.fld7_3 : Go.Eng.fieldOf Tryd.prog 7 3 = some (3, 1, 6) := by kernel_rfl
theorem Tryd.fld8_0 : Go.Eng.fieldOf Tryd.prog 8 0 = some (0, 1, 2) := by kernel_rfl
theorem Tryd.fld8_1 : Go.Eng.fieldOf Tryd.prog 8 1 = some (1, 1, 3) := by kernel_rfl
theorem Tryd.fld8_2 : Go.Eng.fieldOf Tryd.prog 8 2 = some (2, 1, 4) := by kernel_rfl
theorem Tryd.fld8_3 : Go.Eng.fieldOf Tryd.prog 8 3 = some (3, 1, 6) := by kernel_rfl
theorem Tryd.fld13_0 : Go.Eng.fieldOf Tryd.prog 13 0 = some (0, 1, 9) := by kernel_rfl
theorem Tryd.fld13_1 : Go.Eng.fieldOf Tryd.prog 13 1 = some (1, 1, 12) := by kernel_rfl
theorem Tryd.fld14_0 : Go.Eng.fieldOf Tryd.prog 14 0 = some (0, 1, 9) := by kernel_rfl
theorem Tryd.fld14_1 : Go.Eng.fieldOf Tryd.prog 14 1 = some (1, 1, 12) := by kernel_rfl
theorem Tryd.fld18_0 : Go.Eng.fieldOf Tryd.prog 18 0 = some (0, 1, 17) := by kernel_rfl
theorem Tryd.fld19_0 : Go.Eng.fieldOf Tryd.prog 19 0 = some (0, 1, 17) := by kernel_rfl
theorem Tryd.fld34_0 : Go.Eng.fieldOf Tryd.prog 34 0 = some (0, 1, 3) := by kernel_rfl
theorem Tryd.fld34_1 : Go.Eng.fieldOf Tryd.prog 34 1 = some (1, 1, 9) := by kernel_rfl
theorem Tryd.fld34_2 : Go.Eng.fieldOf Tryd.prog 34 2 = some (2, 1, 9) := by kernel_rfl
theorem Tryd.fld34_3 : Go.Eng.fieldOf Tryd.prog 34 3 = some (3, 1, 9) := by kernel_rfl
theorem Tryd.fld35_0 : Go.Eng.fieldOf Tryd.prog 35 0 = some (0, 1, 3) := by kernel_rfl
theorem Tryd.fld35_1 : Go.Eng.fieldOf Tryd.prog 35 1 = some (1, 1, 9) := by kernel_rfl
theorem Tryd.fld35_2 : Go.Eng.fieldOf Tryd.prog 35 2 = some (2, 1, 9) := by kernel_rfl
theorem Tryd.fld35_3 : Go.Eng.fieldOf Tryd.prog 35 3 = some (3, 1, 9) := by kernel_rfl
theorem Tryd.fld65_0 : Go.Eng.fieldOf Tryd.prog 65 0 = some (0, 1, 64) := by kernel_rfl
theorem Tryd.fld65_1 : Go.Eng.fieldOf Tryd.prog 65 1 = some (1, 1, 45) := by kernel_rfl
theorem Tryd.fld66_0 : Go.Eng.fieldOf Tryd.prog 66 0 = some (0, 1, 64) := by kernel_rfl
theorem Tryd.fld66_1 : Go.Eng.fieldOf Tryd.prog 66 1 = some (1, 1, 45) := by kernel_rfl
theorem Tryd.fld79_0 : Go.Eng.fieldOf Tryd.prog 79 0 = some (0, 1, 3) := by kernel_rfl
theorem Tryd.fld79_1 : Go.Eng.fieldOf Tryd.prog 79 1 = some (1, 1, 3) := by kernel_rfl
theorem Tryd.fld80_0 : Go.Eng.fieldOf Tryd.prog 80 0 = some (0, 1, 3) := by kernel_rfl
theorem Tryd.fld80_1 : Go.Eng.fieldOf Tryd.prog 80 1 = some (1, 1, 3) := by kernel_rfl
theorem Tryd.fld105_0 : Go.Eng.fieldOf Tryd.prog 105 0 = some (0, 1, 9) := by kernel_rfl
theorem Tryd.fld105_1 : Go.Eng.fieldOf Tryd.prog 105 1 = some (1, 1, 9) := by kernel_rfl
theorem Tryd.fld105_2 : Go.Eng.fieldOf Tryd.prog 105 2 = some (2, 1, 60) := by kernel_rfl
theorem Tryd.fld106_0 : Go.Eng.fieldOf Tryd.prog 106 0 = some (0, 1, 9) := by kernel_rfl
theorem Tryd.fld106_1 : Go.Eng.fieldOf Tryd.prog 106 1 = some (1, 1, 9) := by kernel_rfl
theorem Tryd.fld106_2 : Go.Eng.fieldOf Tryd.prog 106 2 = some (2, 1, 60) := by kernel_rfl
theorem Tryd.fld111_0 : Go.Eng.fieldOf Tryd.prog 111 0 = some (0, 1, 5) := by kernel_rfl
theorem Tryd.fld111_1 : Go.Eng.fieldOf Tryd.prog 111 1 = some (1, 1, 5) := by kernel_rfl
theorem Tryd.fld112_0 : Go.Eng.fieldOf Tryd.prog 112 0 = some (0, 1, 5) := by kernel_rfl
theorem Tryd.fld112_1 : Go.Eng.fieldOf Tryd.prog 112 1 = some (1, 1, 5) := by kernel_rfl
theorem Tryd.fld115_0 : Go.Eng.fieldOf Tryd.prog 115 0 = some (0, 1, 9) := by kernel_rfl
theorem Tryd.fld116_0 : Go.Eng.fieldOf Tryd.prog 116 0 = some (0, 1, 9) := by kernel_rfl
theorem Tryd.fld134_0 : Go.Eng.fieldOf Tryd.prog 134 0 = some (0, 1, 17) := by kernel_rfl
theorem Tryd.fld134_1 : Go.Eng.fieldOf Tryd.prog 134 1 = some (1, 1, 17) := by kernel_rfl
theorem Tryd.fld134_2 : Go.Eng.fieldOf Tryd.prog 134 2 = some (2, 1, 17) := by kernel_rfl
theorem Tryd.fld134_3 : Go.Eng.fieldOf Tryd.prog 134 3 = some (3, 1, 9) := by kernel_rfl
theorem Tryd.fld135_0 : Go.Eng.fieldOf Tryd.prog 135 0 = some (0, 1, 17) := by kernel_rfl
theorem Tryd.fld135_1 : Go.Eng.fieldOf Tryd.prog 135 1 = some (1, 1, 17) := by kernel_rfl
theorem Tryd.fld135_2 : Go.Eng.fieldOf Tryd.prog 135 2 = some (2, 1, 17) := by kernel_rfl
theorem Tryd.fld135_3 : Go.Eng.fieldOf Tryd.prog 135 3 = some (3, 1, 9) := by kernel_rfl
theorem Tryd.fld145_0 : Go.Eng.fieldOf Tryd.prog 145 0 = some (0, 1, 12) := by kernel_rfl
theorem Tryd.fld145_1 : Go.Eng.fieldOf Tryd.prog 145 1 = some (1, 1, 12) := by kernel_rfl
theorem Tryd.fld145_2 : Go.Eng.fieldOf Tryd.prog 145 2 = some (2, 1, 117) := by kernel_rfl
theorem Tryd.fld145_3 : Go.Eng.fieldOf Tryd.prog 145 3 = some (3, 1, 140) := by kernel_rfl
theorem Tryd.fld145_4 : Go.Eng.fieldOf Tryd.prog 145 4 = some (4, 1, 5) := by kernel_rfl
theorem Tryd.fld145_5 : Go.Eng.fieldOf Tryd.prog 145 5 = some (5, 1, 5) := by kernel_rfl
theorem Tryd.fld145_6 : Go.Eng.fieldOf Tryd.prog 145 6 = some (6, 1, 141) := by kernel_rfl
theorem Tryd.fld145_7 : Go.Eng.fieldOf Tryd.prog 145 7 = some (7, 1, 142) := by kernel_rfl
theorem Tryd.fld145_8 : Go.Eng.fieldOf Tryd.prog 145 8 = some (8, 1, 88) := by kernel_rfl
theorem Tryd.fld145_9 : Go.Eng.fieldOf Tryd.prog 145 9 = some (9, 1, 143) := by kernel_rfl
theorem Tryd.fld145_10 : Go.Eng.fieldOf Tryd.prog 145 10 = some (10, 1, 144) := by kernel_rfl
theorem Tryd.fld146_0 : Go.Eng.fieldOf Tryd.prog 146 0 = some (0, 1, 12) := by kernel_rfl
theorem Tryd.fld146_1 : Go.Eng.fieldOf Tryd.prog 146 1 = some (1, 1, 12) := by kernel_rfl
theorem Tryd.fld146_2 : Go.Eng.fieldOf Tryd.prog 146 2 = some (2, 1, 117) := by kernel_rfl
theorem Tryd.fld146_3 : Go.Eng.fieldOf Tryd.prog 146 3 = some (3, 1, 140) := by kernel_rfl
theorem Tryd.fld146_4 : Go.Eng.fieldOf Tryd.prog 146 4 = some (4, 1, 5) := by kernel_rfl
theorem Tryd.fld146_5 : Go.Eng.fieldOf Tryd.prog 146 5 = some (5, 1, 5) := by kernel_rfl
theorem Tryd.fld146_6 : Go.Eng.fieldOf Tryd.prog 146 6 = some (6, 1, 141) := by kernel_rfl
theorem Tryd.fld146_7 : Go.Eng.fieldOf Tryd.prog 146 7 = some (7, 1, 142) := by kernel_rfl
theorem Tryd.fld146_8 : Go.Eng.fieldOf Tryd.prog 146 8 = some (8, 1, 88) := by kernel_rfl
theorem Tryd.fld146_9 : Go.Eng.fieldOf Tryd.prog 146 9 = some (9, 1, 143) := by kernel_rfl
theorem Tryd.fld146_10 : Go.Eng.fieldOf Tryd.prog 146 10 = some (10, 1, 144) := by kernel_rfl
theorem Tryd.lay7 : Go.Eng.layOf Tryd.prog 7 = some ([.int .i64 0, .int .i64 0, .bool false, .int .u8 0], [0, 1, 2, 3]) := by kernel_rfl
theorem Tryd.lay8 : Go.Eng.layOf Tryd.prog 8 = some ([.int .i64 0, .int .i64 0, .bool false, .int .u8 0], [0, 1, 2, 3]) := by kernel_rfl
theorem Tryd.lay13 : Go.Eng.layOf Tryd.prog 13 = some ([.string ⟨#[]⟩, .int .u64 0], [0, 1]) := by kernel_rfl
theorem Tryd.lay14 : Go.Eng.layOf Tryd.prog 14 = some ([.string ⟨#[]⟩, .int .u64 0], [0, 1]) := by kernel_rfl
theorem Tryd.lay18 : Go.Eng.layOf Tryd.prog 18 = some ([.pointer none], [0]) := by kernel_rfl
theorem Tryd.lay19 : Go.Eng.layOf Tryd.prog 19 = some ([.pointer none], [0]) := by kernel_rfl
theorem Tryd.lay34 : Go.Eng.layOf Tryd.prog 34 = some ([.int .i64 0, .string ⟨#[]⟩, .string ⟨#[]⟩, .string ⟨#[]⟩], [0, 1, 2, 3]) := by kernel_rfl
theorem Tryd.lay35 : Go.Eng.layOf Tryd.prog 35 = some ([.int .i64 0, .string ⟨#[]⟩, .string ⟨#[]⟩, .string ⟨#[]⟩], [0, 1, 2, 3]) := by kernel_rfl
theorem Tryd.lay65 : Go.Eng.layOf Tryd.prog 65 = some ([.pointer none, .slice none 0 0], [0, 1]) := by kernel_rfl
theorem Tryd.lay66 : Go.Eng.layOf Tryd.prog 66 = some ([.pointer none, .slice none 0 0], [0, 1]) := by kernel_rfl
theorem Tryd.lay79 : Go.Eng.layOf Tryd.prog 79 = some ([.int .i64 0, .int .i64 0], [0, 1]) := by kernel_rfl
theorem Tryd.lay80 : Go.Eng.layOf Tryd.prog 80 = some ([.int .i64 0, .int .i64 0], [0, 1]) := by kernel_rfl
theorem Tryd.lay105 : Go.Eng.layOf Tryd.prog 105 = some ([.string ⟨#[]⟩, .string ⟨#[]⟩, .nilIface], [0, 1, 2]) := by kernel_rfl
theorem Tryd.lay106 : Go.Eng.layOf Tryd.prog 106 = some ([.string ⟨#[]⟩, .string ⟨#[]⟩, .nilIface], [0, 1, 2]) := by kernel_rfl
theorem Tryd.lay111 : Go.Eng.layOf Tryd.prog 111 = some ([.int .u8 0, .int .u8 0], [0, 1]) := by kernel_rfl
theorem Tryd.lay112 : Go.Eng.layOf Tryd.prog 112 = some ([.int .u8 0, .int .u8 0], [0, 1]) := by kernel_rfl
theorem Tryd.lay115 : Go.Eng.layOf Tryd.prog 115 = some ([.string ⟨#[]⟩], [0]) := by kernel_rfl
theorem Tryd.lay116 : Go.Eng.layOf Tryd.prog 116 = some ([.string ⟨#[]⟩], [0]) := by kernel_rfl
theorem Tryd.lay134 : Go.Eng.layOf Tryd.prog 134 = some ([.pointer none, .pointer none, .pointer none, .string ⟨#[]⟩], [0, 1, 2, 3]) := by kernel_rfl
theorem Tryd.lay135 : Go.Eng.layOf Tryd.prog 135 = some ([.pointer none, .pointer none, .pointer none, .string ⟨#[]⟩], [0, 1, 2, 3]) := by kernel_rfl
theorem Tryd.lay145 : Go.Eng.layOf Tryd.prog 145 = some ([.int .u64 0, .int .u64 0, .int .u32 0, .int .u8 0, .int .u8 0, .int .u8 0, .int .u8 0, .nilFunc, .pointer none, .int .i32 0, .int .i32 0], [0, 1, 2, 3, 4, 5, 6, 7, 8, 9, 10]) := by kernel_rfl
theorem Tryd.lay146 : Go.Eng.layOf Tryd.prog 146 = some ([.int .u64 0, .int .u64 0, .int .u32 0, .int .u8 0, .int .u8 0, .int .u8 0, .int .u8 0, .nilFunc, .pointer none, .int .i32 0, .int .i32 0], [0, 1, 2, 3, 4, 5, 6, 7, 8, 9, 10]) := by kernel_rfl
theorem Tryd.nm0 : (Tryd.f0.name == "runtime.NumGoroutine") = false := by kernel_rfl
theorem Tryd.nm1 : (Tryd.f1.name == "runtime.NumGoroutine") = false := by kernel_rfl
theorem Tryd.nm2 : (Tryd.f2.name == "runtime.NumGoroutine") = false := by kernel_rfl
theorem Tryd.nm3 : (Tryd.f3.name == "runtime.NumGoroutine") = false := by kernel_rfl
theorem Tryd.nm4 : (Tryd.f4.name == "runtime.NumGoroutine") = false := by kernel_rfl
theorem Tryd.nm5 : (Tryd.f5.name == "runtime.NumGoroutine") = false := by kernel_rfl
theorem Tryd.nm6 : (Tryd.f6.name == "runtime.NumGoroutine") = false := by kernel_rfl
theorem Tryd.nm7 : (Tryd.f7.name == "runtime.NumGoroutine") = false := by kernel_rfl
theorem Tryd.nm8 : (Tryd.f8.name == "runtime.NumGoroutine") = false := by kernel_rfl
theorem Tryd.nm9 : (Tryd.f9.name == "runtime.NumGoroutine") = false := by kernel_rfl
theorem Tryd.nm10 : (Tryd.f10.name == "runtime.NumGoroutine") = false := by kernel_rfl
theorem Tryd.nm11 : (Tryd.f11.name == "runtime.NumGoroutine") = false := by kernel_rfl
theorem Tryd.nm12 : (Tryd.f12.name == "runtime.NumGoroutine") = false := by kernel_rfl
theorem Tryd.nm13 : (Tryd.f13.name == "runtime.NumGoroutine") = false := by kernel_rfl
theorem Tryd.nm14 : (Tryd.f14.name == "runtime.NumGoroutine") = false := by kernel_rfl
theorem Tryd.nm15 : (Tryd.f15.name == "runtime.NumGoroutine") = false := by kernel_rfl
theorem Tryd.nm16 : (Tryd.f16.name == "runtime.NumGoroutine") = false := by kernel_rfl
theorem Tryd.nm17 : (Tryd.f17.name == "runtime.NumGoroutine") = false := by kernel_rfl
theorem Tryd.nm18 : (Tryd.f18.name == "runtime.NumGoroutine") = false := by kernel_rfl
theorem Tryd.nm19 : (Tryd.f19.name == "runtime.NumGoroutine") = false := by kernel_rfl
theorem Tryd.nm20 : (Tryd.f20.name == "runtime.NumGoroutine") = false := by kernel_rfl
theorem Tryd.nm21 : (Tryd.f21.name == "runtime.NumGoroutine") = false := by kernel_rfl
theorem Tryd.nm22 : (Tryd.f22.name == "runtime.NumGoroutine") = false := by kernel_rfl
theorem Tryd.nm23 : (Tryd.f23.name == "runtime.NumGoroutine") = false := by kernel_rfl
theorem Tryd.nm24 : (Tryd.f24.name == "runtime.NumGoroutine") = false := by kernel_rfl
theorem Tryd.nm25 : (Tryd.f25.name == "runtime.NumGoroutine") = false := by kernel_rfl
theorem Tryd.nm26 : (Tryd.f26.name == "runtime.NumGoroutine") = false := by kernel_rfl
theorem Tryd.nm27 : (Tryd.f27.name == "runtime.NumGoroutine") = false := by kernel_rfl
theorem Tryd.nm28 : (Tryd.f28.name == "runtime.NumGoroutine") = false := by kernel_rfl
theorem Tryd.nm29 : (Tryd.f29.name == "runtime.NumGoroutine") = false := by kernel_rfl
theorem Tryd.nm30 : (Tryd.f30.name == "runtime.NumGoroutine") = false := by kernel_rfl
theorem Tryd.nm31 : (Tryd.f31.name == "runtime.NumGoroutine") = false := by kernel_rfl
theorem Tryd.nm32 : (Tryd.f32.name == "runtime.NumGoroutine") = false := by kernel_rfl
theorem Tryd.nm33 : (Tryd.f33.name == "runtime.NumGoroutine") = false := by kernel_rfl
theorem Tryd.nm34 : (Tryd.f34.name == "runtime.NumGoroutine") = false := by kernel_rfl
theorem Tryd.nm35 : (Tryd.f35.name == "runtime.NumGoroutine") = false := by kernel_rfl
theorem Tryd.nm36 : (Tryd.f36.name == "runtime.NumGoroutine") = false := by kernel_rfl
theorem Tryd.nm37 : (Tryd.f37.name == "runtime.NumGoroutine") = false := by kernel_rfl
theorem Tryd.nm38 : (Tryd.f38.name == "runtime.NumGoroutine") = false := by kernel_rfl
theorem Tryd.nm39 : (Tryd.f39.name == "runtime.NumGoroutine") = false := by kernel_rfl
theorem Tryd.nm40 : (Tryd.f40.name == "runtime.NumGoroutine") = false := by kernel_rfl
theorem Tryd.nm41 : (Tryd.f41.name == "runtime.NumGoroutine") = false := by kernel_rfl
theorem Tryd.nm42 : (Tryd.f42.name == "runtime.NumGoroutine") = false := by kernel_rfl
theorem Tryd.nm43 : (Tryd.f43.name == "runtime.NumGoroutine") = false := by kernel_rfl
theorem Tryd.nm44 : (Tryd.f44.name == "runtime.NumGoroutine") = false := by kernel_rfl
theorem Tryd.nm45 : (Tryd.f45.name == "runtime.NumGoroutine") = false := by kernel_rfl
theorem Tryd.nm46 : (Tryd.f46.name == "runtime.NumGoroutine") = false := by kernel_rfl
theorem Tryd.nm47 : (Tryd.f47.name == "runtime.NumGoroutine") = false := by kernel_rfl
theorem Tryd.nm48 : (Tryd.f48.name == "runtime.NumGoroutine") = false := by kernel_rfl
theorem Tryd.nm49 : (Tryd.f49.name == "runtime.NumGoroutine") = false := by kernel_rfl
theorem Tryd.nm50 : (Tryd.f50.name == "runtime.NumGoroutine") = false := by kernel_rfl
theorem Tryd.nm51 : (Tryd.f51.name == "runtime.NumGoroutine") = false := by kernel_rfl
theorem Tryd.nm52 : (Tryd.f52.name == "runtime.NumGoroutine") = false := by kernel_rfl
theorem Tryd.nm53 : (Tryd.f53.name == "runtime.NumGoroutine") = false := by kernel_rfl
theorem Tryd.nm54 : (Tryd.f54.name == "runtime.NumGoroutine") = false := by kernel_rfl
theorem Tryd.nm55 : (Tryd.f55.name == "runtime.NumGoroutine") = false := by kernel_rfl
theorem Tryd.nm56 : (Tryd.f56.name == "runtime.NumGoroutine") = false := by kernel_rfl
theorem Tryd.nm57 : (Tryd.f57.name == "runtime.NumGoroutine") = false := by kernel_rfl
theorem Tryd.nm58 : (Tryd.f58.name == "runtime.NumGoroutine") = false := by kernel_rfl
theorem Tryd.nm59 : (Tryd.f59.name == "runtime.NumGoroutine") = false := by kernel_rfl
theorem Tryd.nm60 : (Tryd.f60.name == "runtime.NumGoroutine") = false := by kernel_rfl
theorem Tryd.nm61 : (Tryd.f61.name == "runtime.NumGoroutine") = false := by kernel_rfl
theorem Tryd.nm62 : (Tryd.f62.name == "runtime.NumGoroutine") = false := by kernel_rfl
theorem Tryd.nm63 : (Tryd.f63.name == "runtime.NumGoroutine") = false := by kernel_rfl
theorem Tryd.nm64 : (Tryd.f64.name == "runtime.NumGoroutine") = false := by kernel_rfl
theorem Tryd.nm65 : (Tryd.f65.name == "runtime.NumGoroutine") = false := by kernel_rfl
theorem Tryd.nm66 : (Tryd.f66.name == "runtime.NumGoroutine") = false := by kernel_rfl
theorem Tryd.nm67 : (Tryd.f67.name == "runtime.NumGoroutine") = false := by kernel_rfl
theorem Tryd.nm68 : (Tryd.f68.name == "runtime.NumGoroutine") = false := by kernel_rfl
theorem Tryd.nm69 : (Tryd.f69.name == "runtime.NumGoroutine") = false := by kernel_rfl
theorem Tryd.nm70 : (Tryd.f70.name == "runtime.NumGoroutine") = false := by kernel_rfl
theorem Tryd.nm71 : (Tryd.f71.name == "runtime.NumGoroutine") = false := by kernel_rfl
theorem Tryd.nm72 : (Tryd.f72.name == "runtime.NumGoroutine") = false := by kernel_rfl
theorem Tryd.nm73 : (Tryd.f73.name == "runtime.NumGoroutine") = false := by kernel_rfl
theorem Tryd.nm74 : (Tryd.f74.name == "runtime.NumGoroutine") = false := by kernel_rfl
theorem Tryd.nm75 : (Tryd.f75.name == "runtime.NumGoroutine") = false := by kernel_rfl
theorem Tryd.nm76 : (Tryd.f76.name == "runtime.NumGoroutine") = false := by kernel_rfl
theorem Tryd.nm77 : (Tryd.f77.name == "runtime.NumGoroutine") = false := by kernel_rfl
theorem Tryd.nm78 : (Tryd.f78.name == "runtime.NumGoroutine") = false := by kernel_rfl
theorem Tryd.nm79 : (Tryd.f79.name == "runtime.NumGoroutine") = false := by kernel_rfl
theorem Tryd.nm80 : (Tryd.f80.name == "runtime.NumGoroutine") = false := by kernel_rfl
theorem Tryd.nm81 : (Tryd.f81.name == "runtime.NumGoroutine") = false := by kernel_rfl
theorem Tryd.nm82 : (Tryd.f82.name == "runtime.NumGoroutine") = false := by kernel_rfl
theorem Tryd.nm83 : (Tryd.f83.name == "runtime.NumGoroutine") = false := by kernel_rfl
theorem Tryd.nm84 : (Tryd.f84.name == "runtime.NumGoroutine") = false := by kernel_rfl
theorem Tryd.nm85 : (Tryd.f85.name == "runtime.NumGoroutine") = false := by kernel_rfl
theorem Tryd.nm86 : (Tryd.f86.name == "runtime.NumGoroutine") = false := by kernel_rfl
theorem Tryd.nm87 : (Tryd.f87.name == "runtime.NumGoroutine") = false := by kernel_rfl
theorem Tryd.nm88 : (Tryd.f88.name == "runtime.NumGoroutine") = false := by kernel_rfl
theorem Tryd.nm89 : (Tryd.f89.name == "runtime.NumGoroutine") = false := by kernel_rfl
theorem Tryd.nm90 : (Tryd.f90.name == "runtime.NumGoroutine") = false := by kernel_rfl
theorem Tryd.nm91 : (Tryd.f91.name == "runtime.NumGoroutine") = false := by kernel_rfl
theorem Tryd.nm92 : (Tryd.f92.name == "runtime.NumGoroutine") = false := by kernel_rfl
theorem Tryd.nm93 : (Tryd.f93.name == "runtime.NumGoroutine") = false := by kernel_rfl
theorem Tryd.nm94 : (Tryd.f94.name == "runtime.NumGoroutine") = false := by kernel_rfl
theorem Tryd.nm95 : (Tryd.f95.name == "runtime.NumGoroutine") = false := by kernel_rfl
theorem Tryd.nm96 : (Tryd.f96.name == "runtime.NumGoroutine") = false := by kernel_rfl
theorem Tryd.nm97 : (Tryd.f97.name == "runtime.NumGoroutine") = false := by kernel_rfl
theorem Tryd.nm98 : (Tryd.f98.name == "runtime.NumGoroutine") = false := by kernel_rfl
theorem Tryd.nm99 : (Tryd.f99.name == "runtime.NumGoroutine") = false := by kernel_rfl
theorem Tryd.nm100 : (Tryd.f100.name == "runtime.NumGoroutine") = false := by kernel_rfl
theorem Tryd.nm101 : (Tryd.f101.name == "runtime.NumGoroutine") = false := by kernel_rfl
theorem Tryd.nm102 : (Tryd.f102.name == "runtime.NumGoroutine") = false := by kernel_rfl
theorem Tryd.nm103 : (Tryd.f103.name == "runtime.NumGoroutine") = false := by kernel_rfl
theorem Tryd.nm104 : (Tryd.f104.name == "runtime.NumGoroutine") = false := by kernel_rfl
theorem Tryd.nm105 : (Tryd.f105.name == "runtime.NumGoroutine") = false := by kernel_rfl
theorem Tryd.nm106 : (Tryd.f106.name == "runtime.NumGoroutine") = false := by kernel_rfl
theorem Tryd.nm107 : (Tryd.f107.name == "runtime.NumGoroutine") = false := by kernel_rfl
theorem Tryd.nm108 : (Tryd.f108.name == "runtime.NumGoroutine") = false := by kernel_rfl
theorem Tryd.nm109 : (Tryd.f109.name == "runtime.NumGoroutine") = false := by kernel_rfl
theorem Tryd.nm110 : (Tryd.f110.name == "runtime.NumGoroutine") = false := by kernel_rfl
theorem Tryd.nm111 : (Tryd.f111.name == "runtime.NumGoroutine") = false := by kernel_rfl
theorem Tryd.nm112 : (Tryd.f112.name == "runtime.NumGoroutine") = false := by kernel_rfl
theorem Tryd.nm113 : (Tryd.f113.name == "runtime.NumGoroutine") = false := by kernel_rfl
theorem Tryd.nm114 : (Tryd.f114.name == "runtime.NumGoroutine") = false := by kernel_rfl
theorem Tryd.nm115 : (Tryd.f115.name == "runtime.NumGoroutine") = false := by kernel_rfl
theorem Tryd.nm116 : (Tryd.f116.name == "runtime.NumGoroutine") = false := by kernel_rfl
theorem Tryd.nm117 : (Tryd.f117.name == "runtime.NumGoroutine") = false := by kernel_rfl
theorem Tryd.nm118 : (Tryd.f118.name == "runtime.NumGoroutine") = false := by kernel_rfl
theorem Tryd.nm119 : (Tryd.f119.name == "runtime.NumGoroutine") = false := by kernel_rfl
theorem Tryd.nm120 : (Tryd.f120.name == "runtime.NumGoroutine") = false := by kernel_rfl
theorem Tryd.nm121 : (Tryd.f121.name == "runtime.NumGoroutine") = false := by kernel_rfl
theorem Tryd.nm122 : (Tryd.f122.name == "runtime.NumGoroutine") = false := by kernel_rfl
theorem Tryd.nm123 : (Tryd.f123.name == "runtime.NumGoroutine") = false := by kernel_rfl
theorem Tryd.nm124 : (Tryd.f124.name == "runtime.NumGoroutine") = false := by kernel_rfl
theorem Tryd.nm125 : (Tryd.f125.name == "runtime.NumGoroutine") = false := by kernel_rfl
theorem Tryd.nm126 : (Tryd.f126.name == "runtime.NumGoroutine") = false := by kernel_rfl
theorem Tryd.nm127 : (Tryd.f127.name == "runtime.NumGoroutine") = false := by kernel_rfl
theorem Tryd.nm128 : (Tryd.f128.name == "runtime.NumGoroutine") = false := by kernel_rfl
theorem Tryd.nm129 : (Tryd.f129.name == "runtime.NumGoroutine") = false := by kernel_rfl
theorem Tryd.nm130 : (Tryd.f130.name == "runtime.NumGoroutine") = false := by kernel_rfl
theorem Tryd.nm131 : (Tryd.f131.name == "runtime.NumGoroutine") = false := by kernel_rfl
theorem Tryd.nm132 : (Tryd.f132.name == "runtime.NumGoroutine") = false := by kernel_rfl
theorem Tryd.nm133 : (Tryd.f133.name == "runtime.NumGoroutine") = false := by kernel_rfl
theorem Tryd.sz1 : (Tryd.prog.info? 1).map (·.size) = some 1 := by kernel_rfl
theorem Tryd.sz2 : (Tryd.prog.info? 2).map (·.size) = some 1 := by kernel_rfl
theorem Tryd.sz3 : (Tryd.prog.info? 3).map (·.size) = some 1 := by kernel_rfl
theorem Tryd.sz4 : (Tryd.prog.info? 4).map (·.size) = some 1 := by kernel_rfl
theorem Tryd.sz5 : (Tryd.prog.info? 5).map (·.size) = some 1 := by kernel_rfl
theorem Tryd.sz6 : (Tryd.prog.info? 6).map (·.size) = some 1 := by kernel_rfl
theorem Tryd.sz7 : (Tryd.prog.info? 7).map (·.size) = some 4 := by kernel_rfl
theorem Tryd.sz8 : (Tryd.prog.info? 8).map (·.size) = some 4 := by kernel_rfl
theorem Tryd.sz9 : (Tryd.prog.info? 9).map (·.size) = some 1 := by kernel_rfl
theorem Tryd.sz10 : (Tryd.prog.info? 10).map (·.size) = some 1 := by kernel_rfl
theorem Tryd.sz11 : (Tryd.prog.info? 11).map (·.size) = some 1 := by kernel_rfl
theorem Tryd.sz12 : (Tryd.prog.info? 12).map (·.size) = some 1 := by kernel_rfl
theorem Tryd.sz13 : (Tryd.prog.info? 13).map (·.size) = some 2 := by kernel_rfl
theorem Tryd.sz14 : (Tryd.prog.info? 14).map (·.size) = some 2 := by kernel_rfl
theorem Tryd.sz15 : (Tryd.prog.info? 15).map (·.size) = some 1 := by kernel_rfl
theorem Tryd.sz16 : (Tryd.prog.info? 16).map (·.size) = some 1 := by kernel_rfl
theorem Tryd.sz17 : (Tryd.prog.info? 17).map (·.size) = some 1 := by kernel_rfl
theorem Tryd.sz18 : (Tryd.prog.info? 18).map (·.size) = some 1 := by kernel_rfl
theorem Tryd.sz19 : (Tryd.prog.info? 19).map (·.size) = some 1 := by kernel_rfl
theorem Tryd.sz20 : (Tryd.prog.info? 20).map (·.size) = some 1 := by kernel_rfl
theorem Tryd.sz21 : (Tryd.prog.info? 21).map (·.size) = some 1 := by kernel_rfl
theorem Tryd.sz22 : (Tryd.prog.info? 22).map (·.size) = some 1 := by kernel_rfl
theorem Tryd.sz23 : (Tryd.prog.info? 23).map (·.size) = some 1 := by kernel_rfl
theorem Tryd.sz24 : (Tryd.prog.info? 24).map (·.size) = some 1 := by kernel_rfl
theorem Tryd.sz26 : (Tryd.prog.info? 26).map (·.size) = some 1 := by kernel_rfl
theorem Tryd.sz28 : (Tryd.prog.info? 28).map (·.size) = some 1 := by kernel_rfl
theorem Tryd.sz30 : (Tryd.prog.info? 30).map (·.size) = some 1 := by kernel_rfl
theorem Tryd.sz31 : (Tryd.prog.info? 31).map (·.size) = some 1 := by kernel_rfl
theorem Tryd.sz32 : (Tryd.prog.info? 32).map (·.size) = some 1 := by kernel_rfl
theorem Tryd.sz33 : (Tryd.prog.info? 33).map (·.size) = some 1 := by kernel_rfl
theorem Tryd.sz34 : (Tryd.prog.info? 34).map (·.size) = some 4 := by kernel_rfl
theorem Tryd.sz35 : (Tryd.prog.info? 35).map (·.size) = some 4 := by kernel_rfl
theorem Tryd.sz36 : (Tryd.prog.info? 36).map (·.size) = some 1 := by kernel_rfl
theorem Tryd.sz38 : (Tryd.prog.info? 38).map (·.size) = some 1 := by kernel_rfl
theorem Tryd.sz40 : (Tryd.prog.info? 40).map (·.size) = some 1 := by kernel_rfl
theorem Tryd.sz41 : (Tryd.prog.info? 41).map (·.size) = some 1 := by kernel_rfl
theorem Tryd.sz42 : (Tryd.prog.info? 42).map (·.size) = some 1 := by kernel_rfl
theorem Tryd.sz43 : (Tryd.prog.info? 43).map (·.size) = some 1 := by kernel_rfl
theorem Tryd.sz44 : (Tryd.prog.info? 44).map (·.size) = some 1 := by kernel_rfl
theorem Tryd.sz45 : (Tryd.prog.info? 45).map (·.size) = some 1 := by kernel_rfl
theorem Tryd.sz46 : (Tryd.prog.info? 46).map (·.size) = some 1 := by kernel_rfl
theorem Tryd.sz47 : (Tryd.prog.info? 47).map (·.size) = some 1 := by kernel_rfl
theorem Tryd.sz48 : (Tryd.prog.info? 48).map (·.size) = some 1 := by kernel_rfl
theorem Tryd.sz49 : (Tryd.prog.info? 49).map (·.size) = some 1 := by kernel_rfl
theorem Tryd.sz50 : (Tryd.prog.info? 50).map (·.size) = some 1 := by kernel_rfl
theorem Tryd.sz51 : (Tryd.prog.info? 51).map (·.size) = some 1 := by kernel_rfl
theorem Tryd.sz52 : (Tryd.prog.info? 52).map (·.size) = some 1 := by kernel_rfl
theorem Tryd.sz53 : (Tryd.prog.info? 53).map (·.size) = some 1 := by kernel_rfl
theorem Tryd.sz55 : (Tryd.prog.info? 55).map (·.size) = some 1 := by kernel_rfl
theorem Tryd.sz56 : (Tryd.prog.info? 56).map (·.size) = some 1 := by kernel_rfl
theorem Tryd.sz57 : (Tryd.prog.info? 57).map (·.size) = some 1 := by kernel_rfl
theorem Tryd.sz58 : (Tryd.prog.info? 58).map (·.size) = some 1 := by kernel_rfl
theorem Tryd.sz59 : (Tryd.prog.info? 59).map (·.size) = some 1 := by kernel_rfl
theorem Tryd.sz60 : (Tryd.prog.info? 60).map (·.size) = some 1 := by kernel_rfl
theorem Tryd.sz62 : (Tryd.prog.info? 62).map (·.size) = some 1 := by kernel_rfl
theorem Tryd.sz63 : (Tryd.prog.info? 63).map (·.size) = some 1 := by kernel_rfl
theorem Tryd.sz64 : (Tryd.prog.info? 64).map (·.size) = some 1 := by kernel_rfl
theorem Tryd.sz65 : (Tryd.prog.info? 65).map (·.size) = some 2 := by kernel_rfl
theorem Tryd.sz66 : (Tryd.prog.info? 66).map (·.size) = some 2 := by kernel_rfl
theorem Tryd.sz67 : (Tryd.prog.info? 67).map (·.size) = some 1 := by kernel_rfl
theorem Tryd.sz69 : (Tryd.prog.info? 69).map (·.size) = some 1 := by kernel_rfl
theorem Tryd.sz70 : (Tryd.prog.info? 70).map (·.size) = some 1 := by kernel_rfl
theorem Tryd.sz71 : (Tryd.prog.info? 71).map (·.size) = some 1 := by kernel_rfl
theorem Tryd.sz72 : (Tryd.prog.info? 72).map (·.size) = some 1 := by kernel_rfl
theorem Tryd.sz73 : (Tryd.prog.info? 73).map (·.size) = some 1 := by kernel_rfl
theorem Tryd.sz74 : (Tryd.prog.info? 74).map (·.size) = some 1 := by kernel_rfl
theorem Tryd.sz75 : (Tryd.prog.info? 75).map (·.size) = some 1 := by kernel_rfl
theorem Tryd.sz76 : (Tryd.prog.info? 76).map (·.size) = some 1 := by kernel_rfl
theorem Tryd.sz77 : (Tryd.prog.info? 77).map (·.size) = some 1 := by kernel_rfl
theorem Tryd.sz78 : (Tryd.prog.info? 78).map (·.size) = some 1 := by kernel_rfl
theorem Tryd.sz79 : (Tryd.prog.info? 79).map (·.size) = some 2 := by kernel_rfl
theorem Tryd.sz80 : (Tryd.prog.info? 80).map (·.size) = some 2 := by kernel_rfl
theorem Tryd.sz82 : (Tryd.prog.info? 82).map (·.size) = some 1 := by kernel_rfl
theorem Tryd.sz83 : (Tryd.prog.info? 83).map (·.size) = some 1 := by kernel_rfl
theorem Tryd.sz84 : (Tryd.prog.info? 84).map (·.size) = some 1 := by kernel_rfl
theorem Tryd.sz85 : (Tryd.prog.info? 85).map (·.size) = some 1 := by kernel_rfl
theorem Tryd.sz86 : (Tryd.prog.info? 86).map (·.size) = some 1 := by kernel_rfl
theorem Tryd.sz87 : (Tryd.prog.info? 87).map (·.size) = some 1 := by kernel_rfl
theorem Tryd.sz88 : (Tryd.prog.info? 88).map (·.size) = some 1 := by kernel_rfl
theorem Tryd.sz89 : (Tryd.prog.info? 89).map (·.size) = some 1 := by kernel_rfl
theorem Tryd.sz90 : (Tryd.prog.info? 90).map (·.size) = some 1 := by kernel_rfl
theorem Tryd.sz91 : (Tryd.prog.info? 91).map (·.size) = some 1 := by kernel_rfl
theorem Tryd.sz92 : (Tryd.prog.info? 92).map (·.size) = some 1 := by kernel_rfl
theorem Tryd.sz94 : (Tryd.prog.info? 94).map (·.size) = some 1 := by kernel_rfl
theorem Tryd.sz95 : (Tryd.prog.info? 95).map (·.size) = some 1 := by kernel_rfl
theorem Tryd.sz96 : (Tryd.prog.info? 96).map (·.size) = some 1 := by kernel_rfl
theorem Tryd.sz97 : (Tryd.prog.info? 97).map (·.size) = some 1 := by kernel_rfl
theorem Tryd.sz98 : (Tryd.prog.info? 98).map (·.size) = some 1 := by kernel_rfl
theorem Tryd.sz99 : (Tryd.prog.info? 99).map (·.size) = some 1 := by kernel_rfl
theorem Tryd.sz100 : (Tryd.prog.info? 100).map (·.size) = some 1 := by kernel_rfl
theorem Tryd.sz102 : (Tryd.prog.info? 102).map (·.size) = some 1 := by kernel_rfl
theorem Tryd.sz103 : (Tryd.prog.info? 103).map (·.size) = some 1 := by kernel_rfl
theorem Tryd.sz104 : (Tryd.prog.info? 104).map (·.size) = some 1 := by kernel_rfl
theorem Tryd.sz105 : (Tryd.prog.info? 105).map (·.size) = some 3 := by kernel_rfl
theorem Tryd.sz106 : (Tryd.prog.info? 106).map (·.size) = some 3 := by kernel_rfl
theorem Tryd.sz107 : (Tryd.prog.info? 107).map (·.size) = some 1 := by kernel_rfl
theorem Tryd.sz108 : (Tryd.prog.info? 108).map (·.size) = some 1 := by kernel_rfl
theorem Tryd.sz109 : (Tryd.prog.info? 109).map (·.size) = some 1 := by kernel_rfl
theorem Tryd.sz111 : (Tryd.prog.info? 111).map (·.size) = some 2 := by kernel_rfl
theorem Tryd.sz112 : (Tryd.prog.info? 112).map (·.size) = some 2 := by kernel_rfl
theorem Tryd.sz114 : (Tryd.prog.info? 114).map (·.size) = some 1 := by kernel_rfl
theorem Tryd.sz115 : (Tryd.prog.info? 115).map (·.size) = some 1 := by kernel_rfl
theorem Tryd.sz116 : (Tryd.prog.info? 116).map (·.size) = some 1 := by kernel_rfl
theorem Tryd.sz117 : (Tryd.prog.info? 117).map (·.size) = some 1 := by kernel_rfl
theorem Tryd.sz119 : (Tryd.prog.info? 119).map (·.size) = some 1 := by kernel_rfl
theorem Tryd.sz120 : (Tryd.prog.info? 120).map (·.size) = some 1 := by kernel_rfl
theorem Tryd.sz122 : (Tryd.prog.info? 122).map (·.size) = some 1 := by kernel_rfl
theorem Tryd.sz123 : (Tryd.prog.info? 123).map (·.size) = some 1 := by kernel_rfl
theorem Tryd.sz125 : (Tryd.prog.info? 125).map (·.size) = some 1 := by kernel_rfl
theorem Tryd.sz126 : (Tryd.prog.info? 126).map (·.size) = some 1 := by kernel_rfl
theorem Tryd.sz129 : (Tryd.prog.info? 129).map (·.size) = some 1 := by kernel_rfl
theorem Tryd.sz130 : (Tryd.prog.info? 130).map (·.size) = some 1 := by kernel_rfl
theorem Tryd.sz131 : (Tryd.prog.info? 131).map (·.size) = some 1 := by kernel_rfl
theorem Tryd.sz134 : (Tryd.prog.info? 134).map (·.size) = some 4 := by kernel_rfl
theorem Tryd.sz135 : (Tryd.prog.info? 135).map (·.size) = some 4 := by kernel_rfl
theorem Tryd.sz139 : (Tryd.prog.info? 139).map (·.size) = some 1 := by kernel_rfl
theorem Tryd.sz140 : (Tryd.prog.info? 140).map (·.size) = some 1 := by kernel_rfl
theorem Tryd.sz141 : (Tryd.prog.info? 141).map (·.size) = some 1 := by kernel_rfl
theorem Tryd.sz142 : (Tryd.prog.info? 142).map (·.size) = some 1 := by kernel_rfl
theorem Tryd.sz143 : (Tryd.prog.info? 143).map (·.size) = some 1 := by kernel_rfl
theorem Tryd.sz144 : (Tryd.prog.info? 144).map (·.size) = some 1 := by kernel_rfl
theorem Tryd.sz145 : (Tryd.prog.info? 145).map (·.size) = some 11 := by kernel_rfl
theorem Tryd.sz146 : (Tryd.prog.info? 146).map (·.size) = some 11 := by kernel_rfl
theorem Tryd.wd : Tryd.prog.follows .mixedOrders = true := by kernel_rfl
theorem Tryd.zero1 : (Tryd.prog.info? 1).bind (·.zero) = some (.nilFunc) := by kernel_rfl
theorem Tryd.zero2 : (Tryd.prog.info? 2).bind (·.zero) = some (.int .i64 0) := by kernel_rfl
theorem Tryd.zero3 : (Tryd.prog.info? 3).bind (·.zero) = some (.int .i64 0) := by kernel_rfl
theorem Tryd.zero4 : (Tryd.prog.info? 4).bind (·.zero) = some (.bool false) := by kernel_rfl
theorem Tryd.zero5 : (Tryd.prog.info? 5).bind (·.zero) = some (.int .u8 0) := by kernel_rfl
theorem Tryd.zero6 : (Tryd.prog.info? 6).bind (·.zero) = some (.int .u8 0) := by kernel_rfl
theorem Tryd.zero7 : (Tryd.prog.info? 7).bind (·.zero) = some (.agg #[.int .i64 0, .int .i64 0, .bool false, .int .u8 0]) := by kernel_rfl
theorem Tryd.zero8 : (Tryd.prog.info? 8).bind (·.zero) = some (.agg #[.int .i64 0, .int .i64 0, .bool false, .int .u8 0]) := by kernel_rfl
theorem Tryd.zero9 : (Tryd.prog.info? 9).bind (·.zero) = some (.string ⟨#[]⟩) := by kernel_rfl
theorem Tryd.zero10 : (Tryd.prog.info? 10).bind (·.zero) = some (.string ⟨#[]⟩) := by kernel_rfl
theorem Tryd.zero11 : (Tryd.prog.info? 11).bind (·.zero) = some (.string ⟨#[]⟩) := by kernel_rfl
theorem Tryd.zero12 : (Tryd.prog.info? 12).bind (·.zero) = some (.int .u64 0) := by kernel_rfl
theorem Tryd.zero13 : (Tryd.prog.info? 13).bind (·.zero) = some (.agg #[.string ⟨#[]⟩, .int .u64 0]) := by kernel_rfl
theorem Tryd.zero14 : (Tryd.prog.info? 14).bind (·.zero) = some (.agg #[.string ⟨#[]⟩, .int .u64 0]) := by kernel_rfl
theorem Tryd.zero15 : (Tryd.prog.info? 15).bind (·.zero) = some (.pointer none) := by kernel_rfl
theorem Tryd.zero16 : (Tryd.prog.info? 16).bind (·.zero) = some (.pointer none) := by kernel_rfl
theorem Tryd.zero17 : (Tryd.prog.info? 17).bind (·.zero) = some (.pointer none) := by kernel_rfl
theorem Tryd.zero18 : (Tryd.prog.info? 18).bind (·.zero) = some (.agg #[.pointer none]) := by kernel_rfl
theorem Tryd.zero19 : (Tryd.prog.info? 19).bind (·.zero) = some (.agg #[.pointer none]) := by kernel_rfl
theorem Tryd.zero20 : (Tryd.prog.info? 20).bind (·.zero) = some (.nilIface) := by kernel_rfl
theorem Tryd.zero21 : (Tryd.prog.info? 21).bind (·.zero) = some (.int .i32 0) := by kernel_rfl
theorem Tryd.zero22 : (Tryd.prog.info? 22).bind (·.zero) = some (.nilFunc) := by kernel_rfl
theorem Tryd.zero23 : (Tryd.prog.info? 23).bind (·.zero) = some (.slice none 0 0) := by kernel_rfl
theorem Tryd.zero24 : (Tryd.prog.info? 24).bind (·.zero) = some (.int .i64 0) := by kernel_rfl
theorem Tryd.zero26 : (Tryd.prog.info? 26).bind (·.zero) = some (.nilFunc) := by kernel_rfl
theorem Tryd.zero28 : (Tryd.prog.info? 28).bind (·.zero) = some (.nilFunc) := by kernel_rfl
theorem Tryd.zero30 : (Tryd.prog.info? 30).bind (·.zero) = some (.nilFunc) := by kernel_rfl
theorem Tryd.zero31 : (Tryd.prog.info? 31).bind (·.zero) = some (.nilFunc) := by kernel_rfl
theorem Tryd.zero32 : (Tryd.prog.info? 32).bind (·.zero) = some (.nilFunc) := by kernel_rfl
theorem Tryd.zero33 : (Tryd.prog.info? 33).bind (·.zero) = some (.nilFunc) := by kernel_rfl
theorem Tryd.zero34 : (Tryd.prog.info? 34).bind (·.zero) = some (.agg #[.int .i64 0, .string ⟨#[]⟩, .string ⟨#[]⟩, .string ⟨#[]⟩]) := by kernel_rfl
theorem Tryd.zero35 : (Tryd.prog.info? 35).bind (·.zero) = some (.agg #[.int .i64 0, .string ⟨#[]⟩, .string ⟨#[]⟩, .string ⟨#[]⟩]) := by kernel_rfl
theorem Tryd.zero36 : (Tryd.prog.info? 36).bind (·.zero) = some (.nilFunc) := by kernel_rfl
theorem Tryd.zero38 : (Tryd.prog.info? 38).bind (·.zero) = some (.nilFunc) := by kernel_rfl
theorem Tryd.zero40 : (Tryd.prog.info? 40).bind (·.zero) = some (.nilFunc) := by kernel_rfl
theorem Tryd.zero41 : (Tryd.prog.info? 41).bind (·.zero) = some (.nilFunc) := by kernel_rfl
theorem Tryd.zero42 : (Tryd.prog.info? 42).bind (·.zero) = some (.nilFunc) := by kernel_rfl
theorem Tryd.zero43 : (Tryd.prog.info? 43).bind (·.zero) = some (.nilFunc) := by kernel_rfl
theorem Tryd.zero44 : (Tryd.prog.info? 44).bind (·.zero) = some (.nilFunc) := by kernel_rfl
theorem Tryd.zero45 : (Tryd.prog.info? 45).bind (·.zero) = some (.slice none 0 0) := by kernel_rfl
theorem Tryd.zero46 : (Tryd.prog.info? 46).bind (·.zero) = some (.nilFunc) := by kernel_rfl
theorem Tryd.zero47 : (Tryd.prog.info? 47).bind (·.zero) = some (.nilFunc) := by kernel_rfl
theorem Tryd.zero48 : (Tryd.prog.info? 48).bind (·.zero) = some (.nilFunc) := by kernel_rfl
theorem Tryd.zero49 : (Tryd.prog.info? 49).bind (·.zero) = some (.slice none 0 0) := by kernel_rfl
theorem Tryd.zero50 : (Tryd.prog.info? 50).bind (·.zero) = some (.nilFunc) := by kernel_rfl
theorem Tryd.zero51 : (Tryd.prog.info? 51).bind (·.zero) = some (.nilFunc) := by kernel_rfl
theorem Tryd.zero52 : (Tryd.prog.info? 52).bind (·.zero) = some (.nilFunc) := by kernel_rfl
theorem Tryd.zero53 : (Tryd.prog.info? 53).bind (·.zero) = some (.nilFunc) := by kernel_rfl
theorem Tryd.zero55 : (Tryd.prog.info? 55).bind (·.zero) = some (.nilFunc) := by kernel_rfl
theorem Tryd.zero56 : (Tryd.prog.info? 56).bind (·.zero) = some (.nilFunc) := by kernel_rfl
theorem Tryd.zero57 : (Tryd.prog.info? 57).bind (·.zero) = some (.nilFunc) := by kernel_rfl
theorem Tryd.zero58 : (Tryd.prog.info? 58).bind (·.zero) = some (.int .u64 0) := by kernel_rfl
theorem Tryd.zero59 : (Tryd.prog.info? 59).bind (·.zero) = some (.nilIface) := by kernel_rfl
theorem Tryd.zero60 : (Tryd.prog.info? 60).bind (·.zero) = some (.nilIface) := by kernel_rfl
theorem Tryd.zero62 : (Tryd.prog.info? 62).bind (·.zero) = some (.nilFunc) := by kernel_rfl
theorem Tryd.zero63 : (Tryd.prog.info? 63).bind (·.zero) = some (.nilFunc) := by kernel_rfl
theorem Tryd.zero64 : (Tryd.prog.info? 64).bind (·.zero) = some (.pointer none) := by kernel_rfl
theorem Tryd.zero65 : (Tryd.prog.info? 65).bind (·.zero) = some (.agg #[.pointer none, .slice none 0 0]) := by kernel_rfl
theorem Tryd.zero66 : (Tryd.prog.info? 66).bind (·.zero) = some (.agg #[.pointer none, .slice none 0 0]) := by kernel_rfl
theorem Tryd.zero67 : (Tryd.prog.info? 67).bind (·.zero) = some (.nilFunc) := by kernel_rfl
theorem Tryd.zero69 : (Tryd.prog.info? 69).bind (·.zero) = some (.nilFunc) := by kernel_rfl
theorem Tryd.zero70 : (Tryd.prog.info? 70).bind (·.zero) = some (.int .u64 0) := by kernel_rfl
theorem Tryd.zero71 : (Tryd.prog.info? 71).bind (·.zero) = some (.nilFunc) := by kernel_rfl
theorem Tryd.zero72 : (Tryd.prog.info? 72).bind (·.zero) = some (.nilFunc) := by kernel_rfl
theorem Tryd.zero73 : (Tryd.prog.info? 73).bind (·.zero) = some (.nilFunc) := by kernel_rfl
theorem Tryd.zero74 : (Tryd.prog.info? 74).bind (·.zero) = some (.nilFunc) := by kernel_rfl
theorem Tryd.zero75 : (Tryd.prog.info? 75).bind (·.zero) = some (.nilFunc) := by kernel_rfl
theorem Tryd.zero76 : (Tryd.prog.info? 76).bind (·.zero) = some (.nilFunc) := by kernel_rfl
theorem Tryd.zero77 : (Tryd.prog.info? 77).bind (·.zero) = some (.nilFunc) := by kernel_rfl
theorem Tryd.zero78 : (Tryd.prog.info? 78).bind (·.zero) = some (.nilFunc) := by kernel_rfl
theorem Tryd.zero79 : (Tryd.prog.info? 79).bind (·.zero) = some (.agg #[.int .i64 0, .int .i64 0]) := by kernel_rfl
theorem Tryd.zero80 : (Tryd.prog.info? 80).bind (·.zero) = some (.agg #[.int .i64 0, .int .i64 0]) := by kernel_rfl
theorem Tryd.zero82 : (Tryd.prog.info? 82).bind (·.zero) = some (.map none) := by kernel_rfl
theorem Tryd.zero83 : (Tryd.prog.info? 83).bind (·.zero) = some (.nilFunc) := by kernel_rfl
theorem Tryd.zero84 : (Tryd.prog.info? 84).bind (·.zero) = some (.slice none 0 0) := by kernel_rfl
theorem Tryd.zero85 : (Tryd.prog.info? 85).bind (·.zero) = some (.pointer none) := by kernel_rfl
theorem Tryd.zero86 : (Tryd.prog.info? 86).bind (·.zero) = some (.nilFunc) := by kernel_rfl
theorem Tryd.zero87 : (Tryd.prog.info? 87).bind (·.zero) = some (.nilFunc) := by kernel_rfl
theorem Tryd.zero88 : (Tryd.prog.info? 88).bind (·.zero) = some (.pointer none) := by kernel_rfl
theorem Tryd.zero89 : (Tryd.prog.info? 89).bind (·.zero) = some (.nilFunc) := by kernel_rfl
theorem Tryd.zero90 : (Tryd.prog.info? 90).bind (·.zero) = some (.slice none 0 0) := by kernel_rfl
theorem Tryd.zero91 : (Tryd.prog.info? 91).bind (·.zero) = some (.nilFunc) := by kernel_rfl
theorem Tryd.zero92 : (Tryd.prog.info? 92).bind (·.zero) = some (.nilFunc) := by kernel_rfl
theorem Tryd.zero94 : (Tryd.prog.info? 94).bind (·.zero) = some (.nilFunc) := by kernel_rfl
theorem Tryd.zero95 : (Tryd.prog.info? 95).bind (·.zero) = some (.nilFunc) := by kernel_rfl
theorem Tryd.zero96 : (Tryd.prog.info? 96).bind (·.zero) = some (.int .i64 0) := by kernel_rfl
theorem Tryd.zero97 : (Tryd.prog.info? 97).bind (·.zero) = some (.nilFunc) := by kernel_rfl
theorem Tryd.zero98 : (Tryd.prog.info? 98).bind (·.zero) = some (.pointer none) := by kernel_rfl
theorem Tryd.zero99 : (Tryd.prog.info? 99).bind (·.zero) = some (.nilFunc) := by kernel_rfl
theorem Tryd.zero100 : (Tryd.prog.info? 100).bind (·.zero) = some (.nilFunc) := by kernel_rfl
theorem Tryd.zero102 : (Tryd.prog.info? 102).bind (·.zero) = some (.nilFunc) := by kernel_rfl
theorem Tryd.zero103 : (Tryd.prog.info? 103).bind (·.zero) = some (.nilFunc) := by kernel_rfl
theorem Tryd.zero104 : (Tryd.prog.info? 104).bind (·.zero) = some (.nilFunc) := by kernel_rfl
theorem Tryd.zero105 : (Tryd.prog.info? 105).bind (·.zero) = some (.agg #[.string ⟨#[]⟩, .string ⟨#[]⟩, .nilIface]) := by kernel_rfl
theorem Tryd.zero106 : (Tryd.prog.info? 106).bind (·.zero) = some (.agg #[.string ⟨#[]⟩, .string ⟨#[]⟩, .nilIface]) := by kernel_rfl
theorem Tryd.zero107 : (Tryd.prog.info? 107).bind (·.zero) = some (.nilFunc) := by kernel_rfl
theorem Tryd.zero108 : (Tryd.prog.info? 108).bind (·.zero) = some (.nilFunc) := by kernel_rfl
theorem Tryd.zero109 : (Tryd.prog.info? 109).bind (·.zero) = some (.nilFunc) := by kernel_rfl
theorem Tryd.zero111 : (Tryd.prog.info? 111).bind (·.zero) = some (.agg #[.int .u8 0, .int .u8 0]) := by kernel_rfl
theorem Tryd.zero112 : (Tryd.prog.info? 112).bind (·.zero) = some (.agg #[.int .u8 0, .int .u8 0]) := by kernel_rfl
theorem Tryd.zero114 : (Tryd.prog.info? 114).bind (·.zero) = some (.pointer none) := by kernel_rfl
theorem Tryd.zero115 : (Tryd.prog.info? 115).bind (·.zero) = some (.agg #[.string ⟨#[]⟩]) := by kernel_rfl
theorem Tryd.zero116 : (Tryd.prog.info? 116).bind (·.zero) = some (.agg #[.string ⟨#[]⟩]) := by kernel_rfl
theorem Tryd.zero117 : (Tryd.prog.info? 117).bind (·.zero) = some (.int .u32 0) := by kernel_rfl
theorem Tryd.zero119 : (Tryd.prog.info? 119).bind (·.zero) = some (.nilFunc) := by kernel_rfl
theorem Tryd.zero120 : (Tryd.prog.info? 120).bind (·.zero) = some (.nilFunc) := by kernel_rfl
theorem Tryd.zero122 : (Tryd.prog.info? 122).bind (·.zero) = some (.nilFunc) := by kernel_rfl
theorem Tryd.zero123 : (Tryd.prog.info? 123).bind (·.zero) = some (.nilFunc) := by kernel_rfl
theorem Tryd.zero125 : (Tryd.prog.info? 125).bind (·.zero) = some (.nilFunc) := by kernel_rfl
theorem Tryd.zero126 : (Tryd.prog.info? 126).bind (·.zero) = some (.nilFunc) := by kernel_rfl
theorem Tryd.zero129 : (Tryd.prog.info? 129).bind (·.zero) = some (.nilFunc) := by kernel_rfl
theorem Tryd.zero130 : (Tryd.prog.info? 130).bind (·.zero) = some (.nilFunc) := by kernel_rfl
theorem Tryd.zero131 : (Tryd.prog.info? 131).bind (·.zero) = some (.nilFunc) := by kernel_rfl
theorem Tryd.zero134 : (Tryd.prog.info? 134).bind (·.zero) = some (.agg #[.pointer none, .pointer none, .pointer none, .string ⟨#[]⟩]) := by kernel_rfl
theorem Tryd.zero135 : (Tryd.prog.info? 135).bind (·.zero) = some (.agg #[.pointer none, .pointer none, .pointer none, .string ⟨#[]⟩]) := by kernel_rfl
theorem Tryd.zero139 : (Tryd.prog.info? 139).bind (·.zero) = some (.nilFunc) := by kernel_rfl
theorem Tryd.zero140 : (Tryd.prog.info? 140).bind (·.zero) = some (.int .u8 0) := by kernel_rfl
theorem Tryd.zero141 : (Tryd.prog.info? 141).bind (·.zero) = some (.int .u8 0) := by kernel_rfl
theorem Tryd.zero142 : (Tryd.prog.info? 142).bind (·.zero) = some (.nilFunc) := by kernel_rfl
theorem Tryd.zero143 : (Tryd.prog.info? 143).bind (·.zero) = some (.int .i32 0) := by kernel_rfl
theorem Tryd.zero144 : (Tryd.prog.info? 144).bind (·.zero) = some (.int .i32 0) := by kernel_rfl
theorem Tryd.zero145 : (Tryd.prog.info? 145).bind (·.zero) = some (.agg #[.int .u64 0, .int .u64 0, .int .u32 0, .int .u8 0, .int .u8 0, .int .u8 0, .int .u8 0, .nilFunc, .pointer none, .int .i32 0, .int .i32 0]) := by kernel_rfl
theorem Tryd.zero146 : (Tryd.prog.info? 146).bind (·.zero) = some (.agg #[.int .u64 0, .int .u64 0, .int .u32 0, .int .u8 0, .int .u8 0, .int .u8 0, .int .u8 0, .nilFunc, .pointer none, .int .i32 0, .int .i32 0]) := by kernel_rfl
end Go.Proofs
