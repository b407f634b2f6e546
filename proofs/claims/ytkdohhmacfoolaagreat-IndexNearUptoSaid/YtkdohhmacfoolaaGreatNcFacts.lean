/- Facts that the statement's proof is made of. No condition. -/
import Derived.Test.YtkdohhmacfoolaaGreatRows
import Derived.Test.YtkdohhmacfoolaaGreatNcAmB
set_option linter.unusedSimpArgs false
set_option linter.unusedVariables false
namespace Go.Proofs.YtkdohhmacfoolaaGreat
open Go Go.AM
theorem sz0 : aU Tryz.prog 0 = some 1 := by kernel_rfl
theorem sz1 : aU Tryz.prog 1 = some 1 := by kernel_rfl
theorem tb1 : Tryz.t1.bytes = 8 := rfl
theorem sz2 : aU Tryz.prog 2 = some 1 := by kernel_rfl
theorem sz3 : aU Tryz.prog 3 = some 1 := by kernel_rfl
theorem in3 : Tryz.prog.info? 3 = some Tryz.t3 := by kernel_rfl
theorem ts3 : Tryz.t3.size = 1 := rfl
theorem tb3 : Tryz.t3.bytes = 8 := rfl
theorem tz3 : Tryz.t3.zero = some (Value.int IntKind.i64 0) := rfl
theorem zc3 : zeroCells? Tryz.prog 3 = some [.v (Value.int IntKind.i64 0)] := by kernel_rfl
theorem sz4 : aU Tryz.prog 4 = some 1 := by kernel_rfl
theorem in4 : Tryz.prog.info? 4 = some Tryz.t4 := by kernel_rfl
theorem ts4 : Tryz.t4.size = 1 := rfl
theorem tb4 : Tryz.t4.bytes = 1 := rfl
theorem tz4 : Tryz.t4.zero = some (Value.bool false) := rfl
theorem zc4 : zeroCells? Tryz.prog 4 = some [.v (Value.bool false)] := by kernel_rfl
theorem sz5 : aU Tryz.prog 5 = some 1 := by kernel_rfl
theorem sz6 : aU Tryz.prog 6 = some 1 := by kernel_rfl
theorem sz7 : aU Tryz.prog 7 = some 4 := by kernel_rfl
theorem sz8 : aU Tryz.prog 8 = some 4 := by kernel_rfl
theorem sz9 : aU Tryz.prog 9 = some 1 := by kernel_rfl
theorem bPp : aU Tryz.prog 10 = some 1 := by kernel_rfl
theorem bSn : aU Tryz.prog 11 = some 1 := by kernel_rfl
theorem bSv : aU Tryz.prog 12 = some 1 := by kernel_rfl
theorem bQ9 : aU Tryz.prog 13 = some 2 := by kernel_rfl
theorem bS3 : aU Tryz.prog 14 = some 2 := by kernel_rfl
theorem bQy : aU Tryz.prog 15 = some 1 := by kernel_rfl
theorem bQq : aU Tryz.prog 16 = some 1 := by kernel_rfl
theorem bRk : aU Tryz.prog 17 = some 1 := by kernel_rfl
theorem bQu : aU Tryz.prog 18 = some 1 := by kernel_rfl
theorem bRu : aU Tryz.prog 19 = some 1 := by kernel_rfl
theorem bRn : aU Tryz.prog 20 = some 1 := by kernel_rfl
theorem bR1 : aU Tryz.prog 21 = some 1 := by kernel_rfl
theorem bQ8 : aU Tryz.prog 22 = some 3 := by kernel_rfl
theorem bS8 : aU Tryz.prog 23 = some 3 := by kernel_rfl
theorem bPl : zeroCells? Tryz.prog 23 = some [.v (Value.int IntKind.i64 0), .v (Value.int IntKind.i64 0), .v (Value.int IntKind.i64 0)] := by kernel_rfl
theorem bPi : aU Tryz.prog 24 = some 1 := by kernel_rfl
theorem bHm : Tryz.prog.info? 24 = some Tryz.t24 := by kernel_rfl
theorem bRl : Tryz.t24.size = 1 := rfl
theorem bKz : Tryz.t24.bytes = 24 := rfl
theorem bIe : Tryz.t24.zero = some (Value.slice none 0 0) := rfl
theorem bSy : aU Tryz.prog 25 = some 1 := by kernel_rfl
theorem bPh : aU Tryz.prog 26 = some 1 := by kernel_rfl
theorem bR5 : aU Tryz.prog 27 = some 1 := by kernel_rfl
theorem bI1 : aU Tryz.prog 28 = some 1 := by kernel_rfl
theorem bIx : zeroCells? Tryz.prog 28 = some [.v (Value.slice none 0 0)] := by kernel_rfl
theorem bPc : aU Tryz.prog 29 = some 5 := by kernel_rfl
theorem bPg : aU Tryz.prog 30 = some 5 := by kernel_rfl
theorem bQe : zeroCells? Tryz.prog 30 = some [.v (Value.int IntKind.i64 0), .v (Value.int IntKind.i64 0), .v (Value.int IntKind.i64 0), .v (Value.slice none 0 0), .v (Value.slice none 0 0)] := by kernel_rfl
theorem bQk : aU Tryz.prog 31 = some 1 := by kernel_rfl
theorem bSw : aU Tryz.prog 32 = some 6 := by kernel_rfl
theorem bSb : aU Tryz.prog 33 = some 6 := by kernel_rfl
theorem bQw : zeroCells? Tryz.prog 33 = some [.v (Value.int IntKind.i64 0), .v (Value.int IntKind.i64 0), .v (Value.int IntKind.i64 0), .v (Value.slice none 0 0), .v (Value.slice none 0 0), .v (Value.slice none 0 0)] := by kernel_rfl
theorem bSu : aU Tryz.prog 34 = some 2 := by kernel_rfl
theorem bPk : aU Tryz.prog 35 = some 2 := by kernel_rfl
theorem bSr : zeroCells? Tryz.prog 35 = some [.v (Value.slice none 0 0), .v (Value.int IntKind.i64 0)] := by kernel_rfl
theorem bS9 : aU Tryz.prog 36 = some 1 := by kernel_rfl
theorem aTl : Tryz.prog.info? 36 = some Tryz.t36 := by kernel_rfl
theorem bQj : Tryz.t36.size = 1 := rfl
theorem bOv : Tryz.t36.bytes = 8 := rfl
theorem bSd : Tryz.t36.zero = some (Value.int IntKind.i64 0) := rfl
theorem bRj : aU Tryz.prog 37 = some 1 := by kernel_rfl
theorem bQp : aU Tryz.prog 38 = some 1 := by kernel_rfl
theorem bPs : aU Tryz.prog 39 = some 1 := by kernel_rfl
theorem bSk : aU Tryz.prog 40 = some 1 := by kernel_rfl
theorem bQ0 : aU Tryz.prog 41 = some 3 := by kernel_rfl
theorem bSg : aU Tryz.prog 42 = some 3 := by kernel_rfl
theorem bQo : zeroCells? Tryz.prog 42 = some [.v (Value.int IntKind.i64 0), .v (Value.slice none 0 0), .v (Value.slice none 0 0)] := by kernel_rfl
theorem aFa : aU Tryz.prog 43 = some 1 := by kernel_rfl
theorem bId : Tryz.prog.info? 43 = some Tryz.t43 := by kernel_rfl
theorem bI3 : Tryz.t43.size = 1 := rfl
theorem bA3 : Tryz.t43.bytes = 8 := rfl
theorem bIh : Tryz.t43.zero = some (Value.int IntKind.u64 0) := rfl
theorem bC2 : zeroCells? Tryz.prog 43 = some [.v (Value.int IntKind.u64 0)] := by kernel_rfl
theorem bQ3 : aU Tryz.prog 44 = some 4 := by kernel_rfl
theorem bP9 : aU Tryz.prog 45 = some 4 := by kernel_rfl
theorem bQd : zeroCells? Tryz.prog 45 = some [.v (Value.int IntKind.i64 0), .v (Value.int IntKind.u64 0), .v (Value.int IntKind.u64 0), .v (Value.string { data := #[] })] := by kernel_rfl
theorem bQh : aU Tryz.prog 46 = some 1 := by kernel_rfl
theorem bSo : aU Tryz.prog 47 = some 1 := by kernel_rfl
theorem bPf : aU Tryz.prog 48 = some 1 := by kernel_rfl
theorem bQl : aU Tryz.prog 49 = some 1 := by kernel_rfl
theorem bPj : aU Tryz.prog 50 = some 1 := by kernel_rfl
theorem bQm : aU Tryz.prog 51 = some 1 := by kernel_rfl
theorem bPn : aU Tryz.prog 52 = some 1 := by kernel_rfl
theorem bQc : aU Tryz.prog 53 = some 1 := by kernel_rfl
theorem bRd : aU Tryz.prog 54 = some 1 := by kernel_rfl
theorem bQ7 : aU Tryz.prog 55 = some 6 := by kernel_rfl
theorem bPw : aU Tryz.prog 56 = some 6 := by kernel_rfl
theorem bSs : aU Tryz.prog 57 = some 1 := by kernel_rfl
theorem bRp : aU Tryz.prog 58 = some 1 := by kernel_rfl
theorem bPb : aU Tryz.prog 59 = some 1 := by kernel_rfl
theorem bSz : aU Tryz.prog 60 = some 2 := by kernel_rfl
theorem bQ6 : aU Tryz.prog 61 = some 1 := by kernel_rfl
theorem bRy : aU Tryz.prog 62 = some 1 := by kernel_rfl
theorem bS4 : aU Tryz.prog 63 = some 1 := by kernel_rfl
theorem bQs : aU Tryz.prog 64 = some 1 := by kernel_rfl
theorem bPd : aU Tryz.prog 65 = some 1 := by kernel_rfl
theorem bQ5 : aU Tryz.prog 66 = some 1 := by kernel_rfl
theorem bR9 : aU Tryz.prog 67 = some 1 := by kernel_rfl
theorem bQn : aU Tryz.prog 68 = some 1 := by kernel_rfl
theorem aPz : aU Tryz.prog 69 = some 2 := by kernel_rfl
theorem bRh : Tryz.prog.info? 69 = some Tryz.t69 := by kernel_rfl
theorem bS7 : Tryz.t69.size = 2 := rfl
theorem bN5 : Tryz.t69.bytes = 16 := rfl
theorem bR8 : Tryz.t69.zero = some (Value.agg #[Value.int IntKind.u64 0, Value.int IntKind.u64 0]) := rfl
theorem bPz : zeroCells? Tryz.prog 69 = some [.v (Value.int IntKind.u64 0), .v (Value.int IntKind.u64 0)] := by kernel_rfl
theorem bSf : aU Tryz.prog 70 = some 1 := by kernel_rfl
theorem bQt : aU Tryz.prog 71 = some 1 := by kernel_rfl
theorem bQ4 : aU Tryz.prog 72 = some 1 := by kernel_rfl
theorem bPm : aU Tryz.prog 73 = some 1 := by kernel_rfl
theorem bRw : aU Tryz.prog 74 = some 1 := by kernel_rfl
theorem bRr : aU Tryz.prog 75 = some 1 := by kernel_rfl
theorem bQv : aU Tryz.prog 76 = some 1 := by kernel_rfl
theorem bRs : aU Tryz.prog 77 = some 1 := by kernel_rfl
theorem bQf : aU Tryz.prog 78 = some 1 := by kernel_rfl
theorem bRc : aU Tryz.prog 79 = some 1 := by kernel_rfl
theorem bS5 : aU Tryz.prog 80 = some 1 := by kernel_rfl
theorem bRx : aU Tryz.prog 81 = some 1 := by kernel_rfl
theorem bPa : aU Tryz.prog 82 = some 1 := by kernel_rfl
theorem bPx : aU Tryz.prog 83 = some 1 := by kernel_rfl
theorem bRg : aU Tryz.prog 84 = some 1 := by kernel_rfl
theorem bQ2 : aU Tryz.prog 85 = some 1 := by kernel_rfl
theorem bR7 : aU Tryz.prog 86 = some 1 := by kernel_rfl
theorem bPe : aU Tryz.prog 87 = some 1 := by kernel_rfl
theorem bS0 : aU Tryz.prog 88 = some 1 := by kernel_rfl
theorem bQ1 : aU Tryz.prog 89 = some 1 := by kernel_rfl
theorem bS6 : aU Tryz.prog 90 = some 1 := by kernel_rfl
theorem bR6 : aU Tryz.prog 91 = some 1 := by kernel_rfl
theorem bRe : aU Tryz.prog 92 = some 1 := by kernel_rfl
theorem bT2 : aU Tryz.prog 93 = some 1 := by kernel_rfl
theorem bQb : aU Tryz.prog 94 = some 1 := by kernel_rfl
theorem bR4 : aU Tryz.prog 95 = some 1 := by kernel_rfl
theorem bQg : aU Tryz.prog 96 = some 1 := by kernel_rfl
theorem bSt : aU Tryz.prog 97 = some 1 := by kernel_rfl
theorem bQx : aU Tryz.prog 98 = some 1 := by kernel_rfl
theorem bRi : aU Tryz.prog 99 = some 1 := by kernel_rfl
theorem bKa : aU Tryz.prog 100 = some 1 := by kernel_rfl
theorem bJs : aU Tryz.prog 101 = some 3 := by kernel_rfl
theorem aC6 : aU Tryz.prog 102 = some 3 := by kernel_rfl
theorem aWu : Tryz.prog.info? 102 = some Tryz.t102 := by kernel_rfl
theorem aW7 : Tryz.t102.size = 3 := rfl
theorem aI2 : Tryz.t102.bytes = 24 := rfl
theorem aWn : Tryz.t102.zero = some (Value.agg #[Value.int IntKind.i64 0, Value.int IntKind.i64 0, Value.int IntKind.i64 0]) := rfl
theorem aMt : zeroCells? Tryz.prog 102 = some [.v (Value.int IntKind.i64 0), .v (Value.int IntKind.i64 0), .v (Value.int IntKind.i64 0)] := by kernel_rfl
theorem bN7 : aU Tryz.prog 103 = some 2 := by kernel_rfl
theorem bAg : aU Tryz.prog 104 = some 2 := by kernel_rfl
theorem bCt : Tryz.prog.info? 104 = some Tryz.t104 := by kernel_rfl
theorem bC4 : Tryz.t104.size = 2 := rfl
theorem aNl : Tryz.t104.bytes = 16 := rfl
theorem bCf : Tryz.t104.zero = some (Value.agg #[Value.bool false, Value.int IntKind.u64 0]) := rfl
theorem bBd : zeroCells? Tryz.prog 104 = some [.v (Value.bool false), .v (Value.int IntKind.u64 0)] := by kernel_rfl
theorem bKp : aU Tryz.prog 105 = some 1 := by kernel_rfl
theorem bP7 : aU Tryz.prog 106 = some 1 := by kernel_rfl
theorem bN3 : aU Tryz.prog 107 = some 1 := by kernel_rfl
theorem bMa : aU Tryz.prog 108 = some 1 := by kernel_rfl
theorem bNi : aU Tryz.prog 109 = some 1 := by kernel_rfl
theorem bOg : aU Tryz.prog 110 = some 1 := by kernel_rfl
theorem bJt : aU Tryz.prog 111 = some 1 := by kernel_rfl
theorem aHl : aU Tryz.prog 112 = some 1 := by kernel_rfl
theorem bMb : Tryz.prog.info? 112 = some Tryz.t112 := by kernel_rfl
theorem bOa : Tryz.t112.size = 1 := rfl
theorem bOt : Tryz.t112.bytes = 24 := rfl
theorem bJ3 : zeroCells? Tryz.prog 112 = some [.v (Value.slice none 0 0)] := by kernel_rfl
theorem bKb : aU Tryz.prog 113 = some 1 := by kernel_rfl
theorem bMv : aU Tryz.prog 114 = some 1 := by kernel_rfl
theorem bP2 : aU Tryz.prog 115 = some 1 := by kernel_rfl
theorem bMd : aU Tryz.prog 116 = some 1 := by kernel_rfl
theorem bLk : aU Tryz.prog 117 = some 1 := by kernel_rfl
theorem bMx : aU Tryz.prog 118 = some 1 := by kernel_rfl
theorem bJy : aU Tryz.prog 119 = some 2 := by kernel_rfl
theorem bAp : aU Tryz.prog 120 = some 2 := by kernel_rfl
theorem bD5 : Tryz.prog.info? 120 = some Tryz.t120 := by kernel_rfl
theorem bDb : Tryz.t120.size = 2 := rfl
theorem aNr : Tryz.t120.bytes = 16 := rfl
theorem bD8 : Tryz.t120.zero = some (Value.agg #[Value.int IntKind.u64 0, Value.int IntKind.u64 0]) := rfl
theorem bCb : zeroCells? Tryz.prog 120 = some [.v (Value.int IntKind.u64 0), .v (Value.int IntKind.u64 0)] := by kernel_rfl
theorem bNr : aU Tryz.prog 121 = some 1 := by kernel_rfl
theorem bM5 : aU Tryz.prog 122 = some 1 := by kernel_rfl
theorem bMp : aU Tryz.prog 123 = some 1 := by kernel_rfl
theorem bJk : aU Tryz.prog 124 = some 1 := by kernel_rfl
theorem bJq : aU Tryz.prog 125 = some 1 := by kernel_rfl
theorem bKv : aU Tryz.prog 126 = some 1 := by kernel_rfl
theorem bO0 : aU Tryz.prog 127 = some 1 := by kernel_rfl
theorem bOh : aU Tryz.prog 128 = some 1 := by kernel_rfl
theorem bKg : aU Tryz.prog 129 = some 1 := by kernel_rfl
theorem bKu : aU Tryz.prog 130 = some 1 := by kernel_rfl
theorem bH4 : zeroCells? Tryz.prog 130 = some [.v (Value.pointer none)] := by kernel_rfl
theorem bJe : aU Tryz.prog 131 = some 1 := by kernel_rfl
theorem bL9 : aU Tryz.prog 132 = some 1 := by kernel_rfl
theorem bJo : aU Tryz.prog 133 = some 1 := by kernel_rfl
theorem bMh : aU Tryz.prog 134 = some 1 := by kernel_rfl
theorem bKk : aU Tryz.prog 135 = some 1 := by kernel_rfl
theorem bKi : aU Tryz.prog 136 = some 1 := by kernel_rfl
theorem bNb : aU Tryz.prog 137 = some 1 := by kernel_rfl
theorem bJx : aU Tryz.prog 138 = some 1 := by kernel_rfl
theorem bKr : aU Tryz.prog 139 = some 1 := by kernel_rfl
theorem bNc : aU Tryz.prog 140 = some 1 := by kernel_rfl
theorem bM3 : aU Tryz.prog 141 = some 1 := by kernel_rfl
theorem bNj : aU Tryz.prog 142 = some 1 := by kernel_rfl
theorem bLa : aU Tryz.prog 143 = some 1 := by kernel_rfl
theorem bJh : aU Tryz.prog 144 = some 1 := by kernel_rfl
theorem bNz : aU Tryz.prog 145 = some 1 := by kernel_rfl
theorem bKt : aU Tryz.prog 146 = some 1 := by kernel_rfl
theorem bNf : aU Tryz.prog 147 = some 1 := by kernel_rfl
theorem bNu : aU Tryz.prog 148 = some 1 := by kernel_rfl
theorem bNp : aU Tryz.prog 149 = some 1 := by kernel_rfl
theorem bNn : aU Tryz.prog 150 = some 1 := by kernel_rfl
theorem bJj : aU Tryz.prog 151 = some 2 := by kernel_rfl
theorem bLu : aU Tryz.prog 152 = some 1 := by kernel_rfl
theorem bKm : aU Tryz.prog 153 = some 1 := by kernel_rfl
theorem bLp : aU Tryz.prog 154 = some 1 := by kernel_rfl
theorem bK7 : aU Tryz.prog 155 = some 1 := by kernel_rfl
theorem bNs : aU Tryz.prog 156 = some 1 := by kernel_rfl
theorem bL1 : aU Tryz.prog 157 = some 2 := by kernel_rfl
theorem aW2 : aU Tryz.prog 158 = some 2 := by kernel_rfl
theorem bNa : zeroCells? Tryz.prog 158 = some [.v (Value.int IntKind.u64 0), .v (Value.int IntKind.i64 0)] := by kernel_rfl
theorem bMk : aU Tryz.prog 159 = some 1 := by kernel_rfl
theorem bOc : aU Tryz.prog 160 = some 1 := by kernel_rfl
theorem bO3 : aU Tryz.prog 161 = some 1 := by kernel_rfl
theorem bL6 : aU Tryz.prog 162 = some 1 := by kernel_rfl
theorem bJ5 : aU Tryz.prog 163 = some 1 := by kernel_rfl
theorem bNe : aU Tryz.prog 164 = some 1 := by kernel_rfl
theorem bNo : aU Tryz.prog 165 = some 1 := by kernel_rfl
theorem bOm : aU Tryz.prog 166 = some 1 := by kernel_rfl
theorem bJl : aU Tryz.prog 167 = some 1 := by kernel_rfl
theorem bL0 : aU Tryz.prog 168 = some 1 := by kernel_rfl
theorem bL8 : aU Tryz.prog 169 = some 1 := by kernel_rfl
theorem bL5 : aU Tryz.prog 170 = some 1 := by kernel_rfl
theorem bLq : aU Tryz.prog 171 = some 1 := by kernel_rfl
theorem bN2 : aU Tryz.prog 172 = some 1 := by kernel_rfl
theorem bOs : aU Tryz.prog 173 = some 1 := by kernel_rfl
theorem bO8 : aU Tryz.prog 174 = some 1 := by kernel_rfl
theorem bJ6 : aU Tryz.prog 175 = some 1 := by kernel_rfl
theorem bN9 : aU Tryz.prog 176 = some 1 := by kernel_rfl
theorem bNv : aU Tryz.prog 177 = some 1 := by kernel_rfl
theorem bLl : aU Tryz.prog 178 = some 1 := by kernel_rfl
theorem bKf : aU Tryz.prog 179 = some 1 := by kernel_rfl
theorem bJ4 : aU Tryz.prog 180 = some 1 := by kernel_rfl
theorem bMo : aU Tryz.prog 181 = some 1 := by kernel_rfl
theorem bO4 : aU Tryz.prog 182 = some 1 := by kernel_rfl
theorem bKh : aU Tryz.prog 183 = some 1 := by kernel_rfl
theorem bMl : aU Tryz.prog 184 = some 1 := by kernel_rfl
theorem bLn : aU Tryz.prog 185 = some 1 := by kernel_rfl
theorem bLi : aU Tryz.prog 186 = some 1 := by kernel_rfl
theorem bJb : aU Tryz.prog 187 = some 1 := by kernel_rfl
theorem bM7 : aU Tryz.prog 188 = some 1 := by kernel_rfl
theorem bJf : aU Tryz.prog 189 = some 1 := by kernel_rfl
theorem bK1 : aU Tryz.prog 190 = some 1 := by kernel_rfl
theorem bOr : aU Tryz.prog 191 = some 6 := by kernel_rfl
theorem bK4 : aU Tryz.prog 192 = some 6 := by kernel_rfl
theorem bLs : zeroCells? Tryz.prog 192 = some [.v (Value.pointer none), .v (Value.pointer none), .v (Value.int IntKind.u64 0), .v (Value.int IntKind.i64 0), .v (Value.int IntKind.i64 0), .v (Value.int IntKind.i64 0)] := by kernel_rfl
theorem bJn : aU Tryz.prog 193 = some 1 := by kernel_rfl
theorem bM6 : aU Tryz.prog 194 = some 1 := by kernel_rfl
theorem bLo : aU Tryz.prog 196 = some 1 := by kernel_rfl
theorem bKd : aU Tryz.prog 197 = some 1 := by kernel_rfl
theorem bOo : aU Tryz.prog 198 = some 1 := by kernel_rfl
theorem bOu : aU Tryz.prog 199 = some 1 := by kernel_rfl
theorem bOi : aU Tryz.prog 200 = some 1 := by kernel_rfl
theorem bOp : aU Tryz.prog 201 = some 1 := by kernel_rfl
theorem bOb : aU Tryz.prog 202 = some 1 := by kernel_rfl
theorem bJz : aU Tryz.prog 203 = some 1 := by kernel_rfl
theorem bP0 : aU Tryz.prog 204 = some 1 := by kernel_rfl
theorem bLr : aU Tryz.prog 205 = some 1 := by kernel_rfl
theorem bNq : aU Tryz.prog 206 = some 1 := by kernel_rfl
theorem bNm : aU Tryz.prog 207 = some 1 := by kernel_rfl
theorem bOe : aU Tryz.prog 208 = some 1 := by kernel_rfl
theorem bOx : aU Tryz.prog 209 = some 1 := by kernel_rfl
theorem bLx : aU Tryz.prog 210 = some 1 := by kernel_rfl
theorem bO2 : aU Tryz.prog 211 = some 1 := by kernel_rfl
theorem bMt : aU Tryz.prog 212 = some 1 := by kernel_rfl
theorem bN4 : aU Tryz.prog 213 = some 1 := by kernel_rfl
theorem bNw : aU Tryz.prog 214 = some 1 := by kernel_rfl
theorem bJu : aU Tryz.prog 215 = some 1 := by kernel_rfl
theorem bLw : aU Tryz.prog 216 = some 1 := by kernel_rfl
theorem bOf : aU Tryz.prog 217 = some 1 := by kernel_rfl
theorem bM0 : aU Tryz.prog 218 = some 1 := by kernel_rfl
theorem bLf : aU Tryz.prog 219 = some 1 := by kernel_rfl
theorem bJ9 : aU Tryz.prog 220 = some 1 := by kernel_rfl
theorem bM8 : aU Tryz.prog 221 = some 1 := by kernel_rfl
theorem bMn : aU Tryz.prog 222 = some 1 := by kernel_rfl
theorem bJa : aU Tryz.prog 223 = some 1 := by kernel_rfl
theorem bP1 : aU Tryz.prog 224 = some 1 := by kernel_rfl
theorem bP6 : aU Tryz.prog 225 = some 1 := by kernel_rfl
theorem bLb : aU Tryz.prog 226 = some 1 := by kernel_rfl
theorem bLg : aU Tryz.prog 227 = some 1 := by kernel_rfl
theorem bJi : aU Tryz.prog 228 = some 1 := by kernel_rfl
theorem bMs : aU Tryz.prog 229 = some 1 := by kernel_rfl
theorem bK0 : aU Tryz.prog 242 = some 3 := by kernel_rfl
theorem bKw : aU Tryz.prog 243 = some 3 := by kernel_rfl
theorem bM1 : zeroCells? Tryz.prog 243 = some [.v (Value.int IntKind.i64 0), .v (Value.int IntKind.i64 0), .v (Value.slice none 0 0)] := by kernel_rfl
theorem bMf : aU Tryz.prog 245 = some 1 := by kernel_rfl
theorem bP4 : aU Tryz.prog 253 = some 1 := by kernel_rfl
theorem bK6 : aU Tryz.prog 254 = some 1 := by kernel_rfl
theorem bK2 : aU Tryz.prog 256 = some 1 := by kernel_rfl
theorem bL2 : aU Tryz.prog 257 = some 1 := by kernel_rfl
theorem bNh : aU Tryz.prog 263 = some 1 := by kernel_rfl
theorem bKn : aU Tryz.prog 265 = some 1 := by kernel_rfl
theorem bNx : aU Tryz.prog 267 = some 1 := by kernel_rfl
theorem bOn : aU Tryz.prog 272 = some 1 := by kernel_rfl
theorem bKq : aU Tryz.prog 273 = some 4 := by kernel_rfl
theorem bKc : aU Tryz.prog 274 = some 4 := by kernel_rfl
theorem bKx : aU Tryz.prog 275 = some 0 := by kernel_rfl
theorem bMq : aU Tryz.prog 276 = some 0 := by kernel_rfl
theorem bMy : aU Tryz.prog 277 = some 0 := by kernel_rfl
theorem bO7 : aU Tryz.prog 278 = some 1 := by kernel_rfl
theorem bMw : aU Tryz.prog 279 = some 1 := by kernel_rfl
theorem bLv : aU Tryz.prog 280 = some 1 := by kernel_rfl
theorem bLm : aU Tryz.prog 281 = some 1 := by kernel_rfl
theorem bL7 : aU Tryz.prog 282 = some 1 := by kernel_rfl
theorem bJp : aU Tryz.prog 283 = some 1 := by kernel_rfl
theorem bLz : aU Tryz.prog 284 = some 1 := by kernel_rfl
theorem bMr : aU Tryz.prog 285 = some 11 := by kernel_rfl
theorem bK3 : aU Tryz.prog 286 = some 11 := by kernel_rfl
theorem bJ8 : aU Tryz.prog 287 = some 1 := by kernel_rfl
abbrev FbP (k : Nat) : Prop := (Program.funcs Tryz.prog)[k]?.any (fun fn => fn.body.isSome && fn.name != "runtime.NumGoroutine") = true
theorem fbT {k : Nat} {f} (h : (Program.funcs Tryz.prog)[k]? = some f) (h' : (f.body.isSome && f.name != "runtime.NumGoroutine") = true) : FbP k := by
 show (Program.funcs Tryz.prog)[k]?.any _ = true
 rw [h]; exact h'
theorem bRt : FbP 33 := fbT Tryz.func33 (by kernel_rfl)
theorem bP8 : FbP 38 := fbT Tryz.func38 (by kernel_rfl)
theorem bRv : FbP 69 := fbT Tryz.func69 (by kernel_rfl)
theorem bMc : FbP 100 := fbT Tryz.func100 (by kernel_rfl)
theorem bHd : FbP 103 := fbT Tryz.func103 (by kernel_rfl)
theorem bMe : FbP 104 := fbT Tryz.func104 (by kernel_rfl)
theorem bO9 : FbP 105 := fbT Tryz.func105 (by kernel_rfl)
theorem bM9 : FbP 106 := fbT Tryz.func106 (by kernel_rfl)
theorem bJc : FbP 112 := fbT Tryz.func112 (by kernel_rfl)
theorem bM4 : FbP 113 := fbT Tryz.func113 (by kernel_rfl)
theorem bHa : FbP 114 := fbT Tryz.func114 (by kernel_rfl)
theorem bH0 : FbP 125 := fbT Tryz.func125 (by kernel_rfl)
theorem bD4 : FbP 127 := fbT Tryz.func127 (by kernel_rfl)
theorem bH9 : FbP 128 := fbT Tryz.func128 (by kernel_rfl)
theorem bK8 : FbP 129 := fbT Tryz.func129 (by kernel_rfl)
theorem bOk : FbP 130 := fbT Tryz.func130 (by kernel_rfl)
theorem bOd : FbP 131 := fbT Tryz.func131 (by kernel_rfl)
theorem bH6 : FbP 132 := fbT Tryz.func132 (by kernel_rfl)
theorem bNd : FbP 133 := fbT Tryz.func133 (by kernel_rfl)
theorem bGw : FbP 134 := fbT Tryz.func134 (by kernel_rfl)
theorem bL4 : FbP 136 := fbT Tryz.func136 (by kernel_rfl)
theorem aX2 : FbP 143 := fbT Tryz.func143 (by kernel_rfl)
theorem bH7 : FbP 144 := fbT Tryz.func144 (by kernel_rfl)
theorem bMm : FbP 145 := fbT Tryz.func145 (by kernel_rfl)
theorem bJv : FbP 151 := fbT Tryz.func151 (by kernel_rfl)
theorem bP3 : FbP 156 := fbT Tryz.func156 (by kernel_rfl)
theorem bNg : FbP 167 := fbT Tryz.func167 (by kernel_rfl)
theorem aWd : FbP 173 := fbT Tryz.func173 (by kernel_rfl)
theorem bGx : FbP 174 := fbT Tryz.func174 (by kernel_rfl)
theorem bMz : FbP 192 := fbT Tryz.func192 (by kernel_rfl)
theorem bO5 : FbP 193 := fbT Tryz.func193 (by kernel_rfl)
theorem bK5 : FbP 209 := fbT Tryz.func209 (by kernel_rfl)
theorem mix : Tryz.prog.follows .mixedOrders = true := by kernel_rfl
theorem mi3 (H : aH) (ρ : Operand → AV) (x : Operand) : bD Tryz.prog H ρ (.makeInterface 3 x) = some (.ifc 3 (ρ x)) := by simp only [bD, Tryz.underlying3]
attribute [go_sem] mi3
theorem mi4 (H : aH) (ρ : Operand → AV) (x : Operand) : bD Tryz.prog H ρ (.makeInterface 4 x) = some (.ifc 4 (ρ x)) := by simp only [bD, Tryz.underlying4]
attribute [go_sem] mi4
theorem ln9 (s : ByteArray) : bL Tryz.prog .len [9] [.v (.string s)] = some (.v (.int .i64 s.size)) := rL Tryz.underlying9
attribute [go_sem] ln9
theorem mi9 (H : aH) (ρ : Operand → AV) (x : Operand) : bD Tryz.prog H ρ (.makeInterface 9 x) = some (.ifc 9 (ρ x)) := by simp only [bD, Tryz.underlying9]
attribute [go_sem] mi9
theorem bSq (s : ByteArray) : bL Tryz.prog .len [10] [.v (.string s)] = some (.v (.int .i64 s.size)) := rL Tryz.underlying10
attribute [go_sem] bSq
theorem bQr (s : ByteArray) : bL Tryz.prog .len [11] [.v (.string s)] = some (.v (.int .i64 s.size)) := rL Tryz.underlying11
attribute [go_sem] bQr
theorem bR0 (xs : List AV) (n : Nat) (f : Bool) : bL Tryz.prog .len [24] [.sl xs n f] = some (.v (.int .i64 n)) := dB Tryz.underlying24
theorem bQa (j o n : Nat) : bL Tryz.prog .len [24] [.own j o n] = some (.v (.int .i64 n)) := cP Tryz.underlying24
theorem bRa (n c : Nat) : bL Tryz.prog .len [24] [.v (.slice none n c)] = some (.v (.int .i64 n)) := cO Tryz.underlying24
attribute [go_sem] bR0 bQa bRa
theorem bPr (H : aH) (ρ : Operand → AV) (x : Operand) : bD Tryz.prog H ρ (.makeInterface 24 x) = some (.ifc 24 (ρ x)) := by simp only [bD, Tryz.underlying24]
attribute [go_sem] bPr
theorem bQi (xs : List AV) (n : Nat) (f : Bool) : bL Tryz.prog .len [25] [.sl xs n f] = some (.v (.int .i64 n)) := dB Tryz.underlying25
theorem bPq (j o n : Nat) : bL Tryz.prog .len [25] [.own j o n] = some (.v (.int .i64 n)) := cP Tryz.underlying25
theorem bS2 (n c : Nat) : bL Tryz.prog .len [25] [.v (.slice none n c)] = some (.v (.int .i64 n)) := cO Tryz.underlying25
attribute [go_sem] bQi bPq bS2
theorem bRb (xs : List AV) (n : Nat) (f : Bool) : bL Tryz.prog .len [27] [.sl xs n f] = some (.v (.int .i64 n)) := dB Tryz.underlying27
theorem bSa (j o n : Nat) : bL Tryz.prog .len [27] [.own j o n] = some (.v (.int .i64 n)) := cP Tryz.underlying27
theorem bT1 (n c : Nat) : bL Tryz.prog .len [27] [.v (.slice none n c)] = some (.v (.int .i64 n)) := cO Tryz.underlying27
attribute [go_sem] bRb bSa bT1
theorem bSh (xs : List AV) (n : Nat) (f : Bool) : bL Tryz.prog .len [28] [.sl xs n f] = some (.v (.int .i64 n)) := dB Tryz.underlying28
theorem bRq (j o n : Nat) : bL Tryz.prog .len [28] [.own j o n] = some (.v (.int .i64 n)) := cP Tryz.underlying28
theorem bRo (n c : Nat) : bL Tryz.prog .len [28] [.v (.slice none n c)] = some (.v (.int .i64 n)) := cO Tryz.underlying28
attribute [go_sem] bSh bRq bRo
theorem bRz (xs : List AV) (n : Nat) (f : Bool) : bL Tryz.prog .len [31] [.sl xs n f] = some (.v (.int .i64 n)) := dB Tryz.underlying31
theorem bPt (j o n : Nat) : bL Tryz.prog .len [31] [.own j o n] = some (.v (.int .i64 n)) := cP Tryz.underlying31
theorem bPv (n c : Nat) : bL Tryz.prog .len [31] [.v (.slice none n c)] = some (.v (.int .i64 n)) := cO Tryz.underlying31
attribute [go_sem] bRz bPt bPv
theorem bPu (H : aH) (ρ : Operand → AV) (x : Operand) : bD Tryz.prog H ρ (.makeInterface 36 x) = some (.ifc 36 (ρ x)) := by simp only [bD, Tryz.underlying36]
attribute [go_sem] bPu
theorem bQz (xs : List AV) (n : Nat) (f : Bool) : bL Tryz.prog .len [40] [.sl xs n f] = some (.v (.int .i64 n)) := dB Tryz.underlying40
theorem bPo (j o n : Nat) : bL Tryz.prog .len [40] [.own j o n] = some (.v (.int .i64 n)) := cP Tryz.underlying40
theorem bSj (n c : Nat) : bL Tryz.prog .len [40] [.v (.slice none n c)] = some (.v (.int .i64 n)) := cO Tryz.underlying40
attribute [go_sem] bQz bPo bSj
theorem bSp (H : aH) (ρ : Operand → AV) (x : Operand) : bD Tryz.prog H ρ (.makeInterface 40 x) = some (.ifc 40 (ρ x)) := by simp only [bD, Tryz.underlying40]
attribute [go_sem] bSp
theorem bSc (xs : List AV) (n : Nat) (f : Bool) : bL Tryz.prog .len [54] [.sl xs n f] = some (.v (.int .i64 n)) := dB Tryz.underlying54
theorem bR2 (j o n : Nat) : bL Tryz.prog .len [54] [.own j o n] = some (.v (.int .i64 n)) := cP Tryz.underlying54
theorem bT0 (n c : Nat) : bL Tryz.prog .len [54] [.v (.slice none n c)] = some (.v (.int .i64 n)) := cO Tryz.underlying54
attribute [go_sem] bSc bR2 bT0
theorem bKs (xs : List AV) (n : Nat) (f : Bool) : bL Tryz.prog .len [112] [.sl xs n f] = some (.v (.int .i64 n)) := dB Tryz.underlying112
theorem bLj (j o n : Nat) : bL Tryz.prog .len [112] [.own j o n] = some (.v (.int .i64 n)) := cP Tryz.underlying112
theorem bLy (n c : Nat) : bL Tryz.prog .len [112] [.v (.slice none n c)] = some (.v (.int .i64 n)) := cO Tryz.underlying112
attribute [go_sem] bKs bLj bLy
theorem bN1 (xs : List AV) (n : Nat) (f : Bool) : bL Tryz.prog .len [172] [.sl xs n f] = some (.v (.int .i64 n)) := dB Tryz.underlying172
theorem bOy (j o n : Nat) : bL Tryz.prog .len [172] [.own j o n] = some (.v (.int .i64 n)) := cP Tryz.underlying172
theorem bO6 (n c : Nat) : bL Tryz.prog .len [172] [.v (.slice none n c)] = some (.v (.int .i64 n)) := cO Tryz.underlying172
attribute [go_sem] bN1 bOy bO6
theorem bNl (xs : List AV) (n : Nat) (f : Bool) : bL Tryz.prog .len [204] [.sl xs n f] = some (.v (.int .i64 n)) := dB Tryz.underlying204
theorem bLe (j o n : Nat) : bL Tryz.prog .len [204] [.own j o n] = some (.v (.int .i64 n)) := cP Tryz.underlying204
theorem bP5 (n c : Nat) : bL Tryz.prog .len [204] [.v (.slice none n c)] = some (.v (.int .i64 n)) := cO Tryz.underlying204
attribute [go_sem] bNl bLe bP5
theorem bMi (xs : List AV) (n : Nat) (f : Bool) : bL Tryz.prog .len [225] [.sl xs n f] = some (.v (.int .i64 n)) := dB Tryz.underlying225
theorem bOj (j o n : Nat) : bL Tryz.prog .len [225] [.own j o n] = some (.v (.int .i64 n)) := cP Tryz.underlying225
theorem bMg (n c : Nat) : bL Tryz.prog .len [225] [.v (.slice none n c)] = some (.v (.int .i64 n)) := cO Tryz.underlying225
attribute [go_sem] bMi bOj bMg
theorem bN8 (xs : List AV) (n : Nat) (f : Bool) : bL Tryz.prog .len [263] [.sl xs n f] = some (.v (.int .i64 n)) := dB Tryz.underlying263
theorem bMj (j o n : Nat) : bL Tryz.prog .len [263] [.own j o n] = some (.v (.int .i64 n)) := cP Tryz.underlying263
theorem bN6 (n c : Nat) : bL Tryz.prog .len [263] [.v (.slice none n c)] = some (.v (.int .i64 n)) := cO Tryz.underlying263
attribute [go_sem] bN8 bMj bN6
theorem bJw (xs : List AV) (n : Nat) (f : Bool) : bL Tryz.prog .len [265] [.sl xs n f] = some (.v (.int .i64 n)) := dB Tryz.underlying265
theorem bJm (j o n : Nat) : bL Tryz.prog .len [265] [.own j o n] = some (.v (.int .i64 n)) := cP Tryz.underlying265
theorem bJ2 (n c : Nat) : bL Tryz.prog .len [265] [.v (.slice none n c)] = some (.v (.int .i64 n)) := cO Tryz.underlying265
attribute [go_sem] bJw bJm bJ2
attribute [go_sem] Tryz.underlying0 sz0 Tryz.underlying1 sz1 Tryz.underlying2 sz2 Tryz.underlying3 sz3 Tryz.underlying4 sz4 Tryz.underlying5 sz5 Tryz.underlying6 sz6 Tryz.underlying7 sz7 Tryz.underlying8 sz8 Tryz.underlying9 sz9 Tryz.underlying10 bPp Tryz.underlying11 bSn Tryz.underlying12 bSv Tryz.underlying13 bQ9 Tryz.underlying14 bS3 Tryz.underlying15 bQy Tryz.underlying16 bQq Tryz.underlying17 bRk Tryz.underlying18 bQu Tryz.underlying19 bRu Tryz.underlying20 bRn Tryz.underlying21 bR1 Tryz.underlying22 bQ8 Tryz.underlying23 bS8 Tryz.underlying24 bPi Tryz.underlying25 bSy Tryz.underlying26 bPh Tryz.underlying27 bR5 Tryz.underlying28 bI1 Tryz.underlying29 bPc Tryz.underlying30 bPg Tryz.underlying31 bQk Tryz.underlying32 bSw Tryz.underlying33 bSb Tryz.underlying34 bSu Tryz.underlying35 bPk Tryz.underlying36 bS9 Tryz.underlying37 bRj Tryz.underlying38 bQp Tryz.underlying39 bPs Tryz.underlying40 bSk Tryz.underlying41 bQ0 Tryz.underlying42 bSg Tryz.underlying43 aFa Tryz.underlying44 bQ3 Tryz.underlying45 bP9 Tryz.underlying46 bQh Tryz.underlying47 bSo Tryz.underlying48 bPf Tryz.underlying49 bQl Tryz.underlying50 bPj Tryz.underlying51 bQm Tryz.underlying52 bPn Tryz.underlying53 bQc Tryz.underlying54 bRd Tryz.underlying55 bQ7 Tryz.underlying56 bPw Tryz.underlying57 bSs Tryz.underlying58 bRp Tryz.underlying59 bPb Tryz.underlying60 bSz Tryz.underlying61 bQ6 Tryz.underlying62 bRy Tryz.underlying63 bS4 Tryz.underlying64 bQs Tryz.underlying65 bPd Tryz.underlying66 bQ5 Tryz.underlying67 bR9 Tryz.underlying68 bQn Tryz.underlying69 aPz Tryz.underlying70 bSf Tryz.underlying71 bQt Tryz.underlying72 bQ4 Tryz.underlying73 bPm Tryz.underlying74 bRw Tryz.underlying75 bRr Tryz.underlying76 bQv Tryz.underlying77 bRs Tryz.underlying78 bQf Tryz.underlying79 bRc Tryz.underlying80 bS5 Tryz.underlying81 bRx Tryz.underlying82 bPa Tryz.underlying83 bPx Tryz.underlying84 bRg Tryz.underlying85 bQ2 Tryz.underlying86 bR7 Tryz.underlying87 bPe Tryz.underlying88 bS0 Tryz.underlying89 bQ1 Tryz.underlying90 bS6 Tryz.underlying91 bR6 Tryz.underlying92 bRe Tryz.underlying93 bT2 Tryz.underlying94 bQb Tryz.underlying95 bR4 Tryz.underlying96 bQg Tryz.underlying97 bSt Tryz.underlying98 bQx Tryz.underlying99 bRi Tryz.underlying100 bKa Tryz.underlying101 bJs Tryz.underlying102 aC6 Tryz.underlying103 bN7 Tryz.underlying104 bAg Tryz.underlying105 bKp Tryz.underlying106 bP7 Tryz.underlying107 bN3 Tryz.underlying108 bMa Tryz.underlying109 bNi Tryz.underlying110 bOg Tryz.underlying111 bJt Tryz.underlying112 aHl Tryz.underlying113 bKb Tryz.underlying114 bMv Tryz.underlying115 bP2 Tryz.underlying116 bMd Tryz.underlying117 bLk Tryz.underlying118 bMx Tryz.underlying119 bJy Tryz.underlying120 bAp Tryz.underlying121 bNr Tryz.underlying122 bM5 Tryz.underlying123 bMp Tryz.underlying124 bJk Tryz.underlying125 bJq Tryz.underlying126 bKv Tryz.underlying127 bO0 Tryz.underlying128 bOh Tryz.underlying129 bKg Tryz.underlying130 bKu Tryz.underlying131 bJe Tryz.underlying132 bL9 Tryz.underlying133 bJo Tryz.underlying134 bMh Tryz.underlying135 bKk Tryz.underlying136 bKi Tryz.underlying137 bNb Tryz.underlying138 bJx Tryz.underlying139 bKr Tryz.underlying140 bNc Tryz.underlying141 bM3 Tryz.underlying142 bNj Tryz.underlying143 bLa Tryz.underlying144 bJh Tryz.underlying145 bNz Tryz.underlying146 bKt Tryz.underlying147 bNf Tryz.underlying148 bNu Tryz.underlying149 bNp Tryz.underlying150 bNn Tryz.underlying151 bJj Tryz.underlying152 bLu Tryz.underlying153 bKm Tryz.underlying154 bLp Tryz.underlying155 bK7 Tryz.underlying156 bNs Tryz.underlying157 bL1 Tryz.underlying158 aW2 Tryz.underlying159 bMk Tryz.underlying160 bOc Tryz.underlying161 bO3 Tryz.underlying162 bL6 Tryz.underlying163 bJ5 Tryz.underlying164 bNe Tryz.underlying165 bNo Tryz.underlying166 bOm Tryz.underlying167 bJl Tryz.underlying168 bL0 Tryz.underlying169 bL8 Tryz.underlying170 bL5 Tryz.underlying171 bLq Tryz.underlying172 bN2 Tryz.underlying173 bOs Tryz.underlying174 bO8 Tryz.underlying175 bJ6 Tryz.underlying176 bN9 Tryz.underlying177 bNv Tryz.underlying178 bLl Tryz.underlying179 bKf Tryz.underlying180 bJ4 Tryz.underlying181 bMo Tryz.underlying182 bO4 Tryz.underlying183 bKh Tryz.underlying184 bMl Tryz.underlying185 bLn Tryz.underlying186 bLi Tryz.underlying187 bJb Tryz.underlying188 bM7 Tryz.underlying189 bJf Tryz.underlying190 bK1 Tryz.underlying191 bOr Tryz.underlying192 bK4 Tryz.underlying193 bJn Tryz.underlying194 bM6 Tryz.underlying196 bLo Tryz.underlying197 bKd Tryz.underlying198 bOo Tryz.underlying199 bOu Tryz.underlying200 bOi Tryz.underlying201 bOp Tryz.underlying202 bOb Tryz.underlying203 bJz Tryz.underlying204 bP0 Tryz.underlying205 bLr Tryz.underlying206 bNq Tryz.underlying207 bNm Tryz.underlying208 bOe Tryz.underlying209 bOx Tryz.underlying210 bLx Tryz.underlying211 bO2 Tryz.underlying212 bMt Tryz.underlying213 bN4 Tryz.underlying214 bNw Tryz.underlying215 bJu Tryz.underlying216 bLw Tryz.underlying217 bOf Tryz.underlying218 bM0 Tryz.underlying219 bLf Tryz.underlying220 bJ9 Tryz.underlying221 bM8 Tryz.underlying222 bMn Tryz.underlying223 bJa Tryz.underlying224 bP1 Tryz.underlying225 bP6 Tryz.underlying226 bLb Tryz.underlying227 bLg Tryz.underlying228 bJi Tryz.underlying229 bMs Tryz.underlying242 bK0 Tryz.underlying243 bKw Tryz.underlying245 bMf Tryz.underlying253 bP4 Tryz.underlying254 bK6 Tryz.underlying256 bK2 Tryz.underlying257 bL2 Tryz.underlying263 bNh Tryz.underlying265 bKn Tryz.underlying267 bNx Tryz.underlying272 bOn Tryz.underlying273 bKq Tryz.underlying274 bKc Tryz.underlying275 bKx Tryz.underlying276 bMq Tryz.underlying277 bMy Tryz.underlying278 bO7 Tryz.underlying279 bMw Tryz.underlying280 bLv Tryz.underlying281 bLm Tryz.underlying282 bL7 Tryz.underlying283 bJp Tryz.underlying284 bLz Tryz.underlying285 bMr Tryz.underlying286 bK3 Tryz.underlying287 bJ8
end Go.Proofs.YtkdohhmacfoolaaGreat
