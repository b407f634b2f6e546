/- Facts that the statement's proof is made of. No condition. -/
import Derived.Test.YtkdohhmacfoolaaGreatRows
import Derived.Test.YtkdohhmacfoolaaGreatNdAmB
set_option linter.unusedSimpArgs false
set_option linter.unusedVariables false
namespace Go.Proofs.YtkdohhmacfoolaaGreat
open Go Go.AM
theorem sz0 : aV Tryz.prog 0 = some 1 := by kernel_rfl
theorem sz1 : aV Tryz.prog 1 = some 1 := by kernel_rfl
theorem tb1 : Tryz.t1.bytes = 8 := rfl
theorem sz2 : aV Tryz.prog 2 = some 1 := by kernel_rfl
theorem sz3 : aV Tryz.prog 3 = some 1 := by kernel_rfl
theorem in3 : Tryz.prog.info? 3 = some Tryz.t3 := by kernel_rfl
theorem ts3 : Tryz.t3.size = 1 := rfl
theorem tb3 : Tryz.t3.bytes = 8 := rfl
theorem tz3 : Tryz.t3.zero = some (Value.int IntKind.i64 0) := rfl
theorem zc3 : zeroCells? Tryz.prog 3 = some [.v (Value.int IntKind.i64 0)] := by kernel_rfl
theorem sz4 : aV Tryz.prog 4 = some 1 := by kernel_rfl
theorem in4 : Tryz.prog.info? 4 = some Tryz.t4 := by kernel_rfl
theorem ts4 : Tryz.t4.size = 1 := rfl
theorem tb4 : Tryz.t4.bytes = 1 := rfl
theorem tz4 : Tryz.t4.zero = some (Value.bool false) := rfl
theorem zc4 : zeroCells? Tryz.prog 4 = some [.v (Value.bool false)] := by kernel_rfl
theorem sz5 : aV Tryz.prog 5 = some 1 := by kernel_rfl
theorem sz6 : aV Tryz.prog 6 = some 1 := by kernel_rfl
theorem sz7 : aV Tryz.prog 7 = some 4 := by kernel_rfl
theorem sz8 : aV Tryz.prog 8 = some 4 := by kernel_rfl
theorem sz9 : aV Tryz.prog 9 = some 1 := by kernel_rfl
theorem bSh : aV Tryz.prog 10 = some 1 := by kernel_rfl
theorem bT9 : aV Tryz.prog 11 = some 1 := by kernel_rfl
theorem bS5 : aV Tryz.prog 12 = some 1 := by kernel_rfl
theorem bRu : aV Tryz.prog 13 = some 2 := by kernel_rfl
theorem bT2 : aV Tryz.prog 14 = some 2 := by kernel_rfl
theorem bT1 : aV Tryz.prog 15 = some 1 := by kernel_rfl
theorem bPk : aV Tryz.prog 16 = some 1 := by kernel_rfl
theorem bPx : aV Tryz.prog 17 = some 1 := by kernel_rfl
theorem bRp : aV Tryz.prog 18 = some 1 := by kernel_rfl
theorem bT0 : aV Tryz.prog 19 = some 1 := by kernel_rfl
theorem bS1 : aV Tryz.prog 20 = some 1 := by kernel_rfl
theorem bQv : aV Tryz.prog 21 = some 1 := by kernel_rfl
theorem bQn : aV Tryz.prog 22 = some 3 := by kernel_rfl
theorem bQp : aV Tryz.prog 23 = some 3 := by kernel_rfl
theorem bPz : zeroCells? Tryz.prog 23 = some [.v (Value.int IntKind.i64 0), .v (Value.int IntKind.i64 0), .v (Value.int IntKind.i64 0)] := by kernel_rfl
theorem bQ3 : aV Tryz.prog 24 = some 1 := by kernel_rfl
theorem bHz : Tryz.prog.info? 24 = some Tryz.t24 := by kernel_rfl
theorem bSg : Tryz.t24.size = 1 := rfl
theorem bO8 : Tryz.t24.bytes = 24 := rfl
theorem bHw : Tryz.t24.zero = some (Value.slice none 0 0) := rfl
theorem bQu : aV Tryz.prog 25 = some 1 := by kernel_rfl
theorem bRs : aV Tryz.prog 26 = some 1 := by kernel_rfl
theorem bQ8 : aV Tryz.prog 27 = some 1 := by kernel_rfl
theorem bIc : aV Tryz.prog 28 = some 1 := by kernel_rfl
theorem bIb : zeroCells? Tryz.prog 28 = some [.v (Value.slice none 0 0)] := by kernel_rfl
theorem bQt : aV Tryz.prog 29 = some 5 := by kernel_rfl
theorem bQc : aV Tryz.prog 30 = some 5 := by kernel_rfl
theorem bTa : zeroCells? Tryz.prog 30 = some [.v (Value.int IntKind.i64 0), .v (Value.int IntKind.i64 0), .v (Value.int IntKind.i64 0), .v (Value.slice none 0 0), .v (Value.slice none 0 0)] := by kernel_rfl
theorem bSx : aV Tryz.prog 31 = some 1 := by kernel_rfl
theorem bRt : aV Tryz.prog 32 = some 6 := by kernel_rfl
theorem bPr : aV Tryz.prog 33 = some 6 := by kernel_rfl
theorem bSs : zeroCells? Tryz.prog 33 = some [.v (Value.int IntKind.i64 0), .v (Value.int IntKind.i64 0), .v (Value.int IntKind.i64 0), .v (Value.slice none 0 0), .v (Value.slice none 0 0), .v (Value.slice none 0 0)] := by kernel_rfl
theorem bS7 : aV Tryz.prog 34 = some 2 := by kernel_rfl
theorem bS4 : aV Tryz.prog 35 = some 2 := by kernel_rfl
theorem bPp : zeroCells? Tryz.prog 35 = some [.v (Value.slice none 0 0), .v (Value.int IntKind.i64 0)] := by kernel_rfl
theorem bSm : aV Tryz.prog 36 = some 1 := by kernel_rfl
theorem aU3 : Tryz.prog.info? 36 = some Tryz.t36 := by kernel_rfl
theorem bQz : Tryz.t36.size = 1 := rfl
theorem bNs : Tryz.t36.bytes = 8 := rfl
theorem bPs : Tryz.t36.zero = some (Value.int IntKind.i64 0) := rfl
theorem bRe : aV Tryz.prog 37 = some 1 := by kernel_rfl
theorem bRm : aV Tryz.prog 38 = some 1 := by kernel_rfl
theorem bQl : aV Tryz.prog 39 = some 1 := by kernel_rfl
theorem bQo : aV Tryz.prog 40 = some 1 := by kernel_rfl
theorem bSf : aV Tryz.prog 41 = some 3 := by kernel_rfl
theorem bRg : aV Tryz.prog 42 = some 3 := by kernel_rfl
theorem bPv : zeroCells? Tryz.prog 42 = some [.v (Value.int IntKind.i64 0), .v (Value.slice none 0 0), .v (Value.slice none 0 0)] := by kernel_rfl
theorem aF9 : aV Tryz.prog 43 = some 1 := by kernel_rfl
theorem bIm : Tryz.prog.info? 43 = some Tryz.t43 := by kernel_rfl
theorem bHu : Tryz.t43.size = 1 := rfl
theorem aZf : Tryz.t43.bytes = 8 := rfl
theorem bJ6 : Tryz.t43.zero = some (Value.int IntKind.u64 0) := rfl
theorem bC7 : zeroCells? Tryz.prog 43 = some [.v (Value.int IntKind.u64 0)] := by kernel_rfl
theorem bRq : aV Tryz.prog 44 = some 4 := by kernel_rfl
theorem bSo : aV Tryz.prog 45 = some 4 := by kernel_rfl
theorem bSw : zeroCells? Tryz.prog 45 = some [.v (Value.int IntKind.i64 0), .v (Value.int IntKind.u64 0), .v (Value.int IntKind.u64 0), .v (Value.string { data := #[] })] := by kernel_rfl
theorem bQj : aV Tryz.prog 46 = some 1 := by kernel_rfl
theorem bSp : aV Tryz.prog 47 = some 1 := by kernel_rfl
theorem bRy : aV Tryz.prog 48 = some 1 := by kernel_rfl
theorem bQx : aV Tryz.prog 49 = some 1 := by kernel_rfl
theorem bS6 : aV Tryz.prog 50 = some 1 := by kernel_rfl
theorem bT7 : aV Tryz.prog 51 = some 1 := by kernel_rfl
theorem bQ2 : aV Tryz.prog 52 = some 1 := by kernel_rfl
theorem bSd : aV Tryz.prog 53 = some 1 := by kernel_rfl
theorem bS9 : aV Tryz.prog 54 = some 1 := by kernel_rfl
theorem bRn : aV Tryz.prog 55 = some 6 := by kernel_rfl
theorem bSl : aV Tryz.prog 56 = some 6 := by kernel_rfl
theorem bPn : aV Tryz.prog 57 = some 1 := by kernel_rfl
theorem bR5 : aV Tryz.prog 58 = some 1 := by kernel_rfl
theorem bR1 : aV Tryz.prog 59 = some 1 := by kernel_rfl
theorem bSq : aV Tryz.prog 60 = some 2 := by kernel_rfl
theorem bQ9 : aV Tryz.prog 61 = some 1 := by kernel_rfl
theorem bPj : aV Tryz.prog 62 = some 1 := by kernel_rfl
theorem bSz : aV Tryz.prog 63 = some 1 := by kernel_rfl
theorem bPw : aV Tryz.prog 64 = some 1 := by kernel_rfl
theorem bQs : aV Tryz.prog 65 = some 1 := by kernel_rfl
theorem bQ7 : aV Tryz.prog 66 = some 1 := by kernel_rfl
theorem bSu : aV Tryz.prog 67 = some 1 := by kernel_rfl
theorem bSv : aV Tryz.prog 68 = some 1 := by kernel_rfl
theorem aOi : aV Tryz.prog 69 = some 2 := by kernel_rfl
theorem bQe : Tryz.prog.info? 69 = some Tryz.t69 := by kernel_rfl
theorem bQ5 : Tryz.t69.size = 2 := rfl
theorem bMo : Tryz.t69.bytes = 16 := rfl
theorem bRc : Tryz.t69.zero = some (Value.agg #[Value.int IntKind.u64 0, Value.int IntKind.u64 0]) := rfl
theorem bT6 : zeroCells? Tryz.prog 69 = some [.v (Value.int IntKind.u64 0), .v (Value.int IntKind.u64 0)] := by kernel_rfl
theorem bPu : aV Tryz.prog 70 = some 1 := by kernel_rfl
theorem bRw : aV Tryz.prog 71 = some 1 := by kernel_rfl
theorem bQm : aV Tryz.prog 72 = some 1 := by kernel_rfl
theorem bPl : aV Tryz.prog 73 = some 1 := by kernel_rfl
theorem bQb : aV Tryz.prog 74 = some 1 := by kernel_rfl
theorem bQy : aV Tryz.prog 75 = some 1 := by kernel_rfl
theorem bRa : aV Tryz.prog 76 = some 1 := by kernel_rfl
theorem bRd : aV Tryz.prog 77 = some 1 := by kernel_rfl
theorem bPq : aV Tryz.prog 78 = some 1 := by kernel_rfl
theorem bRj : aV Tryz.prog 79 = some 1 := by kernel_rfl
theorem bRo : aV Tryz.prog 80 = some 1 := by kernel_rfl
theorem bSn : aV Tryz.prog 81 = some 1 := by kernel_rfl
theorem bRl : aV Tryz.prog 82 = some 1 := by kernel_rfl
theorem bSk : aV Tryz.prog 83 = some 1 := by kernel_rfl
theorem bQh : aV Tryz.prog 84 = some 1 := by kernel_rfl
theorem bRv : aV Tryz.prog 85 = some 1 := by kernel_rfl
theorem bSa : aV Tryz.prog 86 = some 1 := by kernel_rfl
theorem bQk : aV Tryz.prog 87 = some 1 := by kernel_rfl
theorem bSi : aV Tryz.prog 88 = some 1 := by kernel_rfl
theorem bRf : aV Tryz.prog 89 = some 1 := by kernel_rfl
theorem bQd : aV Tryz.prog 90 = some 1 := by kernel_rfl
theorem bR0 : aV Tryz.prog 91 = some 1 := by kernel_rfl
theorem bQf : aV Tryz.prog 92 = some 1 := by kernel_rfl
theorem bQg : aV Tryz.prog 93 = some 1 := by kernel_rfl
theorem bQw : aV Tryz.prog 94 = some 1 := by kernel_rfl
theorem bSr : aV Tryz.prog 95 = some 1 := by kernel_rfl
theorem bR6 : aV Tryz.prog 96 = some 1 := by kernel_rfl
theorem bPm : aV Tryz.prog 97 = some 1 := by kernel_rfl
theorem bRz : aV Tryz.prog 98 = some 1 := by kernel_rfl
theorem bRh : aV Tryz.prog 99 = some 1 := by kernel_rfl
theorem bL7 : aV Tryz.prog 100 = some 1 := by kernel_rfl
theorem bNe : aV Tryz.prog 101 = some 3 := by kernel_rfl
theorem aC1 : aV Tryz.prog 102 = some 3 := by kernel_rfl
theorem aWj : Tryz.prog.info? 102 = some Tryz.t102 := by kernel_rfl
theorem aWi : Tryz.t102.size = 3 := rfl
theorem aI0 : Tryz.t102.bytes = 24 := rfl
theorem aWt : Tryz.t102.zero = some (Value.agg #[Value.int IntKind.i64 0, Value.int IntKind.i64 0, Value.int IntKind.i64 0]) := rfl
theorem aO1 : zeroCells? Tryz.prog 102 = some [.v (Value.int IntKind.i64 0), .v (Value.int IntKind.i64 0), .v (Value.int IntKind.i64 0)] := by kernel_rfl
theorem bJn : aV Tryz.prog 103 = some 2 := by kernel_rfl
theorem bDn : aV Tryz.prog 104 = some 2 := by kernel_rfl
theorem bAo : Tryz.prog.info? 104 = some Tryz.t104 := by kernel_rfl
theorem bBj : Tryz.t104.size = 2 := rfl
theorem aNb : Tryz.t104.bytes = 16 := rfl
theorem bAe : Tryz.t104.zero = some (Value.agg #[Value.bool false, Value.int IntKind.u64 0]) := rfl
theorem bDd : zeroCells? Tryz.prog 104 = some [.v (Value.bool false), .v (Value.int IntKind.u64 0)] := by kernel_rfl
theorem bLh : aV Tryz.prog 105 = some 1 := by kernel_rfl
theorem bP9 : aV Tryz.prog 106 = some 1 := by kernel_rfl
theorem bP6 : aV Tryz.prog 107 = some 1 := by kernel_rfl
theorem bOe : aV Tryz.prog 108 = some 1 := by kernel_rfl
theorem bNw : aV Tryz.prog 109 = some 1 := by kernel_rfl
theorem bP1 : aV Tryz.prog 110 = some 1 := by kernel_rfl
theorem bPf : aV Tryz.prog 111 = some 1 := by kernel_rfl
theorem aIo : aV Tryz.prog 112 = some 1 := by kernel_rfl
theorem bO1 : Tryz.prog.info? 112 = some Tryz.t112 := by kernel_rfl
theorem bJd : Tryz.t112.size = 1 := rfl
theorem bPg : Tryz.t112.bytes = 24 := rfl
theorem bLf : zeroCells? Tryz.prog 112 = some [.v (Value.slice none 0 0)] := by kernel_rfl
theorem bN2 : aV Tryz.prog 113 = some 1 := by kernel_rfl
theorem bKs : aV Tryz.prog 114 = some 1 := by kernel_rfl
theorem bM4 : aV Tryz.prog 115 = some 1 := by kernel_rfl
theorem bPe : aV Tryz.prog 116 = some 1 := by kernel_rfl
theorem bPd : aV Tryz.prog 117 = some 1 := by kernel_rfl
theorem bN6 : aV Tryz.prog 118 = some 1 := by kernel_rfl
theorem bL1 : aV Tryz.prog 119 = some 2 := by kernel_rfl
theorem bBn : aV Tryz.prog 120 = some 2 := by kernel_rfl
theorem bBi : Tryz.prog.info? 120 = some Tryz.t120 := by kernel_rfl
theorem bAp : Tryz.t120.size = 2 := rfl
theorem aN1 : Tryz.t120.bytes = 16 := rfl
theorem bCx : Tryz.t120.zero = some (Value.agg #[Value.int IntKind.u64 0, Value.int IntKind.u64 0]) := rfl
theorem bBh : zeroCells? Tryz.prog 120 = some [.v (Value.int IntKind.u64 0), .v (Value.int IntKind.u64 0)] := by kernel_rfl
theorem bO2 : aV Tryz.prog 121 = some 1 := by kernel_rfl
theorem bNi : aV Tryz.prog 122 = some 1 := by kernel_rfl
theorem bNd : aV Tryz.prog 123 = some 1 := by kernel_rfl
theorem bOp : aV Tryz.prog 124 = some 1 := by kernel_rfl
theorem bOb : aV Tryz.prog 125 = some 1 := by kernel_rfl
theorem bLk : aV Tryz.prog 126 = some 1 := by kernel_rfl
theorem bMt : aV Tryz.prog 127 = some 1 := by kernel_rfl
theorem bNk : aV Tryz.prog 128 = some 1 := by kernel_rfl
theorem bLx : aV Tryz.prog 129 = some 1 := by kernel_rfl
theorem bKe : aV Tryz.prog 130 = some 1 := by kernel_rfl
theorem bH6 : zeroCells? Tryz.prog 130 = some [.v (Value.pointer none)] := by kernel_rfl
theorem bO3 : aV Tryz.prog 131 = some 1 := by kernel_rfl
theorem bMl : aV Tryz.prog 132 = some 1 := by kernel_rfl
theorem bO7 : aV Tryz.prog 133 = some 1 := by kernel_rfl
theorem bMp : aV Tryz.prog 134 = some 1 := by kernel_rfl
theorem bLq : aV Tryz.prog 135 = some 1 := by kernel_rfl
theorem bL5 : aV Tryz.prog 136 = some 1 := by kernel_rfl
theorem bM0 : aV Tryz.prog 137 = some 1 := by kernel_rfl
theorem bLb : aV Tryz.prog 138 = some 1 := by kernel_rfl
theorem bMx : aV Tryz.prog 139 = some 1 := by kernel_rfl
theorem bKp : aV Tryz.prog 140 = some 1 := by kernel_rfl
theorem bKf : aV Tryz.prog 141 = some 1 := by kernel_rfl
theorem bLc : aV Tryz.prog 142 = some 1 := by kernel_rfl
theorem bNu : aV Tryz.prog 143 = some 1 := by kernel_rfl
theorem bM5 : aV Tryz.prog 144 = some 1 := by kernel_rfl
theorem bP3 : aV Tryz.prog 145 = some 1 := by kernel_rfl
theorem bJu : aV Tryz.prog 146 = some 1 := by kernel_rfl
theorem bKj : aV Tryz.prog 147 = some 1 := by kernel_rfl
theorem bKa : aV Tryz.prog 148 = some 1 := by kernel_rfl
theorem bO9 : aV Tryz.prog 149 = some 1 := by kernel_rfl
theorem bLe : aV Tryz.prog 150 = some 1 := by kernel_rfl
theorem bO4 : aV Tryz.prog 151 = some 2 := by kernel_rfl
theorem bKw : aV Tryz.prog 152 = some 1 := by kernel_rfl
theorem bMj : aV Tryz.prog 153 = some 1 := by kernel_rfl
theorem bJp : aV Tryz.prog 154 = some 1 := by kernel_rfl
theorem bLn : aV Tryz.prog 155 = some 1 := by kernel_rfl
theorem bKk : aV Tryz.prog 156 = some 1 := by kernel_rfl
theorem bLr : aV Tryz.prog 157 = some 2 := by kernel_rfl
theorem aW7 : aV Tryz.prog 158 = some 2 := by kernel_rfl
theorem bJc : zeroCells? Tryz.prog 158 = some [.v (Value.int IntKind.u64 0), .v (Value.int IntKind.i64 0)] := by kernel_rfl
theorem bMq : aV Tryz.prog 159 = some 1 := by kernel_rfl
theorem bJz : aV Tryz.prog 160 = some 1 := by kernel_rfl
theorem bM1 : aV Tryz.prog 161 = some 1 := by kernel_rfl
theorem bOn : aV Tryz.prog 162 = some 1 := by kernel_rfl
theorem bMk : aV Tryz.prog 163 = some 1 := by kernel_rfl
theorem bNh : aV Tryz.prog 164 = some 1 := by kernel_rfl
theorem bOk : aV Tryz.prog 165 = some 1 := by kernel_rfl
theorem bL2 : aV Tryz.prog 166 = some 1 := by kernel_rfl
theorem bK1 : aV Tryz.prog 167 = some 1 := by kernel_rfl
theorem bOh : aV Tryz.prog 168 = some 1 := by kernel_rfl
theorem bJw : aV Tryz.prog 169 = some 1 := by kernel_rfl
theorem bMe : aV Tryz.prog 170 = some 1 := by kernel_rfl
theorem bMh : aV Tryz.prog 171 = some 1 := by kernel_rfl
theorem bOj : aV Tryz.prog 172 = some 1 := by kernel_rfl
theorem bL8 : aV Tryz.prog 173 = some 1 := by kernel_rfl
theorem bKy : aV Tryz.prog 174 = some 1 := by kernel_rfl
theorem bJj : aV Tryz.prog 175 = some 1 := by kernel_rfl
theorem bLz : aV Tryz.prog 176 = some 1 := by kernel_rfl
theorem bMz : aV Tryz.prog 177 = some 1 := by kernel_rfl
theorem bKo : aV Tryz.prog 178 = some 1 := by kernel_rfl
theorem bNj : aV Tryz.prog 179 = some 1 := by kernel_rfl
theorem bNf : aV Tryz.prog 180 = some 1 := by kernel_rfl
theorem bJi : aV Tryz.prog 181 = some 1 := by kernel_rfl
theorem bOf : aV Tryz.prog 182 = some 1 := by kernel_rfl
theorem bPh : aV Tryz.prog 183 = some 1 := by kernel_rfl
theorem bK5 : aV Tryz.prog 184 = some 1 := by kernel_rfl
theorem bJs : aV Tryz.prog 185 = some 1 := by kernel_rfl
theorem bN1 : aV Tryz.prog 186 = some 1 := by kernel_rfl
theorem bLl : aV Tryz.prog 187 = some 1 := by kernel_rfl
theorem bOv : aV Tryz.prog 188 = some 1 := by kernel_rfl
theorem bOl : aV Tryz.prog 189 = some 1 := by kernel_rfl
theorem bP4 : aV Tryz.prog 190 = some 1 := by kernel_rfl
theorem bKm : aV Tryz.prog 191 = some 6 := by kernel_rfl
theorem bM6 : aV Tryz.prog 192 = some 6 := by kernel_rfl
theorem bNv : zeroCells? Tryz.prog 192 = some [.v (Value.pointer none), .v (Value.pointer none), .v (Value.int IntKind.u64 0), .v (Value.int IntKind.i64 0), .v (Value.int IntKind.i64 0), .v (Value.int IntKind.i64 0)] := by kernel_rfl
theorem bMw : aV Tryz.prog 193 = some 1 := by kernel_rfl
theorem bPc : aV Tryz.prog 194 = some 1 := by kernel_rfl
theorem bM8 : aV Tryz.prog 195 = some 1 := by kernel_rfl
theorem bKl : aV Tryz.prog 196 = some 1 := by kernel_rfl
theorem bLp : aV Tryz.prog 197 = some 1 := by kernel_rfl
theorem bNc : aV Tryz.prog 198 = some 1 := by kernel_rfl
theorem bLu : aV Tryz.prog 199 = some 1 := by kernel_rfl
theorem bJx : aV Tryz.prog 200 = some 1 := by kernel_rfl
theorem bOs : aV Tryz.prog 201 = some 1 := by kernel_rfl
theorem bKd : aV Tryz.prog 202 = some 1 := by kernel_rfl
theorem bLw : aV Tryz.prog 203 = some 1 := by kernel_rfl
theorem bOy : aV Tryz.prog 204 = some 1 := by kernel_rfl
theorem bK0 : aV Tryz.prog 205 = some 1 := by kernel_rfl
theorem bN7 : aV Tryz.prog 206 = some 1 := by kernel_rfl
theorem bN4 : aV Tryz.prog 207 = some 1 := by kernel_rfl
theorem bNg : aV Tryz.prog 208 = some 1 := by kernel_rfl
theorem bOi : aV Tryz.prog 209 = some 1 := by kernel_rfl
theorem bOu : aV Tryz.prog 210 = some 1 := by kernel_rfl
theorem bLt : aV Tryz.prog 211 = some 1 := by kernel_rfl
theorem bOm : aV Tryz.prog 212 = some 1 := by kernel_rfl
theorem bP8 : aV Tryz.prog 213 = some 1 := by kernel_rfl
theorem bNm : aV Tryz.prog 214 = some 1 := by kernel_rfl
theorem bKz : aV Tryz.prog 215 = some 1 := by kernel_rfl
theorem bK4 : aV Tryz.prog 216 = some 1 := by kernel_rfl
theorem bLm : aV Tryz.prog 217 = some 1 := by kernel_rfl
theorem bNo : aV Tryz.prog 218 = some 1 := by kernel_rfl
theorem bO0 : aV Tryz.prog 219 = some 1 := by kernel_rfl
theorem bM7 : aV Tryz.prog 220 = some 1 := by kernel_rfl
theorem bKi : aV Tryz.prog 221 = some 1 := by kernel_rfl
theorem bKc : aV Tryz.prog 222 = some 1 := by kernel_rfl
theorem bMy : aV Tryz.prog 223 = some 1 := by kernel_rfl
theorem bJt : aV Tryz.prog 224 = some 1 := by kernel_rfl
theorem bMg : aV Tryz.prog 225 = some 1 := by kernel_rfl
theorem bNx : aV Tryz.prog 226 = some 1 := by kernel_rfl
theorem bJk : aV Tryz.prog 227 = some 1 := by kernel_rfl
theorem bNq : aV Tryz.prog 228 = some 1 := by kernel_rfl
theorem bOt : aV Tryz.prog 229 = some 1 := by kernel_rfl
theorem bNt : aV Tryz.prog 242 = some 3 := by kernel_rfl
theorem bN8 : aV Tryz.prog 243 = some 3 := by kernel_rfl
theorem bN5 : zeroCells? Tryz.prog 243 = some [.v (Value.int IntKind.i64 0), .v (Value.int IntKind.i64 0), .v (Value.slice none 0 0)] := by kernel_rfl
theorem bJo : aV Tryz.prog 245 = some 1 := by kernel_rfl
theorem bM3 : aV Tryz.prog 253 = some 1 := by kernel_rfl
theorem bJm : aV Tryz.prog 254 = some 1 := by kernel_rfl
theorem bN0 : aV Tryz.prog 256 = some 1 := by kernel_rfl
theorem bJl : aV Tryz.prog 257 = some 1 := by kernel_rfl
theorem bNp : aV Tryz.prog 263 = some 1 := by kernel_rfl
theorem bLj : aV Tryz.prog 265 = some 1 := by kernel_rfl
theorem bLy : aV Tryz.prog 267 = some 1 := by kernel_rfl
theorem bNl : aV Tryz.prog 272 = some 1 := by kernel_rfl
theorem bP5 : aV Tryz.prog 273 = some 4 := by kernel_rfl
theorem bKt : aV Tryz.prog 274 = some 4 := by kernel_rfl
theorem bM9 : aV Tryz.prog 275 = some 0 := by kernel_rfl
theorem bOx : aV Tryz.prog 276 = some 0 := by kernel_rfl
theorem bP2 : aV Tryz.prog 277 = some 0 := by kernel_rfl
theorem bM2 : aV Tryz.prog 278 = some 1 := by kernel_rfl
theorem bOo : aV Tryz.prog 279 = some 1 := by kernel_rfl
theorem bOr : aV Tryz.prog 280 = some 1 := by kernel_rfl
theorem bKh : aV Tryz.prog 281 = some 1 := by kernel_rfl
theorem bK6 : aV Tryz.prog 282 = some 1 := by kernel_rfl
theorem bMc : aV Tryz.prog 283 = some 1 := by kernel_rfl
theorem bLa : aV Tryz.prog 284 = some 1 := by kernel_rfl
theorem bJy : aV Tryz.prog 285 = some 11 := by kernel_rfl
theorem bMa : aV Tryz.prog 286 = some 11 := by kernel_rfl
theorem bOc : aV Tryz.prog 287 = some 1 := by kernel_rfl
abbrev FbP (k : Nat) : Prop := (Program.funcs Tryz.prog)[k]?.any (fun fn => fn.body.isSome && fn.name != "runtime.NumGoroutine") = true
theorem fbT {k : Nat} {f} (h : (Program.funcs Tryz.prog)[k]? = some f) (h' : (f.body.isSome && f.name != "runtime.NumGoroutine") = true) : FbP k := by
 show (Program.funcs Tryz.prog)[k]?.any _ = true
 rw [h]; exact h'
theorem bQq : FbP 33 := fbT Tryz.func33 (by kernel_rfl)
theorem bSt : FbP 38 := fbT Tryz.func38 (by kernel_rfl)
theorem bPo : FbP 69 := fbT Tryz.func69 (by kernel_rfl)
theorem bJq : FbP 100 := fbT Tryz.func100 (by kernel_rfl)
theorem bH4 : FbP 103 := fbT Tryz.func103 (by kernel_rfl)
theorem bNn : FbP 104 := fbT Tryz.func104 (by kernel_rfl)
theorem bMb : FbP 105 := fbT Tryz.func105 (by kernel_rfl)
theorem bPa : FbP 106 := fbT Tryz.func106 (by kernel_rfl)
theorem bOq : FbP 112 := fbT Tryz.func112 (by kernel_rfl)
theorem bL0 : FbP 113 := fbT Tryz.func113 (by kernel_rfl)
theorem bHm : FbP 114 := fbT Tryz.func114 (by kernel_rfl)
theorem bHk : FbP 125 := fbT Tryz.func125 (by kernel_rfl)
theorem bDl : FbP 127 := fbT Tryz.func127 (by kernel_rfl)
theorem bHc : FbP 128 := fbT Tryz.func128 (by kernel_rfl)
theorem bKx : FbP 129 := fbT Tryz.func129 (by kernel_rfl)
theorem bOa : FbP 130 := fbT Tryz.func130 (by kernel_rfl)
theorem bMn : FbP 131 := fbT Tryz.func131 (by kernel_rfl)
theorem bHo : FbP 132 := fbT Tryz.func132 (by kernel_rfl)
theorem bJh : FbP 133 := fbT Tryz.func133 (by kernel_rfl)
theorem bHi : FbP 134 := fbT Tryz.func134 (by kernel_rfl)
theorem bOd : FbP 136 := fbT Tryz.func136 (by kernel_rfl)
theorem aXb : FbP 143 := fbT Tryz.func143 (by kernel_rfl)
theorem bHh : FbP 144 := fbT Tryz.func144 (by kernel_rfl)
theorem bK7 : FbP 145 := fbT Tryz.func145 (by kernel_rfl)
theorem bOz : FbP 151 := fbT Tryz.func151 (by kernel_rfl)
theorem bKv : FbP 156 := fbT Tryz.func156 (by kernel_rfl)
theorem bOg : FbP 167 := fbT Tryz.func167 (by kernel_rfl)
theorem aWw : FbP 173 := fbT Tryz.func173 (by kernel_rfl)
theorem bH5 : FbP 174 := fbT Tryz.func174 (by kernel_rfl)
theorem bP7 : FbP 192 := fbT Tryz.func192 (by kernel_rfl)
theorem bMs : FbP 193 := fbT Tryz.func193 (by kernel_rfl)
theorem bNa : FbP 209 := fbT Tryz.func209 (by kernel_rfl)
theorem mix : Tryz.prog.follows .mixedOrders = true := by kernel_rfl
theorem mi3 (H : aH) (ρ : Operand → AV) (x : Operand) : bE Tryz.prog H ρ (.makeInterface 3 x) = some (.ifc 3 (ρ x)) := by simp only [bE, Tryz.underlying3]
attribute [go_sem] mi3
theorem mi4 (H : aH) (ρ : Operand → AV) (x : Operand) : bE Tryz.prog H ρ (.makeInterface 4 x) = some (.ifc 4 (ρ x)) := by simp only [bE, Tryz.underlying4]
attribute [go_sem] mi4
theorem ln9 (s : ByteArray) : bL Tryz.prog .len [9] [.v (.string s)] = some (.v (.int .i64 s.size)) := rP Tryz.underlying9
attribute [go_sem] ln9
theorem mi9 (H : aH) (ρ : Operand → AV) (x : Operand) : bE Tryz.prog H ρ (.makeInterface 9 x) = some (.ifc 9 (ρ x)) := by simp only [bE, Tryz.underlying9]
attribute [go_sem] mi9
theorem bT3 (s : ByteArray) : bL Tryz.prog .len [10] [.v (.string s)] = some (.v (.int .i64 s.size)) := rP Tryz.underlying10
attribute [go_sem] bT3
theorem bQa (s : ByteArray) : bL Tryz.prog .len [11] [.v (.string s)] = some (.v (.int .i64 s.size)) := rP Tryz.underlying11
attribute [go_sem] bQa
theorem bQ0 (xs : List AV) (n : Nat) (f : Bool) : bL Tryz.prog .len [24] [.sl xs n f] = some (.v (.int .i64 n)) := dD Tryz.underlying24
theorem bTb (j o n : Nat) : bL Tryz.prog .len [24] [.own j o n] = some (.v (.int .i64 n)) := cQ Tryz.underlying24
theorem bR9 (n c : Nat) : bL Tryz.prog .len [24] [.v (.slice none n c)] = some (.v (.int .i64 n)) := cP Tryz.underlying24
attribute [go_sem] bQ0 bTb bR9
theorem bRb (H : aH) (ρ : Operand → AV) (x : Operand) : bE Tryz.prog H ρ (.makeInterface 24 x) = some (.ifc 24 (ρ x)) := by simp only [bE, Tryz.underlying24]
attribute [go_sem] bRb
theorem bS2 (xs : List AV) (n : Nat) (f : Bool) : bL Tryz.prog .len [25] [.sl xs n f] = some (.v (.int .i64 n)) := dD Tryz.underlying25
theorem bQi (j o n : Nat) : bL Tryz.prog .len [25] [.own j o n] = some (.v (.int .i64 n)) := cQ Tryz.underlying25
theorem bRi (n c : Nat) : bL Tryz.prog .len [25] [.v (.slice none n c)] = some (.v (.int .i64 n)) := cP Tryz.underlying25
attribute [go_sem] bS2 bQi bRi
theorem bR2 (xs : List AV) (n : Nat) (f : Bool) : bL Tryz.prog .len [27] [.sl xs n f] = some (.v (.int .i64 n)) := dD Tryz.underlying27
theorem bS0 (j o n : Nat) : bL Tryz.prog .len [27] [.own j o n] = some (.v (.int .i64 n)) := cQ Tryz.underlying27
theorem bSb (n c : Nat) : bL Tryz.prog .len [27] [.v (.slice none n c)] = some (.v (.int .i64 n)) := cP Tryz.underlying27
attribute [go_sem] bR2 bS0 bSb
theorem bSy (xs : List AV) (n : Nat) (f : Bool) : bL Tryz.prog .len [28] [.sl xs n f] = some (.v (.int .i64 n)) := dD Tryz.underlying28
theorem bR8 (j o n : Nat) : bL Tryz.prog .len [28] [.own j o n] = some (.v (.int .i64 n)) := cQ Tryz.underlying28
theorem bSe (n c : Nat) : bL Tryz.prog .len [28] [.v (.slice none n c)] = some (.v (.int .i64 n)) := cP Tryz.underlying28
attribute [go_sem] bSy bR8 bSe
theorem bPi (xs : List AV) (n : Nat) (f : Bool) : bL Tryz.prog .len [31] [.sl xs n f] = some (.v (.int .i64 n)) := dD Tryz.underlying31
theorem bRr (j o n : Nat) : bL Tryz.prog .len [31] [.own j o n] = some (.v (.int .i64 n)) := cQ Tryz.underlying31
theorem bQ6 (n c : Nat) : bL Tryz.prog .len [31] [.v (.slice none n c)] = some (.v (.int .i64 n)) := cP Tryz.underlying31
attribute [go_sem] bPi bRr bQ6
theorem bQr (H : aH) (ρ : Operand → AV) (x : Operand) : bE Tryz.prog H ρ (.makeInterface 36 x) = some (.ifc 36 (ρ x)) := by simp only [bE, Tryz.underlying36]
attribute [go_sem] bQr
theorem bR7 (xs : List AV) (n : Nat) (f : Bool) : bL Tryz.prog .len [40] [.sl xs n f] = some (.v (.int .i64 n)) := dD Tryz.underlying40
theorem bR3 (j o n : Nat) : bL Tryz.prog .len [40] [.own j o n] = some (.v (.int .i64 n)) := cQ Tryz.underlying40
theorem bS3 (n c : Nat) : bL Tryz.prog .len [40] [.v (.slice none n c)] = some (.v (.int .i64 n)) := cP Tryz.underlying40
attribute [go_sem] bR7 bR3 bS3
theorem bQ4 (H : aH) (ρ : Operand → AV) (x : Operand) : bE Tryz.prog H ρ (.makeInterface 40 x) = some (.ifc 40 (ρ x)) := by simp only [bE, Tryz.underlying40]
attribute [go_sem] bQ4
theorem bT4 (xs : List AV) (n : Nat) (f : Bool) : bL Tryz.prog .len [54] [.sl xs n f] = some (.v (.int .i64 n)) := dD Tryz.underlying54
theorem bPy (j o n : Nat) : bL Tryz.prog .len [54] [.own j o n] = some (.v (.int .i64 n)) := cQ Tryz.underlying54
theorem bS8 (n c : Nat) : bL Tryz.prog .len [54] [.v (.slice none n c)] = some (.v (.int .i64 n)) := cP Tryz.underlying54
attribute [go_sem] bT4 bPy bS8
theorem bMu (xs : List AV) (n : Nat) (f : Bool) : bL Tryz.prog .len [112] [.sl xs n f] = some (.v (.int .i64 n)) := dD Tryz.underlying112
theorem bMd (j o n : Nat) : bL Tryz.prog .len [112] [.own j o n] = some (.v (.int .i64 n)) := cQ Tryz.underlying112
theorem bLo (n c : Nat) : bL Tryz.prog .len [112] [.v (.slice none n c)] = some (.v (.int .i64 n)) := cP Tryz.underlying112
attribute [go_sem] bMu bMd bLo
theorem bMi (xs : List AV) (n : Nat) (f : Bool) : bL Tryz.prog .len [172] [.sl xs n f] = some (.v (.int .i64 n)) := dD Tryz.underlying172
theorem bNr (j o n : Nat) : bL Tryz.prog .len [172] [.own j o n] = some (.v (.int .i64 n)) := cQ Tryz.underlying172
theorem bLg (n c : Nat) : bL Tryz.prog .len [172] [.v (.slice none n c)] = some (.v (.int .i64 n)) := cP Tryz.underlying172
attribute [go_sem] bMi bNr bLg
theorem bL9 (xs : List AV) (n : Nat) (f : Bool) : bL Tryz.prog .len [204] [.sl xs n f] = some (.v (.int .i64 n)) := dD Tryz.underlying204
theorem bKg (j o n : Nat) : bL Tryz.prog .len [204] [.own j o n] = some (.v (.int .i64 n)) := cQ Tryz.underlying204
theorem bMv (n c : Nat) : bL Tryz.prog .len [204] [.v (.slice none n c)] = some (.v (.int .i64 n)) := cP Tryz.underlying204
attribute [go_sem] bL9 bKg bMv
theorem bMm (xs : List AV) (n : Nat) (f : Bool) : bL Tryz.prog .len [225] [.sl xs n f] = some (.v (.int .i64 n)) := dD Tryz.underlying225
theorem bLv (j o n : Nat) : bL Tryz.prog .len [225] [.own j o n] = some (.v (.int .i64 n)) := cQ Tryz.underlying225
theorem bJf (n c : Nat) : bL Tryz.prog .len [225] [.v (.slice none n c)] = some (.v (.int .i64 n)) := cP Tryz.underlying225
attribute [go_sem] bMm bLv bJf
theorem bJv (xs : List AV) (n : Nat) (f : Bool) : bL Tryz.prog .len [263] [.sl xs n f] = some (.v (.int .i64 n)) := dD Tryz.underlying263
theorem bK9 (j o n : Nat) : bL Tryz.prog .len [263] [.own j o n] = some (.v (.int .i64 n)) := cQ Tryz.underlying263
theorem bO5 (n c : Nat) : bL Tryz.prog .len [263] [.v (.slice none n c)] = some (.v (.int .i64 n)) := cP Tryz.underlying263
attribute [go_sem] bJv bK9 bO5
theorem bO6 (xs : List AV) (n : Nat) (f : Bool) : bL Tryz.prog .len [265] [.sl xs n f] = some (.v (.int .i64 n)) := dD Tryz.underlying265
theorem bNy (j o n : Nat) : bL Tryz.prog .len [265] [.own j o n] = some (.v (.int .i64 n)) := cQ Tryz.underlying265
theorem bNb (n c : Nat) : bL Tryz.prog .len [265] [.v (.slice none n c)] = some (.v (.int .i64 n)) := cP Tryz.underlying265
attribute [go_sem] bO6 bNy bNb
attribute [go_sem] Tryz.underlying0 sz0 Tryz.underlying1 sz1 Tryz.underlying2 sz2 Tryz.underlying3 sz3 Tryz.underlying4 sz4 Tryz.underlying5 sz5 Tryz.underlying6 sz6 Tryz.underlying7 sz7 Tryz.underlying8 sz8 Tryz.underlying9 sz9 Tryz.underlying10 bSh Tryz.underlying11 bT9 Tryz.underlying12 bS5 Tryz.underlying13 bRu Tryz.underlying14 bT2 Tryz.underlying15 bT1 Tryz.underlying16 bPk Tryz.underlying17 bPx Tryz.underlying18 bRp Tryz.underlying19 bT0 Tryz.underlying20 bS1 Tryz.underlying21 bQv Tryz.underlying22 bQn Tryz.underlying23 bQp Tryz.underlying24 bQ3 Tryz.underlying25 bQu Tryz.underlying26 bRs Tryz.underlying27 bQ8 Tryz.underlying28 bIc Tryz.underlying29 bQt Tryz.underlying30 bQc Tryz.underlying31 bSx Tryz.underlying32 bRt Tryz.underlying33 bPr Tryz.underlying34 bS7 Tryz.underlying35 bS4 Tryz.underlying36 bSm Tryz.underlying37 bRe Tryz.underlying38 bRm Tryz.underlying39 bQl Tryz.underlying40 bQo Tryz.underlying41 bSf Tryz.underlying42 bRg Tryz.underlying43 aF9 Tryz.underlying44 bRq Tryz.underlying45 bSo Tryz.underlying46 bQj Tryz.underlying47 bSp Tryz.underlying48 bRy Tryz.underlying49 bQx Tryz.underlying50 bS6 Tryz.underlying51 bT7 Tryz.underlying52 bQ2 Tryz.underlying53 bSd Tryz.underlying54 bS9 Tryz.underlying55 bRn Tryz.underlying56 bSl Tryz.underlying57 bPn Tryz.underlying58 bR5 Tryz.underlying59 bR1 Tryz.underlying60 bSq Tryz.underlying61 bQ9 Tryz.underlying62 bPj Tryz.underlying63 bSz Tryz.underlying64 bPw Tryz.underlying65 bQs Tryz.underlying66 bQ7 Tryz.underlying67 bSu Tryz.underlying68 bSv Tryz.underlying69 aOi Tryz.underlying70 bPu Tryz.underlying71 bRw Tryz.underlying72 bQm Tryz.underlying73 bPl Tryz.underlying74 bQb Tryz.underlying75 bQy Tryz.underlying76 bRa Tryz.underlying77 bRd Tryz.underlying78 bPq Tryz.underlying79 bRj Tryz.underlying80 bRo Tryz.underlying81 bSn Tryz.underlying82 bRl Tryz.underlying83 bSk Tryz.underlying84 bQh Tryz.underlying85 bRv Tryz.underlying86 bSa Tryz.underlying87 bQk Tryz.underlying88 bSi Tryz.underlying89 bRf Tryz.underlying90 bQd Tryz.underlying91 bR0 Tryz.underlying92 bQf Tryz.underlying93 bQg Tryz.underlying94 bQw Tryz.underlying95 bSr Tryz.underlying96 bR6 Tryz.underlying97 bPm Tryz.underlying98 bRz Tryz.underlying99 bRh Tryz.underlying100 bL7 Tryz.underlying101 bNe Tryz.underlying102 aC1 Tryz.underlying103 bJn Tryz.underlying104 bDn Tryz.underlying105 bLh Tryz.underlying106 bP9 Tryz.underlying107 bP6 Tryz.underlying108 bOe Tryz.underlying109 bNw Tryz.underlying110 bP1 Tryz.underlying111 bPf Tryz.underlying112 aIo Tryz.underlying113 bN2 Tryz.underlying114 bKs Tryz.underlying115 bM4 Tryz.underlying116 bPe Tryz.underlying117 bPd Tryz.underlying118 bN6 Tryz.underlying119 bL1 Tryz.underlying120 bBn Tryz.underlying121 bO2 Tryz.underlying122 bNi Tryz.underlying123 bNd Tryz.underlying124 bOp Tryz.underlying125 bOb Tryz.underlying126 bLk Tryz.underlying127 bMt Tryz.underlying128 bNk Tryz.underlying129 bLx Tryz.underlying130 bKe Tryz.underlying131 bO3 Tryz.underlying132 bMl Tryz.underlying133 bO7 Tryz.underlying134 bMp Tryz.underlying135 bLq Tryz.underlying136 bL5 Tryz.underlying137 bM0 Tryz.underlying138 bLb Tryz.underlying139 bMx Tryz.underlying140 bKp Tryz.underlying141 bKf Tryz.underlying142 bLc Tryz.underlying143 bNu Tryz.underlying144 bM5 Tryz.underlying145 bP3 Tryz.underlying146 bJu Tryz.underlying147 bKj Tryz.underlying148 bKa Tryz.underlying149 bO9 Tryz.underlying150 bLe Tryz.underlying151 bO4 Tryz.underlying152 bKw Tryz.underlying153 bMj Tryz.underlying154 bJp Tryz.underlying155 bLn Tryz.underlying156 bKk Tryz.underlying157 bLr Tryz.underlying158 aW7 Tryz.underlying159 bMq Tryz.underlying160 bJz Tryz.underlying161 bM1 Tryz.underlying162 bOn Tryz.underlying163 bMk Tryz.underlying164 bNh Tryz.underlying165 bOk Tryz.underlying166 bL2 Tryz.underlying167 bK1 Tryz.underlying168 bOh Tryz.underlying169 bJw Tryz.underlying170 bMe Tryz.underlying171 bMh Tryz.underlying172 bOj Tryz.underlying173 bL8 Tryz.underlying174 bKy Tryz.underlying175 bJj Tryz.underlying176 bLz Tryz.underlying177 bMz Tryz.underlying178 bKo Tryz.underlying179 bNj Tryz.underlying180 bNf Tryz.underlying181 bJi Tryz.underlying182 bOf Tryz.underlying183 bPh Tryz.underlying184 bK5 Tryz.underlying185 bJs Tryz.underlying186 bN1 Tryz.underlying187 bLl Tryz.underlying188 bOv Tryz.underlying189 bOl Tryz.underlying190 bP4 Tryz.underlying191 bKm Tryz.underlying192 bM6 Tryz.underlying193 bMw Tryz.underlying194 bPc Tryz.underlying195 bM8 Tryz.underlying196 bKl Tryz.underlying197 bLp Tryz.underlying198 bNc Tryz.underlying199 bLu Tryz.underlying200 bJx Tryz.underlying201 bOs Tryz.underlying202 bKd Tryz.underlying203 bLw Tryz.underlying204 bOy Tryz.underlying205 bK0 Tryz.underlying206 bN7 Tryz.underlying207 bN4 Tryz.underlying208 bNg Tryz.underlying209 bOi Tryz.underlying210 bOu Tryz.underlying211 bLt Tryz.underlying212 bOm Tryz.underlying213 bP8 Tryz.underlying214 bNm Tryz.underlying215 bKz Tryz.underlying216 bK4 Tryz.underlying217 bLm Tryz.underlying218 bNo Tryz.underlying219 bO0 Tryz.underlying220 bM7 Tryz.underlying221 bKi Tryz.underlying222 bKc Tryz.underlying223 bMy Tryz.underlying224 bJt Tryz.underlying225 bMg Tryz.underlying226 bNx Tryz.underlying227 bJk Tryz.underlying228 bNq Tryz.underlying229 bOt Tryz.underlying242 bNt Tryz.underlying243 bN8 Tryz.underlying245 bJo Tryz.underlying253 bM3 Tryz.underlying254 bJm Tryz.underlying256 bN0 Tryz.underlying257 bJl Tryz.underlying263 bNp Tryz.underlying265 bLj Tryz.underlying267 bLy Tryz.underlying272 bNl Tryz.underlying273 bP5 Tryz.underlying274 bKt Tryz.underlying275 bM9 Tryz.underlying276 bOx Tryz.underlying277 bP2 Tryz.underlying278 bM2 Tryz.underlying279 bOo Tryz.underlying280 bOr Tryz.underlying281 bKh Tryz.underlying282 bK6 Tryz.underlying283 bMc Tryz.underlying284 bLa Tryz.underlying285 bJy Tryz.underlying286 bMa Tryz.underlying287 bOc
end Go.Proofs.YtkdohhmacfoolaaGreat
