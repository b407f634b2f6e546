/- Facts that the statement's proof is made of. No condition. -/
import Derived.Test.YtkdohhmacfoolaaGreatRows
import Derived.Test.YtkdohhmacfoolaaGreatNeAmB
set_option linter.unusedSimpArgs false
set_option linter.unusedVariables false
namespace Go.Proofs.YtkdohhmacfoolaaGreat
open Go Go.AM
theorem sz0 : aV Tryz.prog 0 = some 1 := by kernel_rfl
theorem sz1 : aV Tryz.prog 1 = some 1 := by kernel_rfl
theorem tb1 : Tryz.t1.bytes = 8 := rfl
theorem sz2 : aV Tryz.prog 2 = some 1 := by kernel_rfl
theorem sz3 : aV Tryz.prog 3 = some 1 := by kernel_rfl
theorem in3 : Tryz.prog.info? 3 = some Tryz.t3 := by kernel_rfl
theorem ts3 : Tryz.t3.size = 1 := rfl
theorem tb3 : Tryz.t3.bytes = 8 := rfl
theorem tz3 : Tryz.t3.zero = some (Value.int IntKind.i64 0) := rfl
theorem zc3 : zeroCells? Tryz.prog 3 = some [.v (Value.int IntKind.i64 0)] := by kernel_rfl
theorem sz4 : aV Tryz.prog 4 = some 1 := by kernel_rfl
theorem in4 : Tryz.prog.info? 4 = some Tryz.t4 := by kernel_rfl
theorem ts4 : Tryz.t4.size = 1 := rfl
theorem tb4 : Tryz.t4.bytes = 1 := rfl
theorem tz4 : Tryz.t4.zero = some (Value.bool false) := rfl
theorem zc4 : zeroCells? Tryz.prog 4 = some [.v (Value.bool false)] := by kernel_rfl
theorem sz5 : aV Tryz.prog 5 = some 1 := by kernel_rfl
theorem sz6 : aV Tryz.prog 6 = some 1 := by kernel_rfl
theorem sz7 : aV Tryz.prog 7 = some 4 := by kernel_rfl
theorem sz8 : aV Tryz.prog 8 = some 4 := by kernel_rfl
theorem sz9 : aV Tryz.prog 9 = some 1 := by kernel_rfl
theorem bVl : aV Tryz.prog 10 = some 1 := by kernel_rfl
theorem bU9 : aV Tryz.prog 11 = some 1 := by kernel_rfl
theorem bUj : aV Tryz.prog 12 = some 1 := by kernel_rfl
theorem bW3 : aV Tryz.prog 13 = some 2 := by kernel_rfl
theorem bWr : aV Tryz.prog 14 = some 2 := by kernel_rfl
theorem bXb : aV Tryz.prog 15 = some 1 := by kernel_rfl
theorem bXc : aV Tryz.prog 16 = some 1 := by kernel_rfl
theorem bUn : aV Tryz.prog 17 = some 1 := by kernel_rfl
theorem bX8 : aV Tryz.prog 18 = some 1 := by kernel_rfl
theorem bVn : aV Tryz.prog 19 = some 1 := by kernel_rfl
theorem bVu : aV Tryz.prog 20 = some 1 := by kernel_rfl
theorem bU1 : aV Tryz.prog 21 = some 1 := by kernel_rfl
theorem bUw : aV Tryz.prog 22 = some 3 := by kernel_rfl
theorem bUu : aV Tryz.prog 23 = some 3 := by kernel_rfl
theorem bWv : zeroCells? Tryz.prog 23 = some [.v (Value.int IntKind.i64 0), .v (Value.int IntKind.i64 0), .v (Value.int IntKind.i64 0)] := by kernel_rfl
theorem bUr : aV Tryz.prog 24 = some 1 := by kernel_rfl
theorem bIf : Tryz.prog.info? 24 = some Tryz.t24 := by kernel_rfl
theorem bU0 : Tryz.t24.size = 1 := rfl
theorem bS2 : Tryz.t24.bytes = 24 := rfl
theorem bJ4 : Tryz.t24.zero = some (Value.slice none 0 0) := rfl
theorem bW8 : aV Tryz.prog 25 = some 1 := by kernel_rfl
theorem bW7 : aV Tryz.prog 26 = some 1 := by kernel_rfl
theorem bWe : aV Tryz.prog 27 = some 1 := by kernel_rfl
theorem bN3 : aV Tryz.prog 28 = some 1 := by kernel_rfl
theorem bN8 : zeroCells? Tryz.prog 28 = some [.v (Value.slice none 0 0)] := by kernel_rfl
theorem bV5 : aV Tryz.prog 29 = some 5 := by kernel_rfl
theorem bWx : aV Tryz.prog 30 = some 5 := by kernel_rfl
theorem bUe : zeroCells? Tryz.prog 30 = some [.v (Value.int IntKind.i64 0), .v (Value.int IntKind.i64 0), .v (Value.int IntKind.i64 0), .v (Value.slice none 0 0), .v (Value.slice none 0 0)] := by kernel_rfl
theorem bU3 : aV Tryz.prog 31 = some 1 := by kernel_rfl
theorem bWp : aV Tryz.prog 32 = some 6 := by kernel_rfl
theorem bUc : aV Tryz.prog 33 = some 6 := by kernel_rfl
theorem bV9 : zeroCells? Tryz.prog 33 = some [.v (Value.int IntKind.i64 0), .v (Value.int IntKind.i64 0), .v (Value.int IntKind.i64 0), .v (Value.slice none 0 0), .v (Value.slice none 0 0), .v (Value.slice none 0 0)] := by kernel_rfl
theorem bV8 : aV Tryz.prog 34 = some 2 := by kernel_rfl
theorem bWt : aV Tryz.prog 35 = some 2 := by kernel_rfl
theorem bVs : zeroCells? Tryz.prog 35 = some [.v (Value.slice none 0 0), .v (Value.int IntKind.i64 0)] := by kernel_rfl
theorem bUp : aV Tryz.prog 36 = some 1 := by kernel_rfl
theorem aX5 : Tryz.prog.info? 36 = some Tryz.t36 := by kernel_rfl
theorem bXl : Tryz.t36.size = 1 := rfl
theorem bPu : Tryz.t36.bytes = 8 := rfl
theorem bW4 : Tryz.t36.zero = some (Value.int IntKind.i64 0) := rfl
theorem bUo : aV Tryz.prog 37 = some 1 := by kernel_rfl
theorem bX4 : aV Tryz.prog 38 = some 1 := by kernel_rfl
theorem bU4 : aV Tryz.prog 39 = some 1 := by kernel_rfl
theorem bVe : aV Tryz.prog 40 = some 1 := by kernel_rfl
theorem bSn : Tryz.prog.info? 40 = some Tryz.t40 := by kernel_rfl
theorem bVr : Tryz.t40.size = 1 := rfl
theorem bQc : Tryz.t40.bytes = 24 := rfl
theorem bS3 : Tryz.t40.zero = some (Value.slice none 0 0) := rfl
theorem bWo : aV Tryz.prog 41 = some 3 := by kernel_rfl
theorem bW5 : aV Tryz.prog 42 = some 3 := by kernel_rfl
theorem bX0 : zeroCells? Tryz.prog 42 = some [.v (Value.int IntKind.i64 0), .v (Value.slice none 0 0), .v (Value.slice none 0 0)] := by kernel_rfl
theorem aHh : aV Tryz.prog 43 = some 1 := by kernel_rfl
theorem bN5 : Tryz.prog.info? 43 = some Tryz.t43 := by kernel_rfl
theorem bNe : Tryz.t43.size = 1 := rfl
theorem bAf : Tryz.t43.bytes = 8 := rfl
theorem bN0 : Tryz.t43.zero = some (Value.int IntKind.u64 0) := rfl
theorem bG2 : zeroCells? Tryz.prog 43 = some [.v (Value.int IntKind.u64 0)] := by kernel_rfl
theorem bUx : aV Tryz.prog 44 = some 4 := by kernel_rfl
theorem bX6 : aV Tryz.prog 45 = some 4 := by kernel_rfl
theorem bUs : zeroCells? Tryz.prog 45 = some [.v (Value.int IntKind.i64 0), .v (Value.int IntKind.u64 0), .v (Value.int IntKind.u64 0), .v (Value.string { data := #[] })] := by kernel_rfl
theorem bUv : aV Tryz.prog 46 = some 1 := by kernel_rfl
theorem bXi : aV Tryz.prog 47 = some 1 := by kernel_rfl
theorem bWy : aV Tryz.prog 48 = some 1 := by kernel_rfl
theorem bUb : aV Tryz.prog 49 = some 1 := by kernel_rfl
theorem bWl : aV Tryz.prog 50 = some 1 := by kernel_rfl
theorem bWf : aV Tryz.prog 51 = some 1 := by kernel_rfl
theorem bXg : aV Tryz.prog 52 = some 1 := by kernel_rfl
theorem bVc : aV Tryz.prog 53 = some 1 := by kernel_rfl
theorem bWz : aV Tryz.prog 54 = some 1 := by kernel_rfl
theorem bWk : aV Tryz.prog 55 = some 6 := by kernel_rfl
theorem bVo : aV Tryz.prog 56 = some 6 := by kernel_rfl
theorem bXk : aV Tryz.prog 57 = some 1 := by kernel_rfl
theorem bWi : aV Tryz.prog 58 = some 1 := by kernel_rfl
theorem bUt : aV Tryz.prog 59 = some 1 := by kernel_rfl
theorem bXh : aV Tryz.prog 60 = some 2 := by kernel_rfl
theorem bVx : aV Tryz.prog 61 = some 1 := by kernel_rfl
theorem bVh : aV Tryz.prog 62 = some 1 := by kernel_rfl
theorem bWg : aV Tryz.prog 63 = some 1 := by kernel_rfl
theorem bWq : aV Tryz.prog 64 = some 1 := by kernel_rfl
theorem bUg : aV Tryz.prog 65 = some 1 := by kernel_rfl
theorem bWb : aV Tryz.prog 66 = some 1 := by kernel_rfl
theorem bU8 : aV Tryz.prog 67 = some 1 := by kernel_rfl
theorem bW1 : aV Tryz.prog 68 = some 1 := by kernel_rfl
theorem aS5 : aV Tryz.prog 69 = some 2 := by kernel_rfl
theorem bVm : Tryz.prog.info? 69 = some Tryz.t69 := by kernel_rfl
theorem bWd : Tryz.t69.size = 2 := rfl
theorem bO2 : Tryz.t69.bytes = 16 := rfl
theorem bWc : Tryz.t69.zero = some (Value.agg #[Value.int IntKind.u64 0, Value.int IntKind.u64 0]) := rfl
theorem bVv : zeroCells? Tryz.prog 69 = some [.v (Value.int IntKind.u64 0), .v (Value.int IntKind.u64 0)] := by kernel_rfl
theorem bXe : aV Tryz.prog 70 = some 1 := by kernel_rfl
theorem bUm : aV Tryz.prog 71 = some 1 := by kernel_rfl
theorem bUz : aV Tryz.prog 72 = some 1 := by kernel_rfl
theorem bX2 : aV Tryz.prog 73 = some 1 := by kernel_rfl
theorem bVy : aV Tryz.prog 74 = some 1 := by kernel_rfl
theorem bU2 : aV Tryz.prog 75 = some 1 := by kernel_rfl
theorem bWj : aV Tryz.prog 76 = some 1 := by kernel_rfl
theorem bWw : aV Tryz.prog 77 = some 1 := by kernel_rfl
theorem bUy : aV Tryz.prog 78 = some 1 := by kernel_rfl
theorem bV3 : aV Tryz.prog 79 = some 1 := by kernel_rfl
theorem bU5 : aV Tryz.prog 80 = some 1 := by kernel_rfl
theorem bV1 : aV Tryz.prog 81 = some 1 := by kernel_rfl
theorem bX5 : aV Tryz.prog 82 = some 1 := by kernel_rfl
theorem bXn : aV Tryz.prog 83 = some 1 := by kernel_rfl
theorem bUl : aV Tryz.prog 84 = some 1 := by kernel_rfl
theorem bXa : aV Tryz.prog 85 = some 1 := by kernel_rfl
theorem bVi : aV Tryz.prog 86 = some 1 := by kernel_rfl
theorem bXd : aV Tryz.prog 87 = some 1 := by kernel_rfl
theorem bVb : aV Tryz.prog 88 = some 1 := by kernel_rfl
theorem bW2 : aV Tryz.prog 89 = some 1 := by kernel_rfl
theorem bVa : aV Tryz.prog 90 = some 1 := by kernel_rfl
theorem bXj : aV Tryz.prog 91 = some 1 := by kernel_rfl
theorem bV0 : aV Tryz.prog 92 = some 1 := by kernel_rfl
theorem bX3 : aV Tryz.prog 93 = some 1 := by kernel_rfl
theorem bVz : aV Tryz.prog 94 = some 1 := by kernel_rfl
theorem bVt : aV Tryz.prog 95 = some 1 := by kernel_rfl
theorem bUi : aV Tryz.prog 96 = some 1 := by kernel_rfl
theorem bUk : aV Tryz.prog 97 = some 1 := by kernel_rfl
theorem bVf : aV Tryz.prog 98 = some 1 := by kernel_rfl
theorem bU6 : aV Tryz.prog 99 = some 1 := by kernel_rfl
theorem bRh : aV Tryz.prog 100 = some 1 := by kernel_rfl
theorem bPz : aV Tryz.prog 101 = some 3 := by kernel_rfl
theorem aDv : aV Tryz.prog 102 = some 3 := by kernel_rfl
theorem bA3 : Tryz.prog.info? 102 = some Tryz.t102 := by kernel_rfl
theorem aZp : Tryz.t102.size = 3 := rfl
theorem aK7 : Tryz.t102.bytes = 24 := rfl
theorem aZl : Tryz.t102.zero = some (Value.agg #[Value.int IntKind.i64 0, Value.int IntKind.i64 0, Value.int IntKind.i64 0]) := rfl
theorem aPa : zeroCells? Tryz.prog 102 = some [.v (Value.int IntKind.i64 0), .v (Value.int IntKind.i64 0), .v (Value.int IntKind.i64 0)] := by kernel_rfl
theorem bP7 : aV Tryz.prog 103 = some 2 := by kernel_rfl
theorem bGh : aV Tryz.prog 104 = some 2 := by kernel_rfl
theorem bFx : Tryz.prog.info? 104 = some Tryz.t104 := by kernel_rfl
theorem bFe : Tryz.t104.size = 2 := rfl
theorem aOy : Tryz.t104.bytes = 16 := rfl
theorem bHl : Tryz.t104.zero = some (Value.agg #[Value.bool false, Value.int IntKind.u64 0]) := rfl
theorem bEa : zeroCells? Tryz.prog 104 = some [.v (Value.bool false), .v (Value.int IntKind.u64 0)] := by kernel_rfl
theorem bSb : aV Tryz.prog 105 = some 1 := by kernel_rfl
theorem bRu : aV Tryz.prog 106 = some 1 := by kernel_rfl
theorem bRy : aV Tryz.prog 107 = some 1 := by kernel_rfl
theorem bSz : aV Tryz.prog 108 = some 1 := by kernel_rfl
theorem bRp : aV Tryz.prog 109 = some 1 := by kernel_rfl
theorem bQq : aV Tryz.prog 110 = some 1 := by kernel_rfl
theorem bOx : aV Tryz.prog 111 = some 1 := by kernel_rfl
theorem aJj : aV Tryz.prog 112 = some 1 := by kernel_rfl
theorem bSi : Tryz.prog.info? 112 = some Tryz.t112 := by kernel_rfl
theorem bSo : Tryz.t112.size = 1 := rfl
theorem bO5 : Tryz.t112.bytes = 24 := rfl
theorem bTr : zeroCells? Tryz.prog 112 = some [.v (Value.slice none 0 0)] := by kernel_rfl
theorem bSt : aV Tryz.prog 113 = some 1 := by kernel_rfl
theorem bR9 : aV Tryz.prog 114 = some 1 := by kernel_rfl
theorem bSa : aV Tryz.prog 115 = some 1 := by kernel_rfl
theorem bT1 : aV Tryz.prog 116 = some 1 := by kernel_rfl
theorem bRt : aV Tryz.prog 117 = some 1 := by kernel_rfl
theorem bQw : aV Tryz.prog 118 = some 1 := by kernel_rfl
theorem bP1 : aV Tryz.prog 119 = some 2 := by kernel_rfl
theorem bGp : aV Tryz.prog 120 = some 2 := by kernel_rfl
theorem bFk : Tryz.prog.info? 120 = some Tryz.t120 := by kernel_rfl
theorem bHu : Tryz.t120.size = 2 := rfl
theorem aPn : Tryz.t120.bytes = 16 := rfl
theorem bHd : Tryz.t120.zero = some (Value.agg #[Value.int IntKind.u64 0, Value.int IntKind.u64 0]) := rfl
theorem bHn : zeroCells? Tryz.prog 120 = some [.v (Value.int IntKind.u64 0), .v (Value.int IntKind.u64 0)] := by kernel_rfl
theorem bTo : aV Tryz.prog 121 = some 1 := by kernel_rfl
theorem bTy : aV Tryz.prog 122 = some 1 := by kernel_rfl
theorem bRd : aV Tryz.prog 123 = some 1 := by kernel_rfl
theorem bSe : aV Tryz.prog 124 = some 1 := by kernel_rfl
theorem bTf : aV Tryz.prog 125 = some 1 := by kernel_rfl
theorem bOq : aV Tryz.prog 126 = some 1 := by kernel_rfl
theorem bPd : aV Tryz.prog 127 = some 1 := by kernel_rfl
theorem bPs : aV Tryz.prog 128 = some 1 := by kernel_rfl
theorem bTc : aV Tryz.prog 129 = some 1 := by kernel_rfl
theorem bQ8 : aV Tryz.prog 130 = some 1 := by kernel_rfl
theorem bM0 : zeroCells? Tryz.prog 130 = some [.v (Value.pointer none)] := by kernel_rfl
theorem bPk : aV Tryz.prog 131 = some 1 := by kernel_rfl
theorem bPm : aV Tryz.prog 132 = some 1 := by kernel_rfl
theorem bOa : aV Tryz.prog 133 = some 1 := by kernel_rfl
theorem bSy : aV Tryz.prog 134 = some 1 := by kernel_rfl
theorem bO0 : aV Tryz.prog 135 = some 1 := by kernel_rfl
theorem bQ2 : aV Tryz.prog 136 = some 1 := by kernel_rfl
theorem bSx : aV Tryz.prog 137 = some 1 := by kernel_rfl
theorem bOd : aV Tryz.prog 138 = some 1 := by kernel_rfl
theorem bOy : aV Tryz.prog 139 = some 1 := by kernel_rfl
theorem bQh : aV Tryz.prog 140 = some 1 := by kernel_rfl
theorem bQn : aV Tryz.prog 141 = some 1 := by kernel_rfl
theorem bSj : aV Tryz.prog 142 = some 1 := by kernel_rfl
theorem bSp : aV Tryz.prog 143 = some 1 := by kernel_rfl
theorem bRo : aV Tryz.prog 144 = some 1 := by kernel_rfl
theorem bR7 : aV Tryz.prog 145 = some 1 := by kernel_rfl
theorem bQf : aV Tryz.prog 146 = some 1 := by kernel_rfl
theorem bOw : aV Tryz.prog 147 = some 1 := by kernel_rfl
theorem bQr : aV Tryz.prog 148 = some 1 := by kernel_rfl
theorem bOi : aV Tryz.prog 149 = some 1 := by kernel_rfl
theorem bRv : aV Tryz.prog 150 = some 1 := by kernel_rfl
theorem bOj : aV Tryz.prog 151 = some 2 := by kernel_rfl
theorem bO1 : aV Tryz.prog 152 = some 1 := by kernel_rfl
theorem bT5 : aV Tryz.prog 153 = some 1 := by kernel_rfl
theorem bS5 : aV Tryz.prog 154 = some 1 := by kernel_rfl
theorem bR0 : aV Tryz.prog 155 = some 1 := by kernel_rfl
theorem bR6 : aV Tryz.prog 156 = some 1 := by kernel_rfl
theorem bTt : aV Tryz.prog 157 = some 2 := by kernel_rfl
theorem aZm : aV Tryz.prog 158 = some 2 := by kernel_rfl
theorem bRq : zeroCells? Tryz.prog 158 = some [.v (Value.int IntKind.u64 0), .v (Value.int IntKind.i64 0)] := by kernel_rfl
theorem bOf : aV Tryz.prog 159 = some 1 := by kernel_rfl
theorem bPj : aV Tryz.prog 160 = some 1 := by kernel_rfl
theorem bOg : aV Tryz.prog 161 = some 1 := by kernel_rfl
theorem bR1 : aV Tryz.prog 162 = some 1 := by kernel_rfl
theorem bQm : aV Tryz.prog 163 = some 1 := by kernel_rfl
theorem bQ1 : aV Tryz.prog 164 = some 1 := by kernel_rfl
theorem bQp : aV Tryz.prog 165 = some 1 := by kernel_rfl
theorem bQb : aV Tryz.prog 166 = some 1 := by kernel_rfl
theorem bOe : aV Tryz.prog 167 = some 1 := by kernel_rfl
theorem bTp : aV Tryz.prog 168 = some 1 := by kernel_rfl
theorem bPi : aV Tryz.prog 169 = some 1 := by kernel_rfl
theorem bTv : aV Tryz.prog 170 = some 1 := by kernel_rfl
theorem bPp : aV Tryz.prog 171 = some 1 := by kernel_rfl
theorem bS1 : aV Tryz.prog 172 = some 1 := by kernel_rfl
theorem bP5 : aV Tryz.prog 173 = some 1 := by kernel_rfl
theorem bTl : aV Tryz.prog 174 = some 1 := by kernel_rfl
theorem bOu : aV Tryz.prog 175 = some 1 := by kernel_rfl
theorem bTx : aV Tryz.prog 176 = some 1 := by kernel_rfl
theorem bQd : aV Tryz.prog 177 = some 1 := by kernel_rfl
theorem bRl : aV Tryz.prog 178 = some 1 := by kernel_rfl
theorem bPt : aV Tryz.prog 179 = some 1 := by kernel_rfl
theorem bPc : aV Tryz.prog 180 = some 1 := by kernel_rfl
theorem bOp : aV Tryz.prog 181 = some 1 := by kernel_rfl
theorem bOv : aV Tryz.prog 182 = some 1 := by kernel_rfl
theorem bQo : aV Tryz.prog 183 = some 1 := by kernel_rfl
theorem bPw : aV Tryz.prog 184 = some 1 := by kernel_rfl
theorem bRg : aV Tryz.prog 185 = some 1 := by kernel_rfl
theorem bOo : aV Tryz.prog 186 = some 1 := by kernel_rfl
theorem bNw : aV Tryz.prog 187 = some 1 := by kernel_rfl
theorem bOn : aV Tryz.prog 188 = some 1 := by kernel_rfl
theorem bQ4 : aV Tryz.prog 189 = some 1 := by kernel_rfl
theorem bQl : aV Tryz.prog 190 = some 1 := by kernel_rfl
theorem bQi : aV Tryz.prog 191 = some 6 := by kernel_rfl
theorem bP2 : aV Tryz.prog 192 = some 6 := by kernel_rfl
theorem bT3 : zeroCells? Tryz.prog 192 = some [.v (Value.pointer none), .v (Value.pointer none), .v (Value.int IntKind.u64 0), .v (Value.int IntKind.i64 0), .v (Value.int IntKind.i64 0), .v (Value.int IntKind.i64 0)] := by kernel_rfl
theorem bOk : aV Tryz.prog 193 = some 1 := by kernel_rfl
theorem bPq : aV Tryz.prog 194 = some 1 := by kernel_rfl
theorem bRz : aV Tryz.prog 195 = some 1 := by kernel_rfl
theorem bPf : aV Tryz.prog 196 = some 1 := by kernel_rfl
theorem bRa : aV Tryz.prog 197 = some 1 := by kernel_rfl
theorem bOc : aV Tryz.prog 198 = some 1 := by kernel_rfl
theorem bTz : aV Tryz.prog 199 = some 1 := by kernel_rfl
theorem bQv : aV Tryz.prog 200 = some 1 := by kernel_rfl
theorem bPv : aV Tryz.prog 201 = some 1 := by kernel_rfl
theorem bPe : aV Tryz.prog 202 = some 1 := by kernel_rfl
theorem bQk : aV Tryz.prog 203 = some 1 := by kernel_rfl
theorem bQ5 : aV Tryz.prog 204 = some 1 := by kernel_rfl
theorem bOs : aV Tryz.prog 205 = some 1 := by kernel_rfl
theorem bS0 : aV Tryz.prog 206 = some 1 := by kernel_rfl
theorem bRj : aV Tryz.prog 207 = some 1 := by kernel_rfl
theorem bTg : aV Tryz.prog 208 = some 1 := by kernel_rfl
theorem bQ0 : aV Tryz.prog 209 = some 1 := by kernel_rfl
theorem bOm : aV Tryz.prog 210 = some 1 := by kernel_rfl
theorem bP8 : aV Tryz.prog 211 = some 1 := by kernel_rfl
theorem bR4 : aV Tryz.prog 212 = some 1 := by kernel_rfl
theorem bTd : aV Tryz.prog 213 = some 1 := by kernel_rfl
theorem bP9 : aV Tryz.prog 214 = some 1 := by kernel_rfl
theorem bQx : aV Tryz.prog 215 = some 1 := by kernel_rfl
theorem bSl : aV Tryz.prog 216 = some 1 := by kernel_rfl
theorem bQe : aV Tryz.prog 217 = some 1 := by kernel_rfl
theorem bO9 : aV Tryz.prog 218 = some 1 := by kernel_rfl
theorem bPy : aV Tryz.prog 219 = some 1 := by kernel_rfl
theorem bSw : aV Tryz.prog 220 = some 1 := by kernel_rfl
theorem bRn : aV Tryz.prog 221 = some 1 := by kernel_rfl
theorem bTj : aV Tryz.prog 222 = some 1 := by kernel_rfl
theorem bOz : aV Tryz.prog 223 = some 1 := by kernel_rfl
theorem bSg : aV Tryz.prog 224 = some 1 := by kernel_rfl
theorem bR5 : aV Tryz.prog 225 = some 1 := by kernel_rfl
theorem bQ9 : aV Tryz.prog 226 = some 1 := by kernel_rfl
theorem bRc : aV Tryz.prog 227 = some 1 := by kernel_rfl
theorem bTa : aV Tryz.prog 228 = some 1 := by kernel_rfl
theorem bPb : aV Tryz.prog 229 = some 1 := by kernel_rfl
theorem bT0 : aV Tryz.prog 242 = some 3 := by kernel_rfl
theorem bR2 : aV Tryz.prog 243 = some 3 := by kernel_rfl
theorem bO4 : zeroCells? Tryz.prog 243 = some [.v (Value.int IntKind.i64 0), .v (Value.int IntKind.i64 0), .v (Value.slice none 0 0)] := by kernel_rfl
theorem bRw : aV Tryz.prog 245 = some 1 := by kernel_rfl
theorem bTb : aV Tryz.prog 253 = some 1 := by kernel_rfl
theorem bTs : aV Tryz.prog 254 = some 1 := by kernel_rfl
theorem bRi : aV Tryz.prog 256 = some 1 := by kernel_rfl
theorem bR3 : aV Tryz.prog 257 = some 1 := by kernel_rfl
theorem bTe : aV Tryz.prog 263 = some 1 := by kernel_rfl
theorem bSc : aV Tryz.prog 265 = some 1 := by kernel_rfl
theorem bR8 : aV Tryz.prog 267 = some 1 := by kernel_rfl
theorem bO8 : aV Tryz.prog 272 = some 1 := by kernel_rfl
theorem bNv : aV Tryz.prog 273 = some 4 := by kernel_rfl
theorem bT2 : aV Tryz.prog 274 = some 4 := by kernel_rfl
theorem bT4 : aV Tryz.prog 275 = some 0 := by kernel_rfl
theorem bPg : aV Tryz.prog 276 = some 0 := by kernel_rfl
theorem bTq : aV Tryz.prog 277 = some 0 := by kernel_rfl
theorem bQt : aV Tryz.prog 278 = some 1 := by kernel_rfl
theorem bRr : aV Tryz.prog 279 = some 1 := by kernel_rfl
theorem bPl : aV Tryz.prog 280 = some 1 := by kernel_rfl
theorem bQy : aV Tryz.prog 281 = some 1 := by kernel_rfl
theorem bQs : aV Tryz.prog 282 = some 1 := by kernel_rfl
theorem bRf : aV Tryz.prog 283 = some 1 := by kernel_rfl
theorem bSh : aV Tryz.prog 284 = some 1 := by kernel_rfl
theorem bS6 : aV Tryz.prog 285 = some 11 := by kernel_rfl
theorem bPr : aV Tryz.prog 286 = some 11 := by kernel_rfl
theorem bOb : aV Tryz.prog 287 = some 1 := by kernel_rfl
abbrev FbP (k : Nat) : Prop := (Program.funcs Tryz.prog)[k]?.any (fun fn => fn.body.isSome && fn.name != "runtime.NumGoroutine") = true
theorem fbT {k : Nat} {f} (h : (Program.funcs Tryz.prog)[k]? = some f) (h' : (f.body.isSome && f.name != "runtime.NumGoroutine") = true) : FbP k := by
 show (Program.funcs Tryz.prog)[k]?.any _ = true
 rw [h]; exact h'
theorem bU7 : FbP 33 := fbT Tryz.func33 (by kernel_rfl)
theorem bVk : FbP 38 := fbT Tryz.func38 (by kernel_rfl)
theorem bUf : FbP 45 := fbT Tryz.func45 (by kernel_rfl)
theorem bUa : FbP 69 := fbT Tryz.func69 (by kernel_rfl)
theorem bOt : FbP 100 := fbT Tryz.func100 (by kernel_rfl)
theorem bLy : FbP 103 := fbT Tryz.func103 (by kernel_rfl)
theorem bSf : FbP 104 := fbT Tryz.func104 (by kernel_rfl)
theorem bSq : FbP 105 := fbT Tryz.func105 (by kernel_rfl)
theorem bQ7 : FbP 106 := fbT Tryz.func106 (by kernel_rfl)
theorem bT8 : FbP 112 := fbT Tryz.func112 (by kernel_rfl)
theorem bS4 : FbP 113 := fbT Tryz.func113 (by kernel_rfl)
theorem bLl : FbP 114 := fbT Tryz.func114 (by kernel_rfl)
theorem bLr : FbP 125 := fbT Tryz.func125 (by kernel_rfl)
theorem bG1 : FbP 127 := fbT Tryz.func127 (by kernel_rfl)
theorem bLx : FbP 128 := fbT Tryz.func128 (by kernel_rfl)
theorem bQa : FbP 129 := fbT Tryz.func129 (by kernel_rfl)
theorem bSr : FbP 130 := fbT Tryz.func130 (by kernel_rfl)
theorem bQz : FbP 131 := fbT Tryz.func131 (by kernel_rfl)
theorem bM1 : FbP 132 := fbT Tryz.func132 (by kernel_rfl)
theorem bPo : FbP 133 := fbT Tryz.func133 (by kernel_rfl)
theorem bLm : FbP 134 := fbT Tryz.func134 (by kernel_rfl)
theorem bNx : FbP 136 := fbT Tryz.func136 (by kernel_rfl)
theorem aYv : FbP 143 := fbT Tryz.func143 (by kernel_rfl)
theorem bM2 : FbP 144 := fbT Tryz.func144 (by kernel_rfl)
theorem bO3 : FbP 145 := fbT Tryz.func145 (by kernel_rfl)
theorem bPn : FbP 151 := fbT Tryz.func151 (by kernel_rfl)
theorem bNs : FbP 156 := fbT Tryz.func156 (by kernel_rfl)
theorem bPx : FbP 167 := fbT Tryz.func167 (by kernel_rfl)
theorem aZd : FbP 173 := fbT Tryz.func173 (by kernel_rfl)
theorem bM3 : FbP 174 := fbT Tryz.func174 (by kernel_rfl)
theorem bQ6 : FbP 192 := fbT Tryz.func192 (by kernel_rfl)
theorem bP6 : FbP 193 := fbT Tryz.func193 (by kernel_rfl)
theorem bTi : FbP 209 := fbT Tryz.func209 (by kernel_rfl)
theorem mix : Tryz.prog.follows .mixedOrders = true := by kernel_rfl
theorem mi3 (H : aJ) (ρ : Operand → AV) (x : Operand) : bE Tryz.prog H ρ (.makeInterface 3 x) = some (.ifc 3 (ρ x)) := by simp only [bE, Tryz.underlying3]
attribute [go_sem] mi3
theorem mi4 (H : aJ) (ρ : Operand → AV) (x : Operand) : bE Tryz.prog H ρ (.makeInterface 4 x) = some (.ifc 4 (ρ x)) := by simp only [bE, Tryz.underlying4]
attribute [go_sem] mi4
theorem ln9 (s : ByteArray) : bO Tryz.prog .len [9] [.v (.string s)] = some (.v (.int .i64 s.size)) := sD Tryz.underlying9
attribute [go_sem] ln9
theorem mi9 (H : aJ) (ρ : Operand → AV) (x : Operand) : bE Tryz.prog H ρ (.makeInterface 9 x) = some (.ifc 9 (ρ x)) := by simp only [bE, Tryz.underlying9]
attribute [go_sem] mi9
theorem bVw (s : ByteArray) : bO Tryz.prog .len [10] [.v (.string s)] = some (.v (.int .i64 s.size)) := sD Tryz.underlying10
attribute [go_sem] bVw
theorem bW9 (s : ByteArray) : bO Tryz.prog .len [11] [.v (.string s)] = some (.v (.int .i64 s.size)) := sD Tryz.underlying11
attribute [go_sem] bW9
theorem bUq (xs : List AV) (n : Nat) (f : Bool) : bO Tryz.prog .len [24] [.sl xs n f] = some (.v (.int .i64 n)) := dJ Tryz.underlying24
theorem bWs (j o n : Nat) : bO Tryz.prog .len [24] [.own j o n] = some (.v (.int .i64 n)) := cX Tryz.underlying24
theorem bXm (n c : Nat) : bO Tryz.prog .len [24] [.v (.slice none n c)] = some (.v (.int .i64 n)) := cY Tryz.underlying24
attribute [go_sem] bUq bWs bXm
theorem bVd (H : aJ) (ρ : Operand → AV) (x : Operand) : bE Tryz.prog H ρ (.makeInterface 24 x) = some (.ifc 24 (ρ x)) := by simp only [bE, Tryz.underlying24]
attribute [go_sem] bVd
theorem bX1 (xs : List AV) (n : Nat) (f : Bool) : bO Tryz.prog .len [25] [.sl xs n f] = some (.v (.int .i64 n)) := dJ Tryz.underlying25
theorem bX9 (j o n : Nat) : bO Tryz.prog .len [25] [.own j o n] = some (.v (.int .i64 n)) := cX Tryz.underlying25
theorem bXp (n c : Nat) : bO Tryz.prog .len [25] [.v (.slice none n c)] = some (.v (.int .i64 n)) := cY Tryz.underlying25
attribute [go_sem] bX1 bX9 bXp
theorem bXq (xs : List AV) (n : Nat) (f : Bool) : bO Tryz.prog .len [27] [.sl xs n f] = some (.v (.int .i64 n)) := dJ Tryz.underlying27
theorem bWa (j o n : Nat) : bO Tryz.prog .len [27] [.own j o n] = some (.v (.int .i64 n)) := cX Tryz.underlying27
theorem bWh (n c : Nat) : bO Tryz.prog .len [27] [.v (.slice none n c)] = some (.v (.int .i64 n)) := cY Tryz.underlying27
attribute [go_sem] bXq bWa bWh
theorem bW0 (xs : List AV) (n : Nat) (f : Bool) : bO Tryz.prog .len [28] [.sl xs n f] = some (.v (.int .i64 n)) := dJ Tryz.underlying28
theorem bV7 (j o n : Nat) : bO Tryz.prog .len [28] [.own j o n] = some (.v (.int .i64 n)) := cX Tryz.underlying28
theorem bV2 (n c : Nat) : bO Tryz.prog .len [28] [.v (.slice none n c)] = some (.v (.int .i64 n)) := cY Tryz.underlying28
attribute [go_sem] bW0 bV7 bV2
theorem bWm (xs : List AV) (n : Nat) (f : Bool) : bO Tryz.prog .len [31] [.sl xs n f] = some (.v (.int .i64 n)) := dJ Tryz.underlying31
theorem bWn (j o n : Nat) : bO Tryz.prog .len [31] [.own j o n] = some (.v (.int .i64 n)) := cX Tryz.underlying31
theorem bVj (n c : Nat) : bO Tryz.prog .len [31] [.v (.slice none n c)] = some (.v (.int .i64 n)) := cY Tryz.underlying31
attribute [go_sem] bWm bWn bVj
theorem bVq (H : aJ) (ρ : Operand → AV) (x : Operand) : bE Tryz.prog H ρ (.makeInterface 36 x) = some (.ifc 36 (ρ x)) := by simp only [bE, Tryz.underlying36]
attribute [go_sem] bVq
theorem bVg (xs : List AV) (n : Nat) (f : Bool) : bO Tryz.prog .len [40] [.sl xs n f] = some (.v (.int .i64 n)) := dJ Tryz.underlying40
theorem bUh (j o n : Nat) : bO Tryz.prog .len [40] [.own j o n] = some (.v (.int .i64 n)) := cX Tryz.underlying40
theorem bV4 (n c : Nat) : bO Tryz.prog .len [40] [.v (.slice none n c)] = some (.v (.int .i64 n)) := cY Tryz.underlying40
attribute [go_sem] bVg bUh bV4
theorem bXo (H : aJ) (ρ : Operand → AV) (x : Operand) : bE Tryz.prog H ρ (.makeInterface 40 x) = some (.ifc 40 (ρ x)) := by simp only [bE, Tryz.underlying40]
attribute [go_sem] bXo
theorem bXf (xs : List AV) (n : Nat) (f : Bool) : bO Tryz.prog .len [54] [.sl xs n f] = some (.v (.int .i64 n)) := dJ Tryz.underlying54
theorem bUd (j o n : Nat) : bO Tryz.prog .len [54] [.own j o n] = some (.v (.int .i64 n)) := cX Tryz.underlying54
theorem bW6 (n c : Nat) : bO Tryz.prog .len [54] [.v (.slice none n c)] = some (.v (.int .i64 n)) := cY Tryz.underlying54
attribute [go_sem] bXf bUd bW6
theorem bRs (xs : List AV) (n : Nat) (f : Bool) : bO Tryz.prog .len [112] [.sl xs n f] = some (.v (.int .i64 n)) := dJ Tryz.underlying112
theorem bQ3 (j o n : Nat) : bO Tryz.prog .len [112] [.own j o n] = some (.v (.int .i64 n)) := cX Tryz.underlying112
theorem bS7 (n c : Nat) : bO Tryz.prog .len [112] [.v (.slice none n c)] = some (.v (.int .i64 n)) := cY Tryz.underlying112
attribute [go_sem] bRs bQ3 bS7
theorem bNz (xs : List AV) (n : Nat) (f : Bool) : bO Tryz.prog .len [172] [.sl xs n f] = some (.v (.int .i64 n)) := dJ Tryz.underlying172
theorem bS9 (j o n : Nat) : bO Tryz.prog .len [172] [.own j o n] = some (.v (.int .i64 n)) := cX Tryz.underlying172
theorem bSk (n c : Nat) : bO Tryz.prog .len [172] [.v (.slice none n c)] = some (.v (.int .i64 n)) := cY Tryz.underlying172
attribute [go_sem] bNz bS9 bSk
theorem bQu (xs : List AV) (n : Nat) (f : Bool) : bO Tryz.prog .len [204] [.sl xs n f] = some (.v (.int .i64 n)) := dJ Tryz.underlying204
theorem bO6 (j o n : Nat) : bO Tryz.prog .len [204] [.own j o n] = some (.v (.int .i64 n)) := cX Tryz.underlying204
theorem bP3 (n c : Nat) : bO Tryz.prog .len [204] [.v (.slice none n c)] = some (.v (.int .i64 n)) := cY Tryz.underlying204
attribute [go_sem] bQu bO6 bP3
theorem bNt (xs : List AV) (n : Nat) (f : Bool) : bO Tryz.prog .len [225] [.sl xs n f] = some (.v (.int .i64 n)) := dJ Tryz.underlying225
theorem bRm (j o n : Nat) : bO Tryz.prog .len [225] [.own j o n] = some (.v (.int .i64 n)) := cX Tryz.underlying225
theorem bSd (n c : Nat) : bO Tryz.prog .len [225] [.v (.slice none n c)] = some (.v (.int .i64 n)) := cY Tryz.underlying225
attribute [go_sem] bNt bRm bSd
theorem bT7 (xs : List AV) (n : Nat) (f : Bool) : bO Tryz.prog .len [263] [.sl xs n f] = some (.v (.int .i64 n)) := dJ Tryz.underlying263
theorem bNy (j o n : Nat) : bO Tryz.prog .len [263] [.own j o n] = some (.v (.int .i64 n)) := cX Tryz.underlying263
theorem bOl (n c : Nat) : bO Tryz.prog .len [263] [.v (.slice none n c)] = some (.v (.int .i64 n)) := cY Tryz.underlying263
attribute [go_sem] bT7 bNy bOl
theorem bO7 (xs : List AV) (n : Nat) (f : Bool) : bO Tryz.prog .len [265] [.sl xs n f] = some (.v (.int .i64 n)) := dJ Tryz.underlying265
theorem bRx (j o n : Nat) : bO Tryz.prog .len [265] [.own j o n] = some (.v (.int .i64 n)) := cX Tryz.underlying265
theorem bPh (n c : Nat) : bO Tryz.prog .len [265] [.v (.slice none n c)] = some (.v (.int .i64 n)) := cY Tryz.underlying265
attribute [go_sem] bO7 bRx bPh
attribute [go_sem] Tryz.underlying0 sz0 Tryz.underlying1 sz1 Tryz.underlying2 sz2 Tryz.underlying3 sz3 Tryz.underlying4 sz4 Tryz.underlying5 sz5 Tryz.underlying6 sz6 Tryz.underlying7 sz7 Tryz.underlying8 sz8 Tryz.underlying9 sz9 Tryz.underlying10 bVl Tryz.underlying11 bU9 Tryz.underlying12 bUj Tryz.underlying13 bW3 Tryz.underlying14 bWr Tryz.underlying15 bXb Tryz.underlying16 bXc Tryz.underlying17 bUn Tryz.underlying18 bX8 Tryz.underlying19 bVn Tryz.underlying20 bVu Tryz.underlying21 bU1 Tryz.underlying22 bUw Tryz.underlying23 bUu Tryz.underlying24 bUr Tryz.underlying25 bW8 Tryz.underlying26 bW7 Tryz.underlying27 bWe Tryz.underlying28 bN3 Tryz.underlying29 bV5 Tryz.underlying30 bWx Tryz.underlying31 bU3 Tryz.underlying32 bWp Tryz.underlying33 bUc Tryz.underlying34 bV8 Tryz.underlying35 bWt Tryz.underlying36 bUp Tryz.underlying37 bUo Tryz.underlying38 bX4 Tryz.underlying39 bU4 Tryz.underlying40 bVe Tryz.underlying41 bWo Tryz.underlying42 bW5 Tryz.underlying43 aHh Tryz.underlying44 bUx Tryz.underlying45 bX6 Tryz.underlying46 bUv Tryz.underlying47 bXi Tryz.underlying48 bWy Tryz.underlying49 bUb Tryz.underlying50 bWl Tryz.underlying51 bWf Tryz.underlying52 bXg Tryz.underlying53 bVc Tryz.underlying54 bWz Tryz.underlying55 bWk Tryz.underlying56 bVo Tryz.underlying57 bXk Tryz.underlying58 bWi Tryz.underlying59 bUt Tryz.underlying60 bXh Tryz.underlying61 bVx Tryz.underlying62 bVh Tryz.underlying63 bWg Tryz.underlying64 bWq Tryz.underlying65 bUg Tryz.underlying66 bWb Tryz.underlying67 bU8 Tryz.underlying68 bW1 Tryz.underlying69 aS5 Tryz.underlying70 bXe Tryz.underlying71 bUm Tryz.underlying72 bUz Tryz.underlying73 bX2 Tryz.underlying74 bVy Tryz.underlying75 bU2 Tryz.underlying76 bWj Tryz.underlying77 bWw Tryz.underlying78 bUy Tryz.underlying79 bV3 Tryz.underlying80 bU5 Tryz.underlying81 bV1 Tryz.underlying82 bX5 Tryz.underlying83 bXn Tryz.underlying84 bUl Tryz.underlying85 bXa Tryz.underlying86 bVi Tryz.underlying87 bXd Tryz.underlying88 bVb Tryz.underlying89 bW2 Tryz.underlying90 bVa Tryz.underlying91 bXj Tryz.underlying92 bV0 Tryz.underlying93 bX3 Tryz.underlying94 bVz Tryz.underlying95 bVt Tryz.underlying96 bUi Tryz.underlying97 bUk Tryz.underlying98 bVf Tryz.underlying99 bU6 Tryz.underlying100 bRh Tryz.underlying101 bPz Tryz.underlying102 aDv Tryz.underlying103 bP7 Tryz.underlying104 bGh Tryz.underlying105 bSb Tryz.underlying106 bRu Tryz.underlying107 bRy Tryz.underlying108 bSz Tryz.underlying109 bRp Tryz.underlying110 bQq Tryz.underlying111 bOx Tryz.underlying112 aJj Tryz.underlying113 bSt Tryz.underlying114 bR9 Tryz.underlying115 bSa Tryz.underlying116 bT1 Tryz.underlying117 bRt Tryz.underlying118 bQw Tryz.underlying119 bP1 Tryz.underlying120 bGp Tryz.underlying121 bTo Tryz.underlying122 bTy Tryz.underlying123 bRd Tryz.underlying124 bSe Tryz.underlying125 bTf Tryz.underlying126 bOq Tryz.underlying127 bPd Tryz.underlying128 bPs Tryz.underlying129 bTc Tryz.underlying130 bQ8 Tryz.underlying131 bPk Tryz.underlying132 bPm Tryz.underlying133 bOa Tryz.underlying134 bSy Tryz.underlying135 bO0 Tryz.underlying136 bQ2 Tryz.underlying137 bSx Tryz.underlying138 bOd Tryz.underlying139 bOy Tryz.underlying140 bQh Tryz.underlying141 bQn Tryz.underlying142 bSj Tryz.underlying143 bSp Tryz.underlying144 bRo Tryz.underlying145 bR7 Tryz.underlying146 bQf Tryz.underlying147 bOw Tryz.underlying148 bQr Tryz.underlying149 bOi Tryz.underlying150 bRv Tryz.underlying151 bOj Tryz.underlying152 bO1 Tryz.underlying153 bT5 Tryz.underlying154 bS5 Tryz.underlying155 bR0 Tryz.underlying156 bR6 Tryz.underlying157 bTt Tryz.underlying158 aZm Tryz.underlying159 bOf Tryz.underlying160 bPj Tryz.underlying161 bOg Tryz.underlying162 bR1 Tryz.underlying163 bQm Tryz.underlying164 bQ1 Tryz.underlying165 bQp Tryz.underlying166 bQb Tryz.underlying167 bOe Tryz.underlying168 bTp Tryz.underlying169 bPi Tryz.underlying170 bTv Tryz.underlying171 bPp Tryz.underlying172 bS1 Tryz.underlying173 bP5 Tryz.underlying174 bTl Tryz.underlying175 bOu Tryz.underlying176 bTx Tryz.underlying177 bQd Tryz.underlying178 bRl Tryz.underlying179 bPt Tryz.underlying180 bPc Tryz.underlying181 bOp Tryz.underlying182 bOv Tryz.underlying183 bQo Tryz.underlying184 bPw Tryz.underlying185 bRg Tryz.underlying186 bOo Tryz.underlying187 bNw Tryz.underlying188 bOn Tryz.underlying189 bQ4 Tryz.underlying190 bQl Tryz.underlying191 bQi Tryz.underlying192 bP2 Tryz.underlying193 bOk Tryz.underlying194 bPq Tryz.underlying195 bRz Tryz.underlying196 bPf Tryz.underlying197 bRa Tryz.underlying198 bOc Tryz.underlying199 bTz Tryz.underlying200 bQv Tryz.underlying201 bPv Tryz.underlying202 bPe Tryz.underlying203 bQk Tryz.underlying204 bQ5 Tryz.underlying205 bOs Tryz.underlying206 bS0 Tryz.underlying207 bRj Tryz.underlying208 bTg Tryz.underlying209 bQ0 Tryz.underlying210 bOm Tryz.underlying211 bP8 Tryz.underlying212 bR4 Tryz.underlying213 bTd Tryz.underlying214 bP9 Tryz.underlying215 bQx Tryz.underlying216 bSl Tryz.underlying217 bQe Tryz.underlying218 bO9 Tryz.underlying219 bPy Tryz.underlying220 bSw Tryz.underlying221 bRn Tryz.underlying222 bTj Tryz.underlying223 bOz Tryz.underlying224 bSg Tryz.underlying225 bR5 Tryz.underlying226 bQ9 Tryz.underlying227 bRc Tryz.underlying228 bTa Tryz.underlying229 bPb Tryz.underlying242 bT0 Tryz.underlying243 bR2 Tryz.underlying245 bRw Tryz.underlying253 bTb Tryz.underlying254 bTs Tryz.underlying256 bRi Tryz.underlying257 bR3 Tryz.underlying263 bTe Tryz.underlying265 bSc Tryz.underlying267 bR8 Tryz.underlying272 bO8 Tryz.underlying273 bNv Tryz.underlying274 bT2 Tryz.underlying275 bT4 Tryz.underlying276 bPg Tryz.underlying277 bTq Tryz.underlying278 bQt Tryz.underlying279 bRr Tryz.underlying280 bPl Tryz.underlying281 bQy Tryz.underlying282 bQs Tryz.underlying283 bRf Tryz.underlying284 bSh Tryz.underlying285 bS6 Tryz.underlying286 bPr Tryz.underlying287 bOb
end Go.Proofs.YtkdohhmacfoolaaGreat
