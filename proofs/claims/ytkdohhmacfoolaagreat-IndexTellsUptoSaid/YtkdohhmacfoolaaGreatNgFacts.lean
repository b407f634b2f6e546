/- Facts. No condition. -/
import Derived.Test.YtkdohhmacfoolaaGreatRows
import Derived.Test.YtkdohhmacfoolaaGreatNgAmB
set_option linter.unusedSimpArgs false
set_option linter.unusedVariables false
namespace Go.Proofs.YtkdohhmacfoolaaGreat
open Go.Proofs.Tryz Go Go.AM
theorem sz0 : aZ prog 0 = some 1 := by kernel_rfl
theorem sz1 : aZ prog 1 = some 1 := by kernel_rfl
theorem tb1 : Tryz.t1.bytes = 8 := rfl
theorem sz2 : aZ prog 2 = some 1 := by kernel_rfl
theorem sz3 : aZ prog 3 = some 1 := by kernel_rfl
theorem in3 : Tryz.prog.info? 3 = some Tryz.t3 := by kernel_rfl
theorem ts3 : Tryz.t3.size = 1 := rfl
theorem tb3 : Tryz.t3.bytes = 8 := rfl
theorem tz3 : Tryz.t3.zero = some (Value.int IntKind.i64 0) := rfl
theorem zc3 : zeroCells? prog 3 = some [.v (Value.int IntKind.i64 0)] := by kernel_rfl
theorem sz4 : aZ prog 4 = some 1 := by kernel_rfl
theorem in4 : Tryz.prog.info? 4 = some Tryz.t4 := by kernel_rfl
theorem ts4 : Tryz.t4.size = 1 := rfl
theorem tb4 : Tryz.t4.bytes = 1 := rfl
theorem tz4 : Tryz.t4.zero = some (Value.bool false) := rfl
theorem zc4 : zeroCells? prog 4 = some [.v (Value.bool false)] := by kernel_rfl
theorem sz5 : aZ prog 5 = some 1 := by kernel_rfl
theorem in5 : Tryz.prog.info? 5 = some Tryz.t5 := by kernel_rfl
theorem ts5 : Tryz.t5.size = 1 := rfl
theorem tb5 : Tryz.t5.bytes = 1 := rfl
theorem zc5 : zeroCells? prog 5 = some [.v (Value.int IntKind.u8 0)] := by kernel_rfl
theorem sz6 : aZ prog 6 = some 1 := by kernel_rfl
theorem sz7 : aZ prog 7 = some 4 := by kernel_rfl
theorem sz8 : aZ prog 8 = some 4 := by kernel_rfl
theorem sz9 : aZ prog 9 = some 1 := by kernel_rfl
theorem in9 : Tryz.prog.info? 9 = some Tryz.t9 := by kernel_rfl
theorem ts9 : Tryz.t9.size = 1 := rfl
theorem tb9 : Tryz.t9.bytes = 16 := rfl
theorem tz9 : Tryz.t9.zero = some (Value.string { data := #[] }) := rfl
theorem cA0 : aZ prog 10 = some 1 := by kernel_rfl
theorem cA1 : aZ prog 11 = some 1 := by kernel_rfl
theorem cA2 : aZ prog 12 = some 1 := by kernel_rfl
theorem cA3 : aZ prog 13 = some 2 := by kernel_rfl
theorem cA4 : aZ prog 14 = some 2 := by kernel_rfl
theorem cA5 : aZ prog 15 = some 1 := by kernel_rfl
theorem cA6 : aZ prog 16 = some 1 := by kernel_rfl
theorem cA7 : aZ prog 17 = some 1 := by kernel_rfl
theorem cA8 : aZ prog 18 = some 1 := by kernel_rfl
theorem cA9 : aZ prog 19 = some 1 := by kernel_rfl
theorem cAa : aZ prog 20 = some 1 := by kernel_rfl
theorem cAb : aZ prog 21 = some 1 := by kernel_rfl
theorem cAc : aZ prog 22 = some 3 := by kernel_rfl
theorem cAd : aZ prog 23 = some 3 := by kernel_rfl
theorem cCk : zeroCells? prog 23 = some [.v (Value.int IntKind.i64 0), .v (Value.int IntKind.i64 0), .v (Value.int IntKind.i64 0)] := by kernel_rfl
theorem cAe : aZ prog 24 = some 1 := by kernel_rfl
theorem bR5 : Tryz.prog.info? 24 = some Tryz.t24 := by kernel_rfl
theorem cCg : Tryz.t24.size = 1 := rfl
theorem bYf : Tryz.t24.bytes = 24 := rfl
theorem bS3 : Tryz.t24.zero = some (Value.slice none 0 0) := rfl
theorem cAf : aZ prog 25 = some 1 := by kernel_rfl
theorem cAg : aZ prog 26 = some 1 := by kernel_rfl
theorem cAh : aZ prog 27 = some 1 := by kernel_rfl
theorem bRz : aZ prog 28 = some 1 := by kernel_rfl
theorem bSa : zeroCells? prog 28 = some [.v (Value.slice none 0 0)] := by kernel_rfl
theorem cAi : aZ prog 29 = some 5 := by kernel_rfl
theorem cAj : aZ prog 30 = some 5 := by kernel_rfl
theorem cCl : zeroCells? prog 30 = some [.v (Value.int IntKind.i64 0), .v (Value.int IntKind.i64 0), .v (Value.int IntKind.i64 0), .v (Value.slice none 0 0), .v (Value.slice none 0 0)] := by kernel_rfl
theorem cAk : aZ prog 31 = some 1 := by kernel_rfl
theorem cAl : aZ prog 32 = some 6 := by kernel_rfl
theorem cAm : aZ prog 33 = some 6 := by kernel_rfl
theorem cCm : zeroCells? prog 33 = some [.v (Value.int IntKind.i64 0), .v (Value.int IntKind.i64 0), .v (Value.int IntKind.i64 0), .v (Value.slice none 0 0), .v (Value.slice none 0 0), .v (Value.slice none 0 0)] := by kernel_rfl
theorem cAn : aZ prog 34 = some 2 := by kernel_rfl
theorem cAo : aZ prog 35 = some 2 := by kernel_rfl
theorem cCn : zeroCells? prog 35 = some [.v (Value.slice none 0 0), .v (Value.int IntKind.i64 0)] := by kernel_rfl
theorem cAp : aZ prog 36 = some 1 := by kernel_rfl
theorem aXi : Tryz.prog.info? 36 = some Tryz.t36 := by kernel_rfl
theorem cCh : Tryz.t36.size = 1 := rfl
theorem bYg : Tryz.t36.bytes = 8 := rfl
theorem bYn : Tryz.t36.zero = some (Value.int IntKind.i64 0) := rfl
theorem cAq : aZ prog 37 = some 1 := by kernel_rfl
theorem cAr : aZ prog 38 = some 1 := by kernel_rfl
theorem cAs : aZ prog 39 = some 1 := by kernel_rfl
theorem cAt : aZ prog 40 = some 1 := by kernel_rfl
theorem bTe : Tryz.prog.info? 40 = some Tryz.t40 := by kernel_rfl
theorem cCi : Tryz.t40.size = 1 := rfl
theorem bYh : Tryz.t40.bytes = 24 := rfl
theorem bYo : Tryz.t40.zero = some (Value.slice none 0 0) := rfl
theorem cAu : aZ prog 41 = some 3 := by kernel_rfl
theorem cAv : aZ prog 42 = some 3 := by kernel_rfl
theorem cCo : zeroCells? prog 42 = some [.v (Value.int IntKind.i64 0), .v (Value.slice none 0 0), .v (Value.slice none 0 0)] := by kernel_rfl
theorem aJb : aZ prog 43 = some 1 := by kernel_rfl
theorem bR6 : Tryz.prog.info? 43 = some Tryz.t43 := by kernel_rfl
theorem bS2 : Tryz.t43.size = 1 := rfl
theorem bI6 : Tryz.t43.bytes = 8 := rfl
theorem bS4 : Tryz.t43.zero = some (Value.int IntKind.u64 0) := rfl
theorem bMb : zeroCells? prog 43 = some [.v (Value.int IntKind.u64 0)] := by kernel_rfl
theorem cAw : aZ prog 44 = some 4 := by kernel_rfl
theorem cAx : aZ prog 45 = some 4 := by kernel_rfl
theorem cCp : zeroCells? prog 45 = some [.v (Value.int IntKind.i64 0), .v (Value.int IntKind.u64 0), .v (Value.int IntKind.u64 0), .v (Value.string { data := #[] })] := by kernel_rfl
theorem cAy : aZ prog 46 = some 1 := by kernel_rfl
theorem cAz : aZ prog 47 = some 1 := by kernel_rfl
theorem cB0 : aZ prog 48 = some 1 := by kernel_rfl
theorem cB1 : aZ prog 49 = some 1 := by kernel_rfl
theorem cB2 : aZ prog 50 = some 1 := by kernel_rfl
theorem cB3 : aZ prog 51 = some 1 := by kernel_rfl
theorem cB4 : aZ prog 52 = some 1 := by kernel_rfl
theorem cB5 : aZ prog 53 = some 1 := by kernel_rfl
theorem cB6 : aZ prog 54 = some 1 := by kernel_rfl
theorem cB7 : aZ prog 55 = some 6 := by kernel_rfl
theorem cB8 : aZ prog 56 = some 6 := by kernel_rfl
theorem cCq : zeroCells? prog 56 = some [.v (Value.int IntKind.i64 0), .v (Value.int IntKind.i64 0), .v (Value.int IntKind.i64 0), .v (Value.slice none 0 0), .v (Value.slice none 0 0), .v (Value.slice none 0 0)] := by kernel_rfl
theorem cB9 : aZ prog 57 = some 1 := by kernel_rfl
theorem cBa : aZ prog 58 = some 1 := by kernel_rfl
theorem cBb : aZ prog 59 = some 1 := by kernel_rfl
theorem cBc : aZ prog 60 = some 2 := by kernel_rfl
theorem cBd : aZ prog 61 = some 1 := by kernel_rfl
theorem cBe : aZ prog 62 = some 1 := by kernel_rfl
theorem cBf : aZ prog 63 = some 1 := by kernel_rfl
theorem cBg : aZ prog 64 = some 1 := by kernel_rfl
theorem cBh : aZ prog 65 = some 1 := by kernel_rfl
theorem cBi : aZ prog 66 = some 1 := by kernel_rfl
theorem cBj : aZ prog 67 = some 1 := by kernel_rfl
theorem cBk : aZ prog 68 = some 1 := by kernel_rfl
theorem aHl : aZ prog 69 = some 2 := by kernel_rfl
theorem bNi : Tryz.prog.info? 69 = some Tryz.t69 := by kernel_rfl
theorem bPr : Tryz.t69.size = 2 := rfl
theorem aZ0 : Tryz.t69.bytes = 16 := rfl
theorem bPs : Tryz.t69.zero = some (Value.agg #[Value.int IntKind.u64 0, Value.int IntKind.u64 0]) := rfl
theorem bSb : zeroCells? prog 69 = some [.v (Value.int IntKind.u64 0), .v (Value.int IntKind.u64 0)] := by kernel_rfl
theorem cBl : aZ prog 70 = some 1 := by kernel_rfl
theorem cBm : aZ prog 71 = some 1 := by kernel_rfl
theorem cBn : aZ prog 72 = some 1 := by kernel_rfl
theorem cBo : aZ prog 73 = some 1 := by kernel_rfl
theorem cBp : aZ prog 74 = some 1 := by kernel_rfl
theorem cBq : aZ prog 75 = some 1 := by kernel_rfl
theorem cBr : aZ prog 76 = some 1 := by kernel_rfl
theorem cBs : aZ prog 77 = some 1 := by kernel_rfl
theorem cBt : aZ prog 78 = some 1 := by kernel_rfl
theorem cBu : aZ prog 79 = some 1 := by kernel_rfl
theorem cBv : aZ prog 80 = some 1 := by kernel_rfl
theorem cBw : aZ prog 81 = some 1 := by kernel_rfl
theorem cBx : aZ prog 82 = some 1 := by kernel_rfl
theorem cBy : aZ prog 83 = some 1 := by kernel_rfl
theorem cBz : aZ prog 84 = some 1 := by kernel_rfl
theorem cC0 : aZ prog 85 = some 1 := by kernel_rfl
theorem cC1 : aZ prog 86 = some 1 := by kernel_rfl
theorem cC2 : aZ prog 87 = some 1 := by kernel_rfl
theorem cC3 : aZ prog 88 = some 1 := by kernel_rfl
theorem cC4 : aZ prog 89 = some 1 := by kernel_rfl
theorem cC5 : aZ prog 90 = some 1 := by kernel_rfl
theorem cC6 : aZ prog 91 = some 1 := by kernel_rfl
theorem cC7 : aZ prog 92 = some 1 := by kernel_rfl
theorem cC8 : aZ prog 93 = some 1 := by kernel_rfl
theorem cC9 : aZ prog 94 = some 1 := by kernel_rfl
theorem cCa : aZ prog 95 = some 1 := by kernel_rfl
theorem cCb : aZ prog 96 = some 1 := by kernel_rfl
theorem cCc : aZ prog 97 = some 1 := by kernel_rfl
theorem cCd : aZ prog 98 = some 1 := by kernel_rfl
theorem cCe : aZ prog 99 = some 1 := by kernel_rfl
theorem bUa : aZ prog 100 = some 1 := by kernel_rfl
theorem bUb : aZ prog 101 = some 3 := by kernel_rfl
theorem aCi : aZ prog 102 = some 3 := by kernel_rfl
theorem bDv : Tryz.prog.info? 102 = some Tryz.t102 := by kernel_rfl
theorem bEq : Tryz.t102.size = 3 := rfl
theorem aNt : Tryz.t102.bytes = 24 := rfl
theorem bEr : Tryz.t102.zero = some (Value.agg #[Value.int IntKind.i64 0, Value.int IntKind.i64 0, Value.int IntKind.i64 0]) := rfl
theorem aTy : zeroCells? prog 102 = some [.v (Value.int IntKind.i64 0), .v (Value.int IntKind.i64 0), .v (Value.int IntKind.i64 0)] := by kernel_rfl
theorem bUc : aZ prog 103 = some 2 := by kernel_rfl
theorem bLz : aZ prog 104 = some 2 := by kernel_rfl
theorem bK8 : Tryz.prog.info? 104 = some Tryz.t104 := by kernel_rfl
theorem bM3 : Tryz.t104.size = 2 := rfl
theorem aTs : Tryz.t104.bytes = 16 := rfl
theorem bM5 : Tryz.t104.zero = some (Value.agg #[Value.bool false, Value.int IntKind.u64 0]) := rfl
theorem bM9 : zeroCells? prog 104 = some [.v (Value.bool false), .v (Value.int IntKind.u64 0)] := by kernel_rfl
theorem bUd : aZ prog 105 = some 1 := by kernel_rfl
theorem bUe : aZ prog 106 = some 1 := by kernel_rfl
theorem bUf : aZ prog 107 = some 1 := by kernel_rfl
theorem bUg : aZ prog 108 = some 1 := by kernel_rfl
theorem bUh : aZ prog 109 = some 1 := by kernel_rfl
theorem bUi : aZ prog 110 = some 1 := by kernel_rfl
theorem bUj : aZ prog 111 = some 1 := by kernel_rfl
theorem aNr : aZ prog 112 = some 1 := by kernel_rfl
theorem bTc : Tryz.prog.info? 112 = some Tryz.t112 := by kernel_rfl
theorem bYk : Tryz.t112.size = 1 := rfl
theorem bYe : Tryz.t112.bytes = 24 := rfl
theorem bYr : zeroCells? prog 112 = some [.v (Value.slice none 0 0)] := by kernel_rfl
theorem bUk : aZ prog 113 = some 1 := by kernel_rfl
theorem bUl : aZ prog 114 = some 1 := by kernel_rfl
theorem bUm : aZ prog 115 = some 1 := by kernel_rfl
theorem bUn : aZ prog 116 = some 1 := by kernel_rfl
theorem bUo : aZ prog 117 = some 1 := by kernel_rfl
theorem bUp : aZ prog 118 = some 1 := by kernel_rfl
theorem bUq : aZ prog 119 = some 2 := by kernel_rfl
theorem bM0 : aZ prog 120 = some 2 := by kernel_rfl
theorem bK9 : Tryz.prog.info? 120 = some Tryz.t120 := by kernel_rfl
theorem bM4 : Tryz.t120.size = 2 := rfl
theorem aTt : Tryz.t120.bytes = 16 := rfl
theorem bM6 : Tryz.t120.zero = some (Value.agg #[Value.int IntKind.u64 0, Value.int IntKind.u64 0]) := rfl
theorem bMa : zeroCells? prog 120 = some [.v (Value.int IntKind.u64 0), .v (Value.int IntKind.u64 0)] := by kernel_rfl
theorem bUr : aZ prog 121 = some 1 := by kernel_rfl
theorem bUs : aZ prog 122 = some 1 := by kernel_rfl
theorem bUt : aZ prog 123 = some 1 := by kernel_rfl
theorem bUu : aZ prog 124 = some 1 := by kernel_rfl
theorem bUv : aZ prog 125 = some 1 := by kernel_rfl
theorem bUw : aZ prog 126 = some 1 := by kernel_rfl
theorem bUx : aZ prog 127 = some 1 := by kernel_rfl
theorem bUy : aZ prog 128 = some 1 := by kernel_rfl
theorem bUz : aZ prog 129 = some 1 := by kernel_rfl
theorem bV0 : aZ prog 130 = some 1 := by kernel_rfl
theorem bQl : zeroCells? prog 130 = some [.v (Value.pointer none)] := by kernel_rfl
theorem bV1 : aZ prog 131 = some 1 := by kernel_rfl
theorem bV2 : aZ prog 132 = some 1 := by kernel_rfl
theorem bV3 : aZ prog 133 = some 1 := by kernel_rfl
theorem bV4 : aZ prog 134 = some 1 := by kernel_rfl
theorem bV5 : aZ prog 135 = some 1 := by kernel_rfl
theorem bV6 : aZ prog 136 = some 1 := by kernel_rfl
theorem bV7 : aZ prog 137 = some 1 := by kernel_rfl
theorem bV8 : aZ prog 138 = some 1 := by kernel_rfl
theorem bV9 : aZ prog 139 = some 1 := by kernel_rfl
theorem bVa : aZ prog 140 = some 1 := by kernel_rfl
theorem bVb : aZ prog 141 = some 1 := by kernel_rfl
theorem bVc : aZ prog 142 = some 1 := by kernel_rfl
theorem bVd : aZ prog 143 = some 1 := by kernel_rfl
theorem bVe : aZ prog 144 = some 1 := by kernel_rfl
theorem bVf : aZ prog 145 = some 1 := by kernel_rfl
theorem bVg : aZ prog 146 = some 1 := by kernel_rfl
theorem bVh : aZ prog 147 = some 1 := by kernel_rfl
theorem bVi : aZ prog 148 = some 1 := by kernel_rfl
theorem bVj : aZ prog 149 = some 1 := by kernel_rfl
theorem bVk : aZ prog 150 = some 1 := by kernel_rfl
theorem bM1 : aZ prog 151 = some 2 := by kernel_rfl
theorem bTd : Tryz.prog.info? 151 = some Tryz.t151 := by kernel_rfl
theorem bYl : Tryz.t151.size = 2 := rfl
theorem bQg : Tryz.t151.bytes = 16 := rfl
theorem bYm : Tryz.t151.zero = some (Value.agg #[Value.bool false, Value.int IntKind.u64 0]) := rfl
theorem bYs : zeroCells? prog 151 = some [.v (Value.bool false), .v (Value.int IntKind.u64 0)] := by kernel_rfl
theorem bVl : aZ prog 152 = some 1 := by kernel_rfl
theorem bVm : aZ prog 153 = some 1 := by kernel_rfl
theorem bVn : aZ prog 154 = some 1 := by kernel_rfl
theorem bVo : aZ prog 155 = some 1 := by kernel_rfl
theorem bVp : aZ prog 156 = some 1 := by kernel_rfl
theorem bVq : aZ prog 157 = some 2 := by kernel_rfl
theorem bEm : aZ prog 158 = some 2 := by kernel_rfl
theorem bYt : zeroCells? prog 158 = some [.v (Value.int IntKind.u64 0), .v (Value.int IntKind.i64 0)] := by kernel_rfl
theorem bVr : aZ prog 159 = some 1 := by kernel_rfl
theorem bVs : aZ prog 160 = some 1 := by kernel_rfl
theorem bVt : aZ prog 161 = some 1 := by kernel_rfl
theorem bVu : aZ prog 162 = some 1 := by kernel_rfl
theorem bVv : aZ prog 163 = some 1 := by kernel_rfl
theorem bVw : aZ prog 164 = some 1 := by kernel_rfl
theorem bVx : aZ prog 165 = some 1 := by kernel_rfl
theorem bVy : aZ prog 166 = some 1 := by kernel_rfl
theorem bVz : aZ prog 167 = some 1 := by kernel_rfl
theorem bW0 : aZ prog 168 = some 1 := by kernel_rfl
theorem bW1 : aZ prog 169 = some 1 := by kernel_rfl
theorem bW2 : aZ prog 170 = some 1 := by kernel_rfl
theorem bW3 : aZ prog 171 = some 1 := by kernel_rfl
theorem bW4 : aZ prog 172 = some 1 := by kernel_rfl
theorem bW5 : aZ prog 173 = some 1 := by kernel_rfl
theorem bW6 : aZ prog 174 = some 1 := by kernel_rfl
theorem bW7 : aZ prog 175 = some 1 := by kernel_rfl
theorem bW8 : aZ prog 176 = some 1 := by kernel_rfl
theorem bW9 : aZ prog 178 = some 1 := by kernel_rfl
theorem bWa : aZ prog 179 = some 1 := by kernel_rfl
theorem bWb : aZ prog 180 = some 1 := by kernel_rfl
theorem bWc : aZ prog 181 = some 1 := by kernel_rfl
theorem bWd : aZ prog 182 = some 1 := by kernel_rfl
theorem bWe : aZ prog 183 = some 1 := by kernel_rfl
theorem bWf : aZ prog 184 = some 1 := by kernel_rfl
theorem bWg : aZ prog 185 = some 1 := by kernel_rfl
theorem bWh : aZ prog 186 = some 1 := by kernel_rfl
theorem bWi : aZ prog 187 = some 1 := by kernel_rfl
theorem bWj : aZ prog 188 = some 1 := by kernel_rfl
theorem bWk : aZ prog 189 = some 1 := by kernel_rfl
theorem bWl : aZ prog 190 = some 1 := by kernel_rfl
theorem bWm : aZ prog 191 = some 6 := by kernel_rfl
theorem bWn : aZ prog 192 = some 6 := by kernel_rfl
theorem bYu : zeroCells? prog 192 = some [.v (Value.pointer none), .v (Value.pointer none), .v (Value.int IntKind.u64 0), .v (Value.int IntKind.i64 0), .v (Value.int IntKind.i64 0), .v (Value.int IntKind.i64 0)] := by kernel_rfl
theorem bWo : aZ prog 193 = some 1 := by kernel_rfl
theorem bWp : aZ prog 194 = some 1 := by kernel_rfl
theorem bWq : aZ prog 196 = some 1 := by kernel_rfl
theorem bWr : aZ prog 197 = some 1 := by kernel_rfl
theorem bWs : aZ prog 198 = some 1 := by kernel_rfl
theorem bWt : aZ prog 199 = some 1 := by kernel_rfl
theorem bWu : aZ prog 200 = some 1 := by kernel_rfl
theorem bWv : aZ prog 201 = some 1 := by kernel_rfl
theorem bWw : aZ prog 202 = some 1 := by kernel_rfl
theorem bWx : aZ prog 203 = some 1 := by kernel_rfl
theorem bWy : aZ prog 204 = some 1 := by kernel_rfl
theorem bWz : aZ prog 205 = some 1 := by kernel_rfl
theorem bX0 : aZ prog 206 = some 1 := by kernel_rfl
theorem bX1 : aZ prog 207 = some 1 := by kernel_rfl
theorem bX2 : aZ prog 208 = some 1 := by kernel_rfl
theorem bX3 : aZ prog 209 = some 1 := by kernel_rfl
theorem bX4 : aZ prog 210 = some 1 := by kernel_rfl
theorem bX5 : aZ prog 211 = some 1 := by kernel_rfl
theorem bX6 : aZ prog 212 = some 1 := by kernel_rfl
theorem bX7 : aZ prog 213 = some 1 := by kernel_rfl
theorem bX8 : aZ prog 214 = some 1 := by kernel_rfl
theorem bX9 : aZ prog 215 = some 1 := by kernel_rfl
theorem bXa : aZ prog 216 = some 1 := by kernel_rfl
theorem bXb : aZ prog 217 = some 1 := by kernel_rfl
theorem bXc : aZ prog 218 = some 1 := by kernel_rfl
theorem bXd : aZ prog 219 = some 1 := by kernel_rfl
theorem bXe : aZ prog 220 = some 1 := by kernel_rfl
theorem bXf : aZ prog 221 = some 1 := by kernel_rfl
theorem bXg : aZ prog 222 = some 1 := by kernel_rfl
theorem bXh : aZ prog 223 = some 1 := by kernel_rfl
theorem bXi : aZ prog 224 = some 1 := by kernel_rfl
theorem bXj : aZ prog 225 = some 1 := by kernel_rfl
theorem bXk : aZ prog 226 = some 1 := by kernel_rfl
theorem bXl : aZ prog 227 = some 1 := by kernel_rfl
theorem bXm : aZ prog 228 = some 1 := by kernel_rfl
theorem bXn : aZ prog 229 = some 1 := by kernel_rfl
theorem bXo : aZ prog 242 = some 3 := by kernel_rfl
theorem bXp : aZ prog 243 = some 3 := by kernel_rfl
theorem bYv : zeroCells? prog 243 = some [.v (Value.int IntKind.i64 0), .v (Value.int IntKind.i64 0), .v (Value.slice none 0 0)] := by kernel_rfl
theorem bXq : aZ prog 245 = some 1 := by kernel_rfl
theorem bXr : aZ prog 253 = some 1 := by kernel_rfl
theorem bXs : aZ prog 254 = some 1 := by kernel_rfl
theorem bXt : aZ prog 256 = some 1 := by kernel_rfl
theorem bXu : aZ prog 257 = some 1 := by kernel_rfl
theorem bXv : aZ prog 263 = some 1 := by kernel_rfl
theorem bXw : aZ prog 265 = some 1 := by kernel_rfl
theorem bXx : aZ prog 267 = some 1 := by kernel_rfl
theorem bXy : aZ prog 272 = some 1 := by kernel_rfl
theorem bXz : aZ prog 273 = some 4 := by kernel_rfl
theorem bY0 : aZ prog 274 = some 4 := by kernel_rfl
theorem bY1 : aZ prog 275 = some 0 := by kernel_rfl
theorem bY2 : aZ prog 276 = some 0 := by kernel_rfl
theorem bY3 : aZ prog 277 = some 0 := by kernel_rfl
theorem bY4 : aZ prog 278 = some 1 := by kernel_rfl
theorem bY5 : aZ prog 279 = some 1 := by kernel_rfl
theorem bY6 : aZ prog 280 = some 1 := by kernel_rfl
theorem bY7 : aZ prog 281 = some 1 := by kernel_rfl
theorem bY8 : aZ prog 282 = some 1 := by kernel_rfl
theorem bY9 : aZ prog 283 = some 1 := by kernel_rfl
theorem bYa : aZ prog 284 = some 1 := by kernel_rfl
theorem bYb : aZ prog 285 = some 11 := by kernel_rfl
theorem bYc : aZ prog 286 = some 11 := by kernel_rfl
theorem bYd : aZ prog 287 = some 1 := by kernel_rfl
abbrev FbP (k : Nat) : Prop := (Program.funcs prog)[k]?.any (fun fn => fn.body.isSome && fn.name != "runtime.NumGoroutine") = true
theorem fbT {k : Nat} {f} (h : (Program.funcs prog)[k]? = some f) (h' : (f.body.isSome && f.name != "runtime.NumGoroutine") = true) : FbP k := by
 show (Program.funcs prog)[k]?.any _ = true
 rw [h]; exact h'
theorem bZ0 : FbP 33 := fbT func33 (by kernel_rfl)
theorem bZ1 : FbP 38 := fbT func38 (by kernel_rfl)
theorem bZ2 : FbP 47 := fbT func47 (by kernel_rfl)
theorem bZ3 : FbP 69 := fbT func69 (by kernel_rfl)
theorem bZ4 : FbP 92 := fbT func92 (by kernel_rfl)
theorem bSt : FbP 100 := fbT func100 (by kernel_rfl)
theorem bQ1 : FbP 103 := fbT func103 (by kernel_rfl)
theorem bSu : FbP 104 := fbT func104 (by kernel_rfl)
theorem bSv : FbP 105 := fbT func105 (by kernel_rfl)
theorem bSw : FbP 106 := fbT func106 (by kernel_rfl)
theorem aHp : FbP 110 := fbT func110 (by kernel_rfl)
theorem bSx : FbP 112 := fbT func112 (by kernel_rfl)
theorem bSy : FbP 113 := fbT func113 (by kernel_rfl)
theorem bQ2 : FbP 114 := fbT func114 (by kernel_rfl)
theorem bQ3 : FbP 125 := fbT func125 (by kernel_rfl)
theorem bJs : FbP 127 := fbT func127 (by kernel_rfl)
theorem bQ4 : FbP 128 := fbT func128 (by kernel_rfl)
theorem bSz : FbP 129 := fbT func129 (by kernel_rfl)
theorem bT0 : FbP 130 := fbT func130 (by kernel_rfl)
theorem bT1 : FbP 131 := fbT func131 (by kernel_rfl)
theorem bQ5 : FbP 132 := fbT func132 (by kernel_rfl)
theorem bT2 : FbP 133 := fbT func133 (by kernel_rfl)
theorem bQ6 : FbP 134 := fbT func134 (by kernel_rfl)
theorem bT3 : FbP 136 := fbT func136 (by kernel_rfl)
theorem bDo : FbP 143 := fbT func143 (by kernel_rfl)
theorem bQ7 : FbP 144 := fbT func144 (by kernel_rfl)
theorem bT4 : FbP 145 := fbT func145 (by kernel_rfl)
theorem bT5 : FbP 151 := fbT func151 (by kernel_rfl)
theorem bT6 : FbP 156 := fbT func156 (by kernel_rfl)
theorem bT7 : FbP 167 := fbT func167 (by kernel_rfl)
theorem bDp : FbP 173 := fbT func173 (by kernel_rfl)
theorem bQ8 : FbP 174 := fbT func174 (by kernel_rfl)
theorem bT8 : FbP 192 := fbT func192 (by kernel_rfl)
theorem bT9 : FbP 193 := fbT func193 (by kernel_rfl)
theorem bTa : FbP 209 := fbT func209 (by kernel_rfl)
theorem mix : Tryz.prog.follows .mixedOrders = true := by kernel_rfl
@[go_sem] theorem mi3 (H : aN) (ρ : Operand → AV) (x : Operand) : bJ prog H ρ (.makeInterface 3 x) = some (.ifc 3 (ρ x)) := by simp only [bJ, underlying3]
@[go_sem] theorem mi4 (H : aN) (ρ : Operand → AV) (x : Operand) : bJ prog H ρ (.makeInterface 4 x) = some (.ifc 4 (ρ x)) := by simp only [bJ, underlying4]
@[go_sem] theorem ln9 (s : ByteArray) : bQ prog .len [9] [.v (.string s)] = some (.v (.int .i64 s.size)) := uD underlying9
@[go_sem] theorem mi9 (H : aN) (ρ : Operand → AV) (x : Operand) : bJ prog H ρ (.makeInterface 9 x) = some (.ifc 9 (ρ x)) := by simp only [bJ, underlying9]
@[go_sem] theorem bZ6 (s : ByteArray) : bQ prog .len [10] [.v (.string s)] = some (.v (.int .i64 s.size)) := uD underlying10
@[go_sem] theorem bZ7 (s : ByteArray) : bQ prog .len [11] [.v (.string s)] = some (.v (.int .i64 s.size)) := uD underlying11
theorem bZ8 (xs : List AV) (n : Nat) (f : Bool) : bQ prog .len [24] [.sl xs n f] = some (.v (.int .i64 n)) := dP underlying24
theorem bZf (j o n : Nat) : bQ prog .len [24] [.own j o n] = some (.v (.int .i64 n)) := dA underlying24
theorem bZm (n c : Nat) : bQ prog .len [24] [.v (.slice none n c)] = some (.v (.int .i64 n)) := cZ underlying24
attribute [go_sem] bZ8 bZf bZm
@[go_sem] theorem bZv (H : aN) (ρ : Operand → AV) (x : Operand) : bJ prog H ρ (.makeInterface 24 x) = some (.ifc 24 (ρ x)) := by simp only [bJ, underlying24]
theorem bZ9 (xs : List AV) (n : Nat) (f : Bool) : bQ prog .len [25] [.sl xs n f] = some (.v (.int .i64 n)) := dP underlying25
theorem bZg (j o n : Nat) : bQ prog .len [25] [.own j o n] = some (.v (.int .i64 n)) := dA underlying25
theorem bZn (n c : Nat) : bQ prog .len [25] [.v (.slice none n c)] = some (.v (.int .i64 n)) := cZ underlying25
attribute [go_sem] bZ9 bZg bZn
theorem bZa (xs : List AV) (n : Nat) (f : Bool) : bQ prog .len [27] [.sl xs n f] = some (.v (.int .i64 n)) := dP underlying27
theorem bZh (j o n : Nat) : bQ prog .len [27] [.own j o n] = some (.v (.int .i64 n)) := dA underlying27
theorem bZo (n c : Nat) : bQ prog .len [27] [.v (.slice none n c)] = some (.v (.int .i64 n)) := cZ underlying27
attribute [go_sem] bZa bZh bZo
theorem bZb (xs : List AV) (n : Nat) (f : Bool) : bQ prog .len [28] [.sl xs n f] = some (.v (.int .i64 n)) := dP underlying28
theorem bZi (j o n : Nat) : bQ prog .len [28] [.own j o n] = some (.v (.int .i64 n)) := dA underlying28
theorem bZp (n c : Nat) : bQ prog .len [28] [.v (.slice none n c)] = some (.v (.int .i64 n)) := cZ underlying28
attribute [go_sem] bZb bZi bZp
theorem bZc (xs : List AV) (n : Nat) (f : Bool) : bQ prog .len [31] [.sl xs n f] = some (.v (.int .i64 n)) := dP underlying31
theorem bZj (j o n : Nat) : bQ prog .len [31] [.own j o n] = some (.v (.int .i64 n)) := dA underlying31
theorem bZq (n c : Nat) : bQ prog .len [31] [.v (.slice none n c)] = some (.v (.int .i64 n)) := cZ underlying31
attribute [go_sem] bZc bZj bZq
@[go_sem] theorem bZw (H : aN) (ρ : Operand → AV) (x : Operand) : bJ prog H ρ (.makeInterface 36 x) = some (.ifc 36 (ρ x)) := by simp only [bJ, underlying36]
theorem bZd (xs : List AV) (n : Nat) (f : Bool) : bQ prog .len [40] [.sl xs n f] = some (.v (.int .i64 n)) := dP underlying40
theorem bZk (j o n : Nat) : bQ prog .len [40] [.own j o n] = some (.v (.int .i64 n)) := dA underlying40
theorem bZr (n c : Nat) : bQ prog .len [40] [.v (.slice none n c)] = some (.v (.int .i64 n)) := cZ underlying40
attribute [go_sem] bZd bZk bZr
@[go_sem] theorem bZx (H : aN) (ρ : Operand → AV) (x : Operand) : bJ prog H ρ (.makeInterface 40 x) = some (.ifc 40 (ρ x)) := by simp only [bJ, underlying40]
theorem bZe (xs : List AV) (n : Nat) (f : Bool) : bQ prog .len [54] [.sl xs n f] = some (.v (.int .i64 n)) := dP underlying54
theorem bZl (j o n : Nat) : bQ prog .len [54] [.own j o n] = some (.v (.int .i64 n)) := dA underlying54
theorem bZs (n c : Nat) : bQ prog .len [54] [.v (.slice none n c)] = some (.v (.int .i64 n)) := cZ underlying54
attribute [go_sem] bZe bZl bZs
theorem bTi (xs : List AV) (n : Nat) (f : Bool) : bQ prog .len [112] [.sl xs n f] = some (.v (.int .i64 n)) := dP underlying112
theorem bTo (j o n : Nat) : bQ prog .len [112] [.own j o n] = some (.v (.int .i64 n)) := dA underlying112
theorem bTv (n c : Nat) : bQ prog .len [112] [.v (.slice none n c)] = some (.v (.int .i64 n)) := cZ underlying112
attribute [go_sem] bTi bTo bTv
theorem bTj (xs : List AV) (n : Nat) (f : Bool) : bQ prog .len [172] [.sl xs n f] = some (.v (.int .i64 n)) := dP underlying172
theorem bTp (j o n : Nat) : bQ prog .len [172] [.own j o n] = some (.v (.int .i64 n)) := dA underlying172
theorem bTw (n c : Nat) : bQ prog .len [172] [.v (.slice none n c)] = some (.v (.int .i64 n)) := cZ underlying172
attribute [go_sem] bTj bTp bTw
theorem bTk (xs : List AV) (n : Nat) (f : Bool) : bQ prog .len [204] [.sl xs n f] = some (.v (.int .i64 n)) := dP underlying204
theorem bTq (j o n : Nat) : bQ prog .len [204] [.own j o n] = some (.v (.int .i64 n)) := dA underlying204
theorem bTx (n c : Nat) : bQ prog .len [204] [.v (.slice none n c)] = some (.v (.int .i64 n)) := cZ underlying204
attribute [go_sem] bTk bTq bTx
theorem bTl (xs : List AV) (n : Nat) (f : Bool) : bQ prog .len [225] [.sl xs n f] = some (.v (.int .i64 n)) := dP underlying225
theorem bTr (j o n : Nat) : bQ prog .len [225] [.own j o n] = some (.v (.int .i64 n)) := dA underlying225
theorem bTy (n c : Nat) : bQ prog .len [225] [.v (.slice none n c)] = some (.v (.int .i64 n)) := cZ underlying225
attribute [go_sem] bTl bTr bTy
theorem bTm (xs : List AV) (n : Nat) (f : Bool) : bQ prog .len [263] [.sl xs n f] = some (.v (.int .i64 n)) := dP underlying263
theorem bTs (j o n : Nat) : bQ prog .len [263] [.own j o n] = some (.v (.int .i64 n)) := dA underlying263
theorem bTz (n c : Nat) : bQ prog .len [263] [.v (.slice none n c)] = some (.v (.int .i64 n)) := cZ underlying263
attribute [go_sem] bTm bTs bTz
theorem bTn (xs : List AV) (n : Nat) (f : Bool) : bQ prog .len [265] [.sl xs n f] = some (.v (.int .i64 n)) := dP underlying265
theorem bTt (j o n : Nat) : bQ prog .len [265] [.own j o n] = some (.v (.int .i64 n)) := dA underlying265
theorem bU0 (n c : Nat) : bQ prog .len [265] [.v (.slice none n c)] = some (.v (.int .i64 n)) := cZ underlying265
attribute [go_sem] bTn bTt bU0
attribute [go_sem] underlying0 sz0 underlying1 sz1 underlying2 sz2 underlying3 sz3 underlying4 sz4 underlying5 sz5 underlying6 sz6 underlying7 sz7 underlying8 sz8 underlying9 sz9 underlying10 cA0 underlying11 cA1 underlying12 cA2 underlying13 cA3 underlying14 cA4 underlying15 cA5 underlying16 cA6 underlying17 cA7 underlying18 cA8 underlying19 cA9 underlying20 cAa underlying21 cAb underlying22 cAc underlying23 cAd underlying24 cAe underlying25 cAf underlying26 cAg underlying27 cAh underlying28 bRz underlying29 cAi underlying30 cAj underlying31 cAk underlying32 cAl underlying33 cAm underlying34 cAn underlying35 cAo underlying36 cAp underlying37 cAq underlying38 cAr underlying39 cAs underlying40 cAt underlying41 cAu underlying42 cAv underlying43 aJb underlying44 cAw underlying45 cAx underlying46 cAy underlying47 cAz underlying48 cB0 underlying49 cB1 underlying50 cB2 underlying51 cB3 underlying52 cB4 underlying53 cB5 underlying54 cB6 underlying55 cB7 underlying56 cB8 underlying57 cB9 underlying58 cBa underlying59 cBb underlying60 cBc underlying61 cBd underlying62 cBe underlying63 cBf underlying64 cBg underlying65 cBh underlying66 cBi underlying67 cBj underlying68 cBk underlying69 aHl underlying70 cBl underlying71 cBm underlying72 cBn underlying73 cBo underlying74 cBp underlying75 cBq underlying76 cBr underlying77 cBs underlying78 cBt underlying79 cBu underlying80 cBv underlying81 cBw underlying82 cBx underlying83 cBy underlying84 cBz underlying85 cC0 underlying86 cC1 underlying87 cC2 underlying88 cC3 underlying89 cC4 underlying90 cC5 underlying91 cC6 underlying92 cC7 underlying93 cC8 underlying94 cC9 underlying95 cCa underlying96 cCb underlying97 cCc underlying98 cCd underlying99 cCe underlying100 bUa underlying101 bUb underlying102 aCi underlying103 bUc underlying104 bLz underlying105 bUd underlying106 bUe underlying107 bUf underlying108 bUg underlying109 bUh underlying110 bUi underlying111 bUj underlying112 aNr underlying113 bUk underlying114 bUl underlying115 bUm underlying116 bUn underlying117 bUo underlying118 bUp underlying119 bUq underlying120 bM0 underlying121 bUr underlying122 bUs underlying123 bUt underlying124 bUu underlying125 bUv underlying126 bUw underlying127 bUx underlying128 bUy underlying129 bUz underlying130 bV0 underlying131 bV1 underlying132 bV2 underlying133 bV3 underlying134 bV4 underlying135 bV5 underlying136 bV6 underlying137 bV7 underlying138 bV8 underlying139 bV9 underlying140 bVa underlying141 bVb underlying142 bVc underlying143 bVd underlying144 bVe underlying145 bVf underlying146 bVg underlying147 bVh underlying148 bVi underlying149 bVj underlying150 bVk underlying151 bM1 underlying152 bVl underlying153 bVm underlying154 bVn underlying155 bVo underlying156 bVp underlying157 bVq underlying158 bEm underlying159 bVr underlying160 bVs underlying161 bVt underlying162 bVu underlying163 bVv underlying164 bVw underlying165 bVx underlying166 bVy underlying167 bVz underlying168 bW0 underlying169 bW1 underlying170 bW2 underlying171 bW3 underlying172 bW4 underlying173 bW5 underlying174 bW6 underlying175 bW7 underlying176 bW8 underlying178 bW9 underlying179 bWa underlying180 bWb underlying181 bWc underlying182 bWd underlying183 bWe underlying184 bWf underlying185 bWg underlying186 bWh underlying187 bWi underlying188 bWj underlying189 bWk underlying190 bWl underlying191 bWm underlying192 bWn underlying193 bWo underlying194 bWp underlying196 bWq underlying197 bWr underlying198 bWs underlying199 bWt underlying200 bWu underlying201 bWv underlying202 bWw underlying203 bWx underlying204 bWy underlying205 bWz underlying206 bX0 underlying207 bX1 underlying208 bX2 underlying209 bX3 underlying210 bX4 underlying211 bX5 underlying212 bX6 underlying213 bX7 underlying214 bX8 underlying215 bX9 underlying216 bXa underlying217 bXb underlying218 bXc underlying219 bXd underlying220 bXe underlying221 bXf underlying222 bXg underlying223 bXh underlying224 bXi underlying225 bXj underlying226 bXk underlying227 bXl underlying228 bXm underlying229 bXn underlying242 bXo underlying243 bXp underlying245 bXq underlying253 bXr underlying254 bXs underlying256 bXt underlying257 bXu underlying263 bXv underlying265 bXw underlying267 bXx underlying272 bXy underlying273 bXz underlying274 bY0 underlying275 bY1 underlying276 bY2 underlying277 bY3 underlying278 bY4 underlying279 bY5 underlying280 bY6 underlying281 bY7 underlying282 bY8 underlying283 bY9 underlying284 bYa underlying285 bYb underlying286 bYc underlying287 bYd
end Go.Proofs.YtkdohhmacfoolaaGreat
