/- Facts that the statement's proof is made of. No condition. -/
import Derived.Test.YtkdohhmacfoolaaGreatRows
import Derived.Test.YtkdohhmacfoolaaGreatNbAmB
set_option linter.unusedSimpArgs false
set_option linter.unusedVariables false
namespace Go.Proofs.YtkdohhmacfoolaaGreat
open Go Go.AM
theorem sz0 : bD Tryz.prog 0 = some 1 := by kernel_rfl
theorem sz1 : bD Tryz.prog 1 = some 1 := by kernel_rfl
theorem sz2 : bD Tryz.prog 2 = some 1 := by kernel_rfl
theorem sz3 : bD Tryz.prog 3 = some 1 := by kernel_rfl
theorem in3 : Tryz.prog.info? 3 = some Tryz.t3 := by kernel_rfl
theorem ts3 : Tryz.t3.size = 1 := rfl
theorem tb3 : Tryz.t3.bytes = 8 := rfl
theorem tz3 : Tryz.t3.zero = some (Value.int IntKind.i64 0) := rfl
theorem zc3 : zeroCells? Tryz.prog 3 = some [.v (Value.int IntKind.i64 0)] := by kernel_rfl
theorem sz4 : bD Tryz.prog 4 = some 1 := by kernel_rfl
theorem in4 : Tryz.prog.info? 4 = some Tryz.t4 := by kernel_rfl
theorem ts4 : Tryz.t4.size = 1 := rfl
theorem tb4 : Tryz.t4.bytes = 1 := rfl
theorem zc4 : zeroCells? Tryz.prog 4 = some [.v (Value.bool false)] := by kernel_rfl
theorem sz5 : bD Tryz.prog 5 = some 1 := by kernel_rfl
theorem sz6 : bD Tryz.prog 6 = some 1 := by kernel_rfl
theorem sz7 : bD Tryz.prog 7 = some 4 := by kernel_rfl
theorem sz8 : bD Tryz.prog 8 = some 4 := by kernel_rfl
theorem sz9 : bD Tryz.prog 9 = some 1 := by kernel_rfl
theorem bIy : bD Tryz.prog 10 = some 1 := by kernel_rfl
theorem bKy : bD Tryz.prog 11 = some 1 := by kernel_rfl
theorem bIe : bD Tryz.prog 12 = some 1 := by kernel_rfl
theorem bKo : bD Tryz.prog 13 = some 2 := by kernel_rfl
theorem bIi : bD Tryz.prog 14 = some 2 := by kernel_rfl
theorem bKu : bD Tryz.prog 15 = some 1 := by kernel_rfl
theorem bIv : bD Tryz.prog 16 = some 1 := by kernel_rfl
theorem bJ7 : bD Tryz.prog 17 = some 1 := by kernel_rfl
theorem bJs : bD Tryz.prog 18 = some 1 := by kernel_rfl
theorem bK4 : bD Tryz.prog 19 = some 1 := by kernel_rfl
theorem bKn : bD Tryz.prog 20 = some 1 := by kernel_rfl
theorem bLa : bD Tryz.prog 21 = some 1 := by kernel_rfl
theorem bI6 : bD Tryz.prog 22 = some 3 := by kernel_rfl
theorem bAi : bD Tryz.prog 23 = some 3 := by kernel_rfl
theorem bEp : zeroCells? Tryz.prog 23 = some [.v (Value.int IntKind.i64 0), .v (Value.int IntKind.i64 0), .v (Value.int IntKind.i64 0)] := by kernel_rfl
theorem bLf : bD Tryz.prog 24 = some 1 := by kernel_rfl
theorem bLj : Tryz.prog.info? 24 = some Tryz.t24 := by kernel_rfl
theorem bIg : Tryz.t24.zero = some (Value.slice none 0 0) := rfl
theorem bJ2 : bD Tryz.prog 25 = some 1 := by kernel_rfl
theorem bKk : bD Tryz.prog 26 = some 1 := by kernel_rfl
theorem bK8 : bD Tryz.prog 27 = some 1 := by kernel_rfl
theorem aJ7 : bD Tryz.prog 28 = some 1 := by kernel_rfl
theorem bFn : zeroCells? Tryz.prog 28 = some [.v (Value.slice none 0 0)] := by kernel_rfl
theorem bLn : bD Tryz.prog 29 = some 5 := by kernel_rfl
theorem wH : bD Tryz.prog 30 = some 5 := by kernel_rfl
theorem aN6 : zeroCells? Tryz.prog 30 = some [.v (Value.int IntKind.i64 0), .v (Value.int IntKind.i64 0), .v (Value.int IntKind.i64 0), .v (Value.slice none 0 0), .v (Value.slice none 0 0)] := by kernel_rfl
theorem aZz : bD Tryz.prog 31 = some 1 := by kernel_rfl
theorem bJb : bD Tryz.prog 32 = some 6 := by kernel_rfl
theorem qV : bD Tryz.prog 33 = some 6 := by kernel_rfl
theorem aH7 : zeroCells? Tryz.prog 33 = some [.v (Value.int IntKind.i64 0), .v (Value.int IntKind.i64 0), .v (Value.int IntKind.i64 0), .v (Value.slice none 0 0), .v (Value.slice none 0 0), .v (Value.slice none 0 0)] := by kernel_rfl
theorem bLm : bD Tryz.prog 34 = some 2 := by kernel_rfl
theorem uY : bD Tryz.prog 35 = some 2 := by kernel_rfl
theorem aIg : zeroCells? Tryz.prog 35 = some [.v (Value.slice none 0 0), .v (Value.int IntKind.i64 0)] := by kernel_rfl
theorem bIm : bD Tryz.prog 36 = some 1 := by kernel_rfl
theorem aQc : Tryz.prog.info? 36 = some Tryz.t36 := by kernel_rfl
theorem bKm : bD Tryz.prog 37 = some 1 := by kernel_rfl
theorem bKp : bD Tryz.prog 38 = some 1 := by kernel_rfl
theorem bIh : bD Tryz.prog 39 = some 1 := by kernel_rfl
theorem bKj : bD Tryz.prog 40 = some 1 := by kernel_rfl
theorem bLc : bD Tryz.prog 41 = some 3 := by kernel_rfl
theorem bJh : bD Tryz.prog 42 = some 3 := by kernel_rfl
theorem nS : bD Tryz.prog 43 = some 1 := by kernel_rfl
theorem aOd : Tryz.prog.info? 43 = some Tryz.t43 := by kernel_rfl
theorem aOs : Tryz.t43.size = 1 := rfl
theorem aCj : Tryz.t43.bytes = 8 := rfl
theorem aQu : Tryz.t43.zero = some (Value.int IntKind.u64 0) := rfl
theorem aI6 : zeroCells? Tryz.prog 43 = some [.v (Value.int IntKind.u64 0)] := by kernel_rfl
theorem bL8 : bD Tryz.prog 44 = some 4 := by kernel_rfl
theorem bLy : bD Tryz.prog 45 = some 4 := by kernel_rfl
theorem bJd : bD Tryz.prog 46 = some 1 := by kernel_rfl
theorem bK9 : bD Tryz.prog 47 = some 1 := by kernel_rfl
theorem bKf : bD Tryz.prog 48 = some 1 := by kernel_rfl
theorem bJ0 : bD Tryz.prog 49 = some 1 := by kernel_rfl
theorem bI8 : bD Tryz.prog 50 = some 1 := by kernel_rfl
theorem bL7 : bD Tryz.prog 51 = some 1 := by kernel_rfl
theorem bJr : bD Tryz.prog 52 = some 1 := by kernel_rfl
theorem bK3 : bD Tryz.prog 53 = some 1 := by kernel_rfl
theorem bJz : bD Tryz.prog 54 = some 1 := by kernel_rfl
theorem bIk : bD Tryz.prog 55 = some 6 := by kernel_rfl
theorem bCo : bD Tryz.prog 56 = some 6 := by kernel_rfl
theorem bIr : zeroCells? Tryz.prog 56 = some [.v (Value.int IntKind.i64 0), .v (Value.int IntKind.i64 0), .v (Value.int IntKind.i64 0), .v (Value.slice none 0 0), .v (Value.slice none 0 0), .v (Value.slice none 0 0)] := by kernel_rfl
theorem bLe : bD Tryz.prog 57 = some 1 := by kernel_rfl
theorem bL0 : bD Tryz.prog 58 = some 1 := by kernel_rfl
theorem bLv : bD Tryz.prog 59 = some 1 := by kernel_rfl
theorem aEx : bD Tryz.prog 60 = some 2 := by kernel_rfl
theorem aT4 : zeroCells? Tryz.prog 60 = some [.v (Value.slice none 0 0), .v (Value.int IntKind.i64 0)] := by kernel_rfl
theorem bJu : bD Tryz.prog 61 = some 1 := by kernel_rfl
theorem bLq : bD Tryz.prog 62 = some 1 := by kernel_rfl
theorem bKe : bD Tryz.prog 63 = some 1 := by kernel_rfl
theorem bI3 : bD Tryz.prog 64 = some 1 := by kernel_rfl
theorem bIl : bD Tryz.prog 65 = some 1 := by kernel_rfl
theorem bKd : bD Tryz.prog 66 = some 1 := by kernel_rfl
theorem bKv : bD Tryz.prog 67 = some 1 := by kernel_rfl
theorem bI5 : bD Tryz.prog 68 = some 1 := by kernel_rfl
theorem aHc : bD Tryz.prog 69 = some 2 := by kernel_rfl
theorem bKz : Tryz.prog.info? 69 = some Tryz.t69 := by kernel_rfl
theorem bIj : Tryz.t69.size = 2 := rfl
theorem bB6 : Tryz.t69.bytes = 16 := rfl
theorem bL2 : Tryz.t69.zero = some (Value.agg #[Value.int IntKind.u64 0, Value.int IntKind.u64 0]) := rfl
theorem bJ3 : zeroCells? Tryz.prog 69 = some [.v (Value.int IntKind.u64 0), .v (Value.int IntKind.u64 0)] := by kernel_rfl
theorem bKr : bD Tryz.prog 70 = some 1 := by kernel_rfl
theorem bKl : bD Tryz.prog 71 = some 1 := by kernel_rfl
theorem bIa : bD Tryz.prog 72 = some 1 := by kernel_rfl
theorem bJ6 : bD Tryz.prog 73 = some 1 := by kernel_rfl
theorem bLr : bD Tryz.prog 74 = some 1 := by kernel_rfl
theorem bHz : bD Tryz.prog 75 = some 1 := by kernel_rfl
theorem bKt : bD Tryz.prog 76 = some 1 := by kernel_rfl
theorem bLd : bD Tryz.prog 77 = some 1 := by kernel_rfl
theorem bL4 : bD Tryz.prog 78 = some 1 := by kernel_rfl
theorem bKs : bD Tryz.prog 79 = some 1 := by kernel_rfl
theorem bLk : bD Tryz.prog 80 = some 1 := by kernel_rfl
theorem bL9 : bD Tryz.prog 81 = some 1 := by kernel_rfl
theorem bK7 : bD Tryz.prog 82 = some 1 := by kernel_rfl
theorem bIf : bD Tryz.prog 83 = some 1 := by kernel_rfl
theorem bIt : bD Tryz.prog 84 = some 1 := by kernel_rfl
theorem bIs : bD Tryz.prog 85 = some 1 := by kernel_rfl
theorem bJx : bD Tryz.prog 86 = some 1 := by kernel_rfl
theorem bK6 : bD Tryz.prog 87 = some 1 := by kernel_rfl
theorem bJa : bD Tryz.prog 88 = some 1 := by kernel_rfl
theorem bJf : bD Tryz.prog 89 = some 1 := by kernel_rfl
theorem bIc : bD Tryz.prog 90 = some 1 := by kernel_rfl
theorem bJp : bD Tryz.prog 91 = some 1 := by kernel_rfl
theorem bLu : bD Tryz.prog 92 = some 1 := by kernel_rfl
theorem bK5 : bD Tryz.prog 93 = some 1 := by kernel_rfl
theorem bI0 : bD Tryz.prog 94 = some 1 := by kernel_rfl
theorem bIn : bD Tryz.prog 95 = some 1 := by kernel_rfl
theorem bK2 : bD Tryz.prog 96 = some 1 := by kernel_rfl
theorem bHv : bD Tryz.prog 97 = some 1 := by kernel_rfl
theorem bJ4 : bD Tryz.prog 98 = some 1 := by kernel_rfl
theorem bM1 : bD Tryz.prog 99 = some 1 := by kernel_rfl
theorem bAq : bD Tryz.prog 100 = some 1 := by kernel_rfl
theorem bDq : bD Tryz.prog 101 = some 3 := by kernel_rfl
theorem dQ : bD Tryz.prog 102 = some 3 := by kernel_rfl
theorem aFo : Tryz.prog.info? 102 = some Tryz.t102 := by kernel_rfl
theorem aFm : Tryz.t102.size = 3 := rfl
theorem sT : Tryz.t102.bytes = 24 := rfl
theorem aFw : Tryz.t102.zero = some (Value.agg #[Value.int IntKind.i64 0, Value.int IntKind.i64 0, Value.int IntKind.i64 0]) := rfl
theorem jI : zeroCells? Tryz.prog 102 = some [.v (Value.int IntKind.i64 0), .v (Value.int IntKind.i64 0), .v (Value.int IntKind.i64 0)] := by kernel_rfl
theorem bHs : bD Tryz.prog 103 = some 2 := by kernel_rfl
theorem mV : bD Tryz.prog 104 = some 2 := by kernel_rfl
theorem aVq : Tryz.prog.info? 104 = some Tryz.t104 := by kernel_rfl
theorem aUu : Tryz.t104.size = 2 := rfl
theorem aKu : Tryz.t104.bytes = 16 := rfl
theorem aZ5 : Tryz.t104.zero = some (Value.agg #[Value.bool false, Value.int IntKind.u64 0]) := rfl
theorem aKi : zeroCells? Tryz.prog 104 = some [.v (Value.bool false), .v (Value.int IntKind.u64 0)] := by kernel_rfl
theorem bBl : bD Tryz.prog 105 = some 1 := by kernel_rfl
theorem bBz : bD Tryz.prog 106 = some 1 := by kernel_rfl
theorem bCp : bD Tryz.prog 107 = some 1 := by kernel_rfl
theorem bEq : bD Tryz.prog 108 = some 1 := by kernel_rfl
theorem bFw : bD Tryz.prog 109 = some 1 := by kernel_rfl
theorem bFj : bD Tryz.prog 110 = some 1 := by kernel_rfl
theorem bHg : bD Tryz.prog 111 = some 1 := by kernel_rfl
theorem aDq : bD Tryz.prog 112 = some 1 := by kernel_rfl
theorem bGs : Tryz.prog.info? 112 = some Tryz.t112 := by kernel_rfl
theorem bBv : Tryz.t112.size = 1 := rfl
theorem bB9 : Tryz.t112.bytes = 24 := rfl
theorem bFr : zeroCells? Tryz.prog 112 = some [.v (Value.slice none 0 0)] := by kernel_rfl
theorem bFx : bD Tryz.prog 113 = some 1 := by kernel_rfl
theorem bDl : bD Tryz.prog 114 = some 1 := by kernel_rfl
theorem bC0 : bD Tryz.prog 115 = some 1 := by kernel_rfl
theorem bD2 : bD Tryz.prog 116 = some 1 := by kernel_rfl
theorem bB8 : bD Tryz.prog 117 = some 1 := by kernel_rfl
theorem bCr : bD Tryz.prog 118 = some 1 := by kernel_rfl
theorem bH2 : bD Tryz.prog 119 = some 2 := by kernel_rfl
theorem uT : bD Tryz.prog 120 = some 2 := by kernel_rfl
theorem aPn : Tryz.prog.info? 120 = some Tryz.t120 := by kernel_rfl
theorem aPh : Tryz.t120.size = 2 := rfl
theorem aGc : Tryz.t120.bytes = 16 := rfl
theorem aUr : Tryz.t120.zero = some (Value.agg #[Value.int IntKind.u64 0, Value.int IntKind.u64 0]) := rfl
theorem aHt : zeroCells? Tryz.prog 120 = some [.v (Value.int IntKind.u64 0), .v (Value.int IntKind.u64 0)] := by kernel_rfl
theorem bBf : bD Tryz.prog 121 = some 1 := by kernel_rfl
theorem bEi : bD Tryz.prog 122 = some 1 := by kernel_rfl
theorem bBx : bD Tryz.prog 123 = some 1 := by kernel_rfl
theorem bGy : bD Tryz.prog 124 = some 1 := by kernel_rfl
theorem bBw : bD Tryz.prog 125 = some 1 := by kernel_rfl
theorem bE7 : bD Tryz.prog 126 = some 1 := by kernel_rfl
theorem bFy : bD Tryz.prog 127 = some 1 := by kernel_rfl
theorem bBu : bD Tryz.prog 128 = some 1 := by kernel_rfl
theorem bE1 : bD Tryz.prog 129 = some 1 := by kernel_rfl
theorem yH : bD Tryz.prog 130 = some 1 := by kernel_rfl
theorem aDk : zeroCells? Tryz.prog 130 = some [.v (Value.pointer none)] := by kernel_rfl
theorem bEh : bD Tryz.prog 131 = some 1 := by kernel_rfl
theorem bAz : bD Tryz.prog 132 = some 1 := by kernel_rfl
theorem bFl : bD Tryz.prog 133 = some 1 := by kernel_rfl
theorem bAu : bD Tryz.prog 134 = some 1 := by kernel_rfl
theorem bCx : bD Tryz.prog 135 = some 1 := by kernel_rfl
theorem bFo : bD Tryz.prog 136 = some 1 := by kernel_rfl
theorem bF9 : bD Tryz.prog 137 = some 1 := by kernel_rfl
theorem bBo : bD Tryz.prog 138 = some 1 := by kernel_rfl
theorem bDk : bD Tryz.prog 139 = some 1 := by kernel_rfl
theorem bG1 : bD Tryz.prog 140 = some 1 := by kernel_rfl
theorem bDz : bD Tryz.prog 141 = some 1 := by kernel_rfl
theorem bH6 : bD Tryz.prog 142 = some 1 := by kernel_rfl
theorem bE3 : bD Tryz.prog 143 = some 1 := by kernel_rfl
theorem bDs : bD Tryz.prog 144 = some 1 := by kernel_rfl
theorem bG8 : bD Tryz.prog 145 = some 1 := by kernel_rfl
theorem bDb : bD Tryz.prog 146 = some 1 := by kernel_rfl
theorem bFb : bD Tryz.prog 147 = some 1 := by kernel_rfl
theorem bGt : bD Tryz.prog 148 = some 1 := by kernel_rfl
theorem bEo : bD Tryz.prog 149 = some 1 := by kernel_rfl
theorem bGm : bD Tryz.prog 150 = some 1 := by kernel_rfl
theorem aPe : bD Tryz.prog 151 = some 2 := by kernel_rfl
theorem bCk : Tryz.prog.info? 151 = some Tryz.t151 := by kernel_rfl
theorem bD5 : Tryz.t151.size = 2 := rfl
theorem aYv : Tryz.t151.bytes = 16 := rfl
theorem bGz : Tryz.t151.zero = some (Value.agg #[Value.bool false, Value.int IntKind.u64 0]) := rfl
theorem bHo : zeroCells? Tryz.prog 151 = some [.v (Value.bool false), .v (Value.int IntKind.u64 0)] := by kernel_rfl
theorem bEy : bD Tryz.prog 152 = some 1 := by kernel_rfl
theorem bDp : bD Tryz.prog 153 = some 1 := by kernel_rfl
theorem bCu : bD Tryz.prog 154 = some 1 := by kernel_rfl
theorem bC6 : bD Tryz.prog 155 = some 1 := by kernel_rfl
theorem bE8 : bD Tryz.prog 156 = some 1 := by kernel_rfl
theorem bFe : bD Tryz.prog 157 = some 2 := by kernel_rfl
theorem xV : bD Tryz.prog 158 = some 2 := by kernel_rfl
theorem aF8 : zeroCells? Tryz.prog 158 = some [.v (Value.int IntKind.u64 0), .v (Value.int IntKind.i64 0)] := by kernel_rfl
theorem bCz : bD Tryz.prog 159 = some 1 := by kernel_rfl
theorem bAy : bD Tryz.prog 160 = some 1 := by kernel_rfl
theorem bHb : bD Tryz.prog 161 = some 1 := by kernel_rfl
theorem bAw : bD Tryz.prog 162 = some 1 := by kernel_rfl
theorem bFc : bD Tryz.prog 163 = some 1 := by kernel_rfl
theorem bH3 : bD Tryz.prog 164 = some 1 := by kernel_rfl
theorem bCi : bD Tryz.prog 165 = some 1 := by kernel_rfl
theorem bBc : bD Tryz.prog 166 = some 1 := by kernel_rfl
theorem bGq : bD Tryz.prog 167 = some 1 := by kernel_rfl
theorem bCb : bD Tryz.prog 168 = some 1 := by kernel_rfl
theorem bGw : bD Tryz.prog 169 = some 1 := by kernel_rfl
theorem bD0 : bD Tryz.prog 170 = some 1 := by kernel_rfl
theorem bH5 : bD Tryz.prog 171 = some 1 := by kernel_rfl
theorem bBe : bD Tryz.prog 172 = some 1 := by kernel_rfl
theorem bFf : bD Tryz.prog 173 = some 1 := by kernel_rfl
theorem bEx : bD Tryz.prog 174 = some 1 := by kernel_rfl
theorem bEb : bD Tryz.prog 175 = some 1 := by kernel_rfl
theorem bHt : bD Tryz.prog 178 = some 1 := by kernel_rfl
theorem bHn : bD Tryz.prog 179 = some 1 := by kernel_rfl
theorem bBg : bD Tryz.prog 180 = some 1 := by kernel_rfl
theorem bEt : bD Tryz.prog 181 = some 1 := by kernel_rfl
theorem bB7 : bD Tryz.prog 182 = some 1 := by kernel_rfl
theorem bEs : bD Tryz.prog 183 = some 1 := by kernel_rfl
theorem bB4 : bD Tryz.prog 184 = some 1 := by kernel_rfl
theorem bE9 : bD Tryz.prog 185 = some 1 := by kernel_rfl
theorem bDn : bD Tryz.prog 186 = some 1 := by kernel_rfl
theorem bG2 : bD Tryz.prog 187 = some 1 := by kernel_rfl
theorem bHa : bD Tryz.prog 188 = some 1 := by kernel_rfl
theorem bFz : bD Tryz.prog 189 = some 1 := by kernel_rfl
theorem bHh : bD Tryz.prog 190 = some 1 := by kernel_rfl
theorem bGd : bD Tryz.prog 191 = some 6 := by kernel_rfl
theorem bEr : bD Tryz.prog 192 = some 6 := by kernel_rfl
theorem bGn : zeroCells? Tryz.prog 192 = some [.v (Value.pointer none), .v (Value.pointer none), .v (Value.int IntKind.u64 0), .v (Value.int IntKind.i64 0), .v (Value.int IntKind.i64 0), .v (Value.int IntKind.i64 0)] := by kernel_rfl
theorem bBq : bD Tryz.prog 193 = some 1 := by kernel_rfl
theorem bBr : bD Tryz.prog 194 = some 1 := by kernel_rfl
theorem bCn : bD Tryz.prog 196 = some 1 := by kernel_rfl
theorem bF6 : bD Tryz.prog 197 = some 1 := by kernel_rfl
theorem bEg : bD Tryz.prog 198 = some 1 := by kernel_rfl
theorem bGe : bD Tryz.prog 199 = some 1 := by kernel_rfl
theorem bBd : bD Tryz.prog 200 = some 1 := by kernel_rfl
theorem bF0 : bD Tryz.prog 201 = some 1 := by kernel_rfl
theorem bFs : bD Tryz.prog 202 = some 1 := by kernel_rfl
theorem bF5 : bD Tryz.prog 203 = some 1 := by kernel_rfl
theorem bBb : bD Tryz.prog 204 = some 1 := by kernel_rfl
theorem bCv : bD Tryz.prog 205 = some 1 := by kernel_rfl
theorem bD1 : bD Tryz.prog 206 = some 1 := by kernel_rfl
theorem bEw : bD Tryz.prog 207 = some 1 := by kernel_rfl
theorem bGj : bD Tryz.prog 208 = some 1 := by kernel_rfl
theorem bDm : bD Tryz.prog 209 = some 1 := by kernel_rfl
theorem bBm : bD Tryz.prog 210 = some 1 := by kernel_rfl
theorem bGv : bD Tryz.prog 211 = some 1 := by kernel_rfl
theorem bGg : bD Tryz.prog 212 = some 1 := by kernel_rfl
theorem bF3 : bD Tryz.prog 213 = some 1 := by kernel_rfl
theorem bGb : bD Tryz.prog 214 = some 1 := by kernel_rfl
theorem bHr : bD Tryz.prog 215 = some 1 := by kernel_rfl
theorem bCw : bD Tryz.prog 216 = some 1 := by kernel_rfl
theorem bCj : bD Tryz.prog 217 = some 1 := by kernel_rfl
theorem bH0 : bD Tryz.prog 218 = some 1 := by kernel_rfl
theorem bFt : bD Tryz.prog 219 = some 1 := by kernel_rfl
theorem bFd : bD Tryz.prog 220 = some 1 := by kernel_rfl
theorem bBt : bD Tryz.prog 221 = some 1 := by kernel_rfl
theorem bAp : bD Tryz.prog 222 = some 1 := by kernel_rfl
theorem bFv : bD Tryz.prog 223 = some 1 := by kernel_rfl
theorem bEj : bD Tryz.prog 224 = some 1 := by kernel_rfl
theorem bEd : bD Tryz.prog 225 = some 1 := by kernel_rfl
theorem bBa : bD Tryz.prog 226 = some 1 := by kernel_rfl
theorem bHd : bD Tryz.prog 227 = some 1 := by kernel_rfl
theorem bBk : bD Tryz.prog 228 = some 1 := by kernel_rfl
theorem bDy : bD Tryz.prog 229 = some 1 := by kernel_rfl
theorem bHf : bD Tryz.prog 242 = some 3 := by kernel_rfl
theorem aE0 : bD Tryz.prog 243 = some 3 := by kernel_rfl
theorem aP5 : zeroCells? Tryz.prog 243 = some [.v (Value.int IntKind.i64 0), .v (Value.int IntKind.i64 0), .v (Value.slice none 0 0)] := by kernel_rfl
theorem bC4 : bD Tryz.prog 245 = some 1 := by kernel_rfl
theorem bD3 : bD Tryz.prog 253 = some 1 := by kernel_rfl
theorem bFq : bD Tryz.prog 254 = some 1 := by kernel_rfl
theorem bAr : bD Tryz.prog 256 = some 1 := by kernel_rfl
theorem bEl : bD Tryz.prog 257 = some 1 := by kernel_rfl
theorem bG0 : bD Tryz.prog 263 = some 1 := by kernel_rfl
theorem bEk : bD Tryz.prog 265 = some 1 := by kernel_rfl
theorem bCe : bD Tryz.prog 267 = some 1 := by kernel_rfl
theorem bAx : bD Tryz.prog 272 = some 1 := by kernel_rfl
theorem bB0 : bD Tryz.prog 273 = some 4 := by kernel_rfl
theorem bCl : bD Tryz.prog 274 = some 4 := by kernel_rfl
theorem bG6 : bD Tryz.prog 275 = some 0 := by kernel_rfl
theorem bE5 : bD Tryz.prog 276 = some 0 := by kernel_rfl
theorem bCa : bD Tryz.prog 277 = some 0 := by kernel_rfl
theorem bGu : bD Tryz.prog 278 = some 1 := by kernel_rfl
theorem bH1 : bD Tryz.prog 279 = some 1 := by kernel_rfl
theorem bHm : bD Tryz.prog 280 = some 1 := by kernel_rfl
theorem bDt : bD Tryz.prog 281 = some 1 := by kernel_rfl
theorem bAs : bD Tryz.prog 282 = some 1 := by kernel_rfl
theorem bEu : bD Tryz.prog 283 = some 1 := by kernel_rfl
theorem bE0 : bD Tryz.prog 284 = some 1 := by kernel_rfl
theorem bHp : bD Tryz.prog 285 = some 11 := by kernel_rfl
theorem bC5 : bD Tryz.prog 286 = some 11 := by kernel_rfl
theorem bD4 : bD Tryz.prog 287 = some 1 := by kernel_rfl
theorem bEc : (Program.funcs Tryz.prog)[13]?.any (fun fn => fn.body.isSome && fn.name != "runtime.NumGoroutine") = true := by rw [Tryz.func13]; kernel_rfl
theorem aXy : (Program.funcs Tryz.prog)[14]?.any (fun fn => fn.body.isSome && fn.name != "runtime.NumGoroutine") = true := by rw [Tryz.func14]; kernel_rfl
theorem aN0 : (Program.funcs Tryz.prog)[15]?.any (fun fn => fn.body.isSome && fn.name != "runtime.NumGoroutine") = true := by rw [Tryz.func15]; kernel_rfl
theorem bDa : (Program.funcs Tryz.prog)[17]?.any (fun fn => fn.body.isSome && fn.name != "runtime.NumGoroutine") = true := by rw [Tryz.func17]; kernel_rfl
theorem bD8 : (Program.funcs Tryz.prog)[19]?.any (fun fn => fn.body.isSome && fn.name != "runtime.NumGoroutine") = true := by rw [Tryz.func19]; kernel_rfl
theorem bC2 : (Program.funcs Tryz.prog)[21]?.any (fun fn => fn.body.isSome && fn.name != "runtime.NumGoroutine") = true := by rw [Tryz.func21]; kernel_rfl
theorem bKh : (Program.funcs Tryz.prog)[22]?.any (fun fn => fn.body.isSome && fn.name != "runtime.NumGoroutine") = true := by rw [Tryz.func22]; kernel_rfl
theorem bJc : (Program.funcs Tryz.prog)[23]?.any (fun fn => fn.body.isSome && fn.name != "runtime.NumGoroutine") = true := by rw [Tryz.func23]; kernel_rfl
theorem bDw : (Program.funcs Tryz.prog)[24]?.any (fun fn => fn.body.isSome && fn.name != "runtime.NumGoroutine") = true := by rw [Tryz.func24]; kernel_rfl
theorem bL5 : (Program.funcs Tryz.prog)[33]?.any (fun fn => fn.body.isSome && fn.name != "runtime.NumGoroutine") = true := by rw [Tryz.func33]; kernel_rfl
theorem bJm : (Program.funcs Tryz.prog)[35]?.any (fun fn => fn.body.isSome && fn.name != "runtime.NumGoroutine") = true := by rw [Tryz.func35]; kernel_rfl
theorem bLw : (Program.funcs Tryz.prog)[36]?.any (fun fn => fn.body.isSome && fn.name != "runtime.NumGoroutine") = true := by rw [Tryz.func36]; kernel_rfl
theorem bI1 : (Program.funcs Tryz.prog)[37]?.any (fun fn => fn.body.isSome && fn.name != "runtime.NumGoroutine") = true := by rw [Tryz.func37]; kernel_rfl
theorem bJk : (Program.funcs Tryz.prog)[38]?.any (fun fn => fn.body.isSome && fn.name != "runtime.NumGoroutine") = true := by rw [Tryz.func38]; kernel_rfl
theorem bBj : (Program.funcs Tryz.prog)[39]?.any (fun fn => fn.body.isSome && fn.name != "runtime.NumGoroutine") = true := by rw [Tryz.func39]; kernel_rfl
theorem bI2 : (Program.funcs Tryz.prog)[40]?.any (fun fn => fn.body.isSome && fn.name != "runtime.NumGoroutine") = true := by rw [Tryz.func40]; kernel_rfl
theorem bIp : (Program.funcs Tryz.prog)[41]?.any (fun fn => fn.body.isSome && fn.name != "runtime.NumGoroutine") = true := by rw [Tryz.func41]; kernel_rfl
theorem bKc : (Program.funcs Tryz.prog)[42]?.any (fun fn => fn.body.isSome && fn.name != "runtime.NumGoroutine") = true := by rw [Tryz.func42]; kernel_rfl
theorem bIu : (Program.funcs Tryz.prog)[43]?.any (fun fn => fn.body.isSome && fn.name != "runtime.NumGoroutine") = true := by rw [Tryz.func43]; kernel_rfl
theorem bLb : (Program.funcs Tryz.prog)[44]?.any (fun fn => fn.body.isSome && fn.name != "runtime.NumGoroutine") = true := by rw [Tryz.func44]; kernel_rfl
theorem aLe : (Program.funcs Tryz.prog)[49]?.any (fun fn => fn.body.isSome && fn.name != "runtime.NumGoroutine") = true := by rw [Tryz.func49]; kernel_rfl
theorem bLt : (Program.funcs Tryz.prog)[50]?.any (fun fn => fn.body.isSome && fn.name != "runtime.NumGoroutine") = true := by rw [Tryz.func50]; kernel_rfl
theorem bKi : (Program.funcs Tryz.prog)[61]?.any (fun fn => fn.body.isSome && fn.name != "runtime.NumGoroutine") = true := by rw [Tryz.func61]; kernel_rfl
theorem bGf : (Program.funcs Tryz.prog)[62]?.any (fun fn => fn.body.isSome && fn.name != "runtime.NumGoroutine") = true := by rw [Tryz.func62]; kernel_rfl
theorem bI7 : (Program.funcs Tryz.prog)[63]?.any (fun fn => fn.body.isSome && fn.name != "runtime.NumGoroutine") = true := by rw [Tryz.func63]; kernel_rfl
theorem bJi : (Program.funcs Tryz.prog)[64]?.any (fun fn => fn.body.isSome && fn.name != "runtime.NumGoroutine") = true := by rw [Tryz.func64]; kernel_rfl
theorem bKg : (Program.funcs Tryz.prog)[65]?.any (fun fn => fn.body.isSome && fn.name != "runtime.NumGoroutine") = true := by rw [Tryz.func65]; kernel_rfl
theorem bHj : (Program.funcs Tryz.prog)[67]?.any (fun fn => fn.body.isSome && fn.name != "runtime.NumGoroutine") = true := by rw [Tryz.func67]; kernel_rfl
theorem bDu : (Program.funcs Tryz.prog)[68]?.any (fun fn => fn.body.isSome && fn.name != "runtime.NumGoroutine") = true := by rw [Tryz.func68]; kernel_rfl
theorem bHq : (Program.funcs Tryz.prog)[69]?.any (fun fn => fn.body.isSome && fn.name != "runtime.NumGoroutine") = true := by rw [Tryz.func69]; kernel_rfl
theorem bDc : (Program.funcs Tryz.prog)[70]?.any (fun fn => fn.body.isSome && fn.name != "runtime.NumGoroutine") = true := by rw [Tryz.func70]; kernel_rfl
theorem aX0 : (Program.funcs Tryz.prog)[71]?.any (fun fn => fn.body.isSome && fn.name != "runtime.NumGoroutine") = true := by rw [Tryz.func71]; kernel_rfl
theorem aWr : (Program.funcs Tryz.prog)[72]?.any (fun fn => fn.body.isSome && fn.name != "runtime.NumGoroutine") = true := by rw [Tryz.func72]; kernel_rfl
theorem bGr : (Program.funcs Tryz.prog)[73]?.any (fun fn => fn.body.isSome && fn.name != "runtime.NumGoroutine") = true := by rw [Tryz.func73]; kernel_rfl
theorem aUc : (Program.funcs Tryz.prog)[74]?.any (fun fn => fn.body.isSome && fn.name != "runtime.NumGoroutine") = true := by rw [Tryz.func74]; kernel_rfl
theorem bDh : (Program.funcs Tryz.prog)[75]?.any (fun fn => fn.body.isSome && fn.name != "runtime.NumGoroutine") = true := by rw [Tryz.func75]; kernel_rfl
theorem aZu : (Program.funcs Tryz.prog)[76]?.any (fun fn => fn.body.isSome && fn.name != "runtime.NumGoroutine") = true := by rw [Tryz.func76]; kernel_rfl
theorem bEm : (Program.funcs Tryz.prog)[77]?.any (fun fn => fn.body.isSome && fn.name != "runtime.NumGoroutine") = true := by rw [Tryz.func77]; kernel_rfl
theorem bA1 : (Program.funcs Tryz.prog)[78]?.any (fun fn => fn.body.isSome && fn.name != "runtime.NumGoroutine") = true := by rw [Tryz.func78]; kernel_rfl
theorem bKx : (Program.funcs Tryz.prog)[79]?.any (fun fn => fn.body.isSome && fn.name != "runtime.NumGoroutine") = true := by rw [Tryz.func79]; kernel_rfl
theorem bJt : (Program.funcs Tryz.prog)[80]?.any (fun fn => fn.body.isSome && fn.name != "runtime.NumGoroutine") = true := by rw [Tryz.func80]; kernel_rfl
theorem bJ8 : (Program.funcs Tryz.prog)[81]?.any (fun fn => fn.body.isSome && fn.name != "runtime.NumGoroutine") = true := by rw [Tryz.func81]; kernel_rfl
theorem bJe : (Program.funcs Tryz.prog)[83]?.any (fun fn => fn.body.isSome && fn.name != "runtime.NumGoroutine") = true := by rw [Tryz.func83]; kernel_rfl
theorem bJg : (Program.funcs Tryz.prog)[84]?.any (fun fn => fn.body.isSome && fn.name != "runtime.NumGoroutine") = true := by rw [Tryz.func84]; kernel_rfl
theorem bLz : (Program.funcs Tryz.prog)[85]?.any (fun fn => fn.body.isSome && fn.name != "runtime.NumGoroutine") = true := by rw [Tryz.func85]; kernel_rfl
theorem bIz : (Program.funcs Tryz.prog)[86]?.any (fun fn => fn.body.isSome && fn.name != "runtime.NumGoroutine") = true := by rw [Tryz.func86]; kernel_rfl
theorem bJ5 : (Program.funcs Tryz.prog)[88]?.any (fun fn => fn.body.isSome && fn.name != "runtime.NumGoroutine") = true := by rw [Tryz.func88]; kernel_rfl
theorem aOg : (Program.funcs Tryz.prog)[89]?.any (fun fn => fn.body.isSome && fn.name != "runtime.NumGoroutine") = true := by rw [Tryz.func89]; kernel_rfl
theorem bA9 : (Program.funcs Tryz.prog)[90]?.any (fun fn => fn.body.isSome && fn.name != "runtime.NumGoroutine") = true := by rw [Tryz.func90]; kernel_rfl
theorem aTn : (Program.funcs Tryz.prog)[91]?.any (fun fn => fn.body.isSome && fn.name != "runtime.NumGoroutine") = true := by rw [Tryz.func91]; kernel_rfl
theorem bJw : (Program.funcs Tryz.prog)[96]?.any (fun fn => fn.body.isSome && fn.name != "runtime.NumGoroutine") = true := by rw [Tryz.func96]; kernel_rfl
theorem aWq : (Program.funcs Tryz.prog)[97]?.any (fun fn => fn.body.isSome && fn.name != "runtime.NumGoroutine") = true := by rw [Tryz.func97]; kernel_rfl
theorem bGk : (Program.funcs Tryz.prog)[98]?.any (fun fn => fn.body.isSome && fn.name != "runtime.NumGoroutine") = true := by rw [Tryz.func98]; kernel_rfl
theorem aXr : (Program.funcs Tryz.prog)[99]?.any (fun fn => fn.body.isSome && fn.name != "runtime.NumGoroutine") = true := by rw [Tryz.func99]; kernel_rfl
theorem bGh : (Program.funcs Tryz.prog)[100]?.any (fun fn => fn.body.isSome && fn.name != "runtime.NumGoroutine") = true := by rw [Tryz.func100]; kernel_rfl
theorem bF8 : (Program.funcs Tryz.prog)[101]?.any (fun fn => fn.body.isSome && fn.name != "runtime.NumGoroutine") = true := by rw [Tryz.func101]; kernel_rfl
theorem aZ1 : (Program.funcs Tryz.prog)[102]?.any (fun fn => fn.body.isSome && fn.name != "runtime.NumGoroutine") = true := by rw [Tryz.func102]; kernel_rfl
theorem aPf : (Program.funcs Tryz.prog)[103]?.any (fun fn => fn.body.isSome && fn.name != "runtime.NumGoroutine") = true := by rw [Tryz.func103]; kernel_rfl
theorem bDf : (Program.funcs Tryz.prog)[104]?.any (fun fn => fn.body.isSome && fn.name != "runtime.NumGoroutine") = true := by rw [Tryz.func104]; kernel_rfl
theorem bDi : (Program.funcs Tryz.prog)[105]?.any (fun fn => fn.body.isSome && fn.name != "runtime.NumGoroutine") = true := by rw [Tryz.func105]; kernel_rfl
theorem bCh : (Program.funcs Tryz.prog)[106]?.any (fun fn => fn.body.isSome && fn.name != "runtime.NumGoroutine") = true := by rw [Tryz.func106]; kernel_rfl
theorem aZ2 : (Program.funcs Tryz.prog)[107]?.any (fun fn => fn.body.isSome && fn.name != "runtime.NumGoroutine") = true := by rw [Tryz.func107]; kernel_rfl
theorem bBs : (Program.funcs Tryz.prog)[108]?.any (fun fn => fn.body.isSome && fn.name != "runtime.NumGoroutine") = true := by rw [Tryz.func108]; kernel_rfl
theorem bC8 : (Program.funcs Tryz.prog)[109]?.any (fun fn => fn.body.isSome && fn.name != "runtime.NumGoroutine") = true := by rw [Tryz.func109]; kernel_rfl
theorem bBh : (Program.funcs Tryz.prog)[112]?.any (fun fn => fn.body.isSome && fn.name != "runtime.NumGoroutine") = true := by rw [Tryz.func112]; kernel_rfl
theorem bDg : (Program.funcs Tryz.prog)[113]?.any (fun fn => fn.body.isSome && fn.name != "runtime.NumGoroutine") = true := by rw [Tryz.func113]; kernel_rfl
theorem aZ7 : (Program.funcs Tryz.prog)[114]?.any (fun fn => fn.body.isSome && fn.name != "runtime.NumGoroutine") = true := by rw [Tryz.func114]; kernel_rfl
theorem aZ4 : (Program.funcs Tryz.prog)[115]?.any (fun fn => fn.body.isSome && fn.name != "runtime.NumGoroutine") = true := by rw [Tryz.func115]; kernel_rfl
theorem bF1 : (Program.funcs Tryz.prog)[116]?.any (fun fn => fn.body.isSome && fn.name != "runtime.NumGoroutine") = true := by rw [Tryz.func116]; kernel_rfl
theorem aZd : (Program.funcs Tryz.prog)[117]?.any (fun fn => fn.body.isSome && fn.name != "runtime.NumGoroutine") = true := by rw [Tryz.func117]; kernel_rfl
theorem bE6 : (Program.funcs Tryz.prog)[118]?.any (fun fn => fn.body.isSome && fn.name != "runtime.NumGoroutine") = true := by rw [Tryz.func118]; kernel_rfl
theorem aZ8 : (Program.funcs Tryz.prog)[120]?.any (fun fn => fn.body.isSome && fn.name != "runtime.NumGoroutine") = true := by rw [Tryz.func120]; kernel_rfl
theorem aVn : (Program.funcs Tryz.prog)[121]?.any (fun fn => fn.body.isSome && fn.name != "runtime.NumGoroutine") = true := by rw [Tryz.func121]; kernel_rfl
theorem bD7 : (Program.funcs Tryz.prog)[122]?.any (fun fn => fn.body.isSome && fn.name != "runtime.NumGoroutine") = true := by rw [Tryz.func122]; kernel_rfl
theorem aKs : (Program.funcs Tryz.prog)[125]?.any (fun fn => fn.body.isSome && fn.name != "runtime.NumGoroutine") = true := by rw [Tryz.func125]; kernel_rfl
theorem aYp : (Program.funcs Tryz.prog)[126]?.any (fun fn => fn.body.isSome && fn.name != "runtime.NumGoroutine") = true := by rw [Tryz.func126]; kernel_rfl
theorem aTr : (Program.funcs Tryz.prog)[127]?.any (fun fn => fn.body.isSome && fn.name != "runtime.NumGoroutine") = true := by rw [Tryz.func127]; kernel_rfl
theorem aFs : (Program.funcs Tryz.prog)[128]?.any (fun fn => fn.body.isSome && fn.name != "runtime.NumGoroutine") = true := by rw [Tryz.func128]; kernel_rfl
theorem bDo : (Program.funcs Tryz.prog)[129]?.any (fun fn => fn.body.isSome && fn.name != "runtime.NumGoroutine") = true := by rw [Tryz.func129]; kernel_rfl
theorem bD6 : (Program.funcs Tryz.prog)[130]?.any (fun fn => fn.body.isSome && fn.name != "runtime.NumGoroutine") = true := by rw [Tryz.func130]; kernel_rfl
theorem bEe : (Program.funcs Tryz.prog)[131]?.any (fun fn => fn.body.isSome && fn.name != "runtime.NumGoroutine") = true := by rw [Tryz.func131]; kernel_rfl
theorem aYs : (Program.funcs Tryz.prog)[132]?.any (fun fn => fn.body.isSome && fn.name != "runtime.NumGoroutine") = true := by rw [Tryz.func132]; kernel_rfl
theorem bFi : (Program.funcs Tryz.prog)[133]?.any (fun fn => fn.body.isSome && fn.name != "runtime.NumGoroutine") = true := by rw [Tryz.func133]; kernel_rfl
theorem aUa : (Program.funcs Tryz.prog)[134]?.any (fun fn => fn.body.isSome && fn.name != "runtime.NumGoroutine") = true := by rw [Tryz.func134]; kernel_rfl
theorem aGa : (Program.funcs Tryz.prog)[135]?.any (fun fn => fn.body.isSome && fn.name != "runtime.NumGoroutine") = true := by rw [Tryz.func135]; kernel_rfl
theorem bDx : (Program.funcs Tryz.prog)[136]?.any (fun fn => fn.body.isSome && fn.name != "runtime.NumGoroutine") = true := by rw [Tryz.func136]; kernel_rfl
theorem aPo : (Program.funcs Tryz.prog)[137]?.any (fun fn => fn.body.isSome && fn.name != "runtime.NumGoroutine") = true := by rw [Tryz.func137]; kernel_rfl
theorem bBp : (Program.funcs Tryz.prog)[138]?.any (fun fn => fn.body.isSome && fn.name != "runtime.NumGoroutine") = true := by rw [Tryz.func138]; kernel_rfl
theorem bG7 : (Program.funcs Tryz.prog)[139]?.any (fun fn => fn.body.isSome && fn.name != "runtime.NumGoroutine") = true := by rw [Tryz.func139]; kernel_rfl
theorem aZf : (Program.funcs Tryz.prog)[140]?.any (fun fn => fn.body.isSome && fn.name != "runtime.NumGoroutine") = true := by rw [Tryz.func140]; kernel_rfl
theorem aYi : (Program.funcs Tryz.prog)[141]?.any (fun fn => fn.body.isSome && fn.name != "runtime.NumGoroutine") = true := by rw [Tryz.func141]; kernel_rfl
theorem aLd : (Program.funcs Tryz.prog)[143]?.any (fun fn => fn.body.isSome && fn.name != "runtime.NumGoroutine") = true := by rw [Tryz.func143]; kernel_rfl
theorem uW : (Program.funcs Tryz.prog)[144]?.any (fun fn => fn.body.isSome && fn.name != "runtime.NumGoroutine") = true := by rw [Tryz.func144]; kernel_rfl
theorem bHc : (Program.funcs Tryz.prog)[145]?.any (fun fn => fn.body.isSome && fn.name != "runtime.NumGoroutine") = true := by rw [Tryz.func145]; kernel_rfl
theorem bGx : (Program.funcs Tryz.prog)[151]?.any (fun fn => fn.body.isSome && fn.name != "runtime.NumGoroutine") = true := by rw [Tryz.func151]; kernel_rfl
theorem aYo : (Program.funcs Tryz.prog)[155]?.any (fun fn => fn.body.isSome && fn.name != "runtime.NumGoroutine") = true := by rw [Tryz.func155]; kernel_rfl
theorem bF7 : (Program.funcs Tryz.prog)[156]?.any (fun fn => fn.body.isSome && fn.name != "runtime.NumGoroutine") = true := by rw [Tryz.func156]; kernel_rfl
theorem aPl : (Program.funcs Tryz.prog)[164]?.any (fun fn => fn.body.isSome && fn.name != "runtime.NumGoroutine") = true := by rw [Tryz.func164]; kernel_rfl
theorem bCm : (Program.funcs Tryz.prog)[165]?.any (fun fn => fn.body.isSome && fn.name != "runtime.NumGoroutine") = true := by rw [Tryz.func165]; kernel_rfl
theorem bC9 : (Program.funcs Tryz.prog)[166]?.any (fun fn => fn.body.isSome && fn.name != "runtime.NumGoroutine") = true := by rw [Tryz.func166]; kernel_rfl
theorem bDv : (Program.funcs Tryz.prog)[167]?.any (fun fn => fn.body.isSome && fn.name != "runtime.NumGoroutine") = true := by rw [Tryz.func167]; kernel_rfl
theorem aYr : (Program.funcs Tryz.prog)[168]?.any (fun fn => fn.body.isSome && fn.name != "runtime.NumGoroutine") = true := by rw [Tryz.func168]; kernel_rfl
theorem bFa : (Program.funcs Tryz.prog)[169]?.any (fun fn => fn.body.isSome && fn.name != "runtime.NumGoroutine") = true := by rw [Tryz.func169]; kernel_rfl
theorem bCs : (Program.funcs Tryz.prog)[170]?.any (fun fn => fn.body.isSome && fn.name != "runtime.NumGoroutine") = true := by rw [Tryz.func170]; kernel_rfl
theorem bCy : (Program.funcs Tryz.prog)[171]?.any (fun fn => fn.body.isSome && fn.name != "runtime.NumGoroutine") = true := by rw [Tryz.func171]; kernel_rfl
theorem aYq : (Program.funcs Tryz.prog)[172]?.any (fun fn => fn.body.isSome && fn.name != "runtime.NumGoroutine") = true := by rw [Tryz.func172]; kernel_rfl
theorem tC : (Program.funcs Tryz.prog)[173]?.any (fun fn => fn.body.isSome && fn.name != "runtime.NumGoroutine") = true := by rw [Tryz.func173]; kernel_rfl
theorem aYt : (Program.funcs Tryz.prog)[174]?.any (fun fn => fn.body.isSome && fn.name != "runtime.NumGoroutine") = true := by rw [Tryz.func174]; kernel_rfl
theorem bC1 : (Program.funcs Tryz.prog)[183]?.any (fun fn => fn.body.isSome && fn.name != "runtime.NumGoroutine") = true := by rw [Tryz.func183]; kernel_rfl
theorem aYz : (Program.funcs Tryz.prog)[184]?.any (fun fn => fn.body.isSome && fn.name != "runtime.NumGoroutine") = true := by rw [Tryz.func184]; kernel_rfl
theorem bDj : (Program.funcs Tryz.prog)[185]?.any (fun fn => fn.body.isSome && fn.name != "runtime.NumGoroutine") = true := by rw [Tryz.func185]; kernel_rfl
theorem bCg : (Program.funcs Tryz.prog)[186]?.any (fun fn => fn.body.isSome && fn.name != "runtime.NumGoroutine") = true := by rw [Tryz.func186]; kernel_rfl
theorem bD9 : (Program.funcs Tryz.prog)[187]?.any (fun fn => fn.body.isSome && fn.name != "runtime.NumGoroutine") = true := by rw [Tryz.func187]; kernel_rfl
theorem bFm : (Program.funcs Tryz.prog)[188]?.any (fun fn => fn.body.isSome && fn.name != "runtime.NumGoroutine") = true := by rw [Tryz.func188]; kernel_rfl
theorem aZa : (Program.funcs Tryz.prog)[189]?.any (fun fn => fn.body.isSome && fn.name != "runtime.NumGoroutine") = true := by rw [Tryz.func189]; kernel_rfl
theorem aZb : (Program.funcs Tryz.prog)[190]?.any (fun fn => fn.body.isSome && fn.name != "runtime.NumGoroutine") = true := by rw [Tryz.func190]; kernel_rfl
theorem bHk : (Program.funcs Tryz.prog)[191]?.any (fun fn => fn.body.isSome && fn.name != "runtime.NumGoroutine") = true := by rw [Tryz.func191]; kernel_rfl
theorem aZ6 : (Program.funcs Tryz.prog)[192]?.any (fun fn => fn.body.isSome && fn.name != "runtime.NumGoroutine") = true := by rw [Tryz.func192]; kernel_rfl
theorem bAv : (Program.funcs Tryz.prog)[193]?.any (fun fn => fn.body.isSome && fn.name != "runtime.NumGoroutine") = true := by rw [Tryz.func193]; kernel_rfl
theorem bB3 : (Program.funcs Tryz.prog)[196]?.any (fun fn => fn.body.isSome && fn.name != "runtime.NumGoroutine") = true := by rw [Tryz.func196]; kernel_rfl
theorem bH7 : (Program.funcs Tryz.prog)[197]?.any (fun fn => fn.body.isSome && fn.name != "runtime.NumGoroutine") = true := by rw [Tryz.func197]; kernel_rfl
theorem bB5 : (Program.funcs Tryz.prog)[198]?.any (fun fn => fn.body.isSome && fn.name != "runtime.NumGoroutine") = true := by rw [Tryz.func198]; kernel_rfl
theorem aYl : (Program.funcs Tryz.prog)[199]?.any (fun fn => fn.body.isSome && fn.name != "runtime.NumGoroutine") = true := by rw [Tryz.func199]; kernel_rfl
theorem bH9 : (Program.funcs Tryz.prog)[200]?.any (fun fn => fn.body.isSome && fn.name != "runtime.NumGoroutine") = true := by rw [Tryz.func200]; kernel_rfl
theorem bAt : (Program.funcs Tryz.prog)[201]?.any (fun fn => fn.body.isSome && fn.name != "runtime.NumGoroutine") = true := by rw [Tryz.func201]; kernel_rfl
theorem bEa : (Program.funcs Tryz.prog)[202]?.any (fun fn => fn.body.isSome && fn.name != "runtime.NumGoroutine") = true := by rw [Tryz.func202]; kernel_rfl
theorem bGc : (Program.funcs Tryz.prog)[203]?.any (fun fn => fn.body.isSome && fn.name != "runtime.NumGoroutine") = true := by rw [Tryz.func203]; kernel_rfl
theorem bEv : (Program.funcs Tryz.prog)[204]?.any (fun fn => fn.body.isSome && fn.name != "runtime.NumGoroutine") = true := by rw [Tryz.func204]; kernel_rfl
theorem bFh : (Program.funcs Tryz.prog)[205]?.any (fun fn => fn.body.isSome && fn.name != "runtime.NumGoroutine") = true := by rw [Tryz.func205]; kernel_rfl
theorem bB2 : (Program.funcs Tryz.prog)[206]?.any (fun fn => fn.body.isSome && fn.name != "runtime.NumGoroutine") = true := by rw [Tryz.func206]; kernel_rfl
theorem aYm : (Program.funcs Tryz.prog)[207]?.any (fun fn => fn.body.isSome && fn.name != "runtime.NumGoroutine") = true := by rw [Tryz.func207]; kernel_rfl
theorem bBi : (Program.funcs Tryz.prog)[208]?.any (fun fn => fn.body.isSome && fn.name != "runtime.NumGoroutine") = true := by rw [Tryz.func208]; kernel_rfl
theorem bEf : (Program.funcs Tryz.prog)[209]?.any (fun fn => fn.body.isSome && fn.name != "runtime.NumGoroutine") = true := by rw [Tryz.func209]; kernel_rfl
theorem bGl : (Program.funcs Tryz.prog)[210]?.any (fun fn => fn.body.isSome && fn.name != "runtime.NumGoroutine") = true := by rw [Tryz.func210]; kernel_rfl
theorem aYw : (Program.funcs Tryz.prog)[211]?.any (fun fn => fn.body.isSome && fn.name != "runtime.NumGoroutine") = true := by rw [Tryz.func211]; kernel_rfl
theorem bG9 : (Program.funcs Tryz.prog)[212]?.any (fun fn => fn.body.isSome && fn.name != "runtime.NumGoroutine") = true := by rw [Tryz.func212]; kernel_rfl
theorem bCf : (Program.funcs Tryz.prog)[213]?.any (fun fn => fn.body.isSome && fn.name != "runtime.NumGoroutine") = true := by rw [Tryz.func213]; kernel_rfl
theorem mix : Tryz.prog.follows .mixedOrders = true := by kernel_rfl
theorem mi3 (H : aP) (ρ : Operand → AV) (x : Operand) : bS Tryz.prog H ρ (.makeInterface 3 x) = some (.ifc 3 (ρ x)) := by simp only [bS, Tryz.underlying3]
attribute [go_sem] mi3
theorem mi4 (H : aP) (ρ : Operand → AV) (x : Operand) : bS Tryz.prog H ρ (.makeInterface 4 x) = some (.ifc 4 (ρ x)) := by simp only [bS, Tryz.underlying4]
attribute [go_sem] mi4
theorem ln9 (s : ByteArray) : bZ Tryz.prog .len [9] [.v (.string s)] = some (.v (.int .i64 s.size)) := oA Tryz.underlying9
attribute [go_sem] ln9
theorem mi9 (H : aP) (ρ : Operand → AV) (x : Operand) : bS Tryz.prog H ρ (.makeInterface 9 x) = some (.ifc 9 (ρ x)) := by simp only [bS, Tryz.underlying9]
attribute [go_sem] mi9
theorem bKb (s : ByteArray) : bZ Tryz.prog .len [10] [.v (.string s)] = some (.v (.int .i64 s.size)) := oA Tryz.underlying10
attribute [go_sem] bKb
theorem bKa (s : ByteArray) : bZ Tryz.prog .len [11] [.v (.string s)] = some (.v (.int .i64 s.size)) := oA Tryz.underlying11
attribute [go_sem] bKa
theorem bI9 (xs : List AV) (n : Nat) (f : Bool) : bZ Tryz.prog .len [24] [.sl xs n f] = some (.v (.int .i64 n)) := dP Tryz.underlying24
theorem bIo (j o n : Nat) : bZ Tryz.prog .len [24] [.own j o n] = some (.v (.int .i64 n)) := dF Tryz.underlying24
theorem bHw (n c : Nat) : bZ Tryz.prog .len [24] [.v (.slice none n c)] = some (.v (.int .i64 n)) := dG Tryz.underlying24
attribute [go_sem] bI9 bIo bHw
theorem bL6 (H : aP) (ρ : Operand → AV) (x : Operand) : bS Tryz.prog H ρ (.makeInterface 24 x) = some (.ifc 24 (ρ x)) := by simp only [bS, Tryz.underlying24]
attribute [go_sem] bL6
theorem bKq (xs : List AV) (n : Nat) (f : Bool) : bZ Tryz.prog .len [25] [.sl xs n f] = some (.v (.int .i64 n)) := dP Tryz.underlying25
theorem bJ1 (j o n : Nat) : bZ Tryz.prog .len [25] [.own j o n] = some (.v (.int .i64 n)) := dF Tryz.underlying25
theorem bL3 (n c : Nat) : bZ Tryz.prog .len [25] [.v (.slice none n c)] = some (.v (.int .i64 n)) := dG Tryz.underlying25
attribute [go_sem] bKq bJ1 bL3
theorem bLo (xs : List AV) (n : Nat) (f : Bool) : bZ Tryz.prog .len [27] [.sl xs n f] = some (.v (.int .i64 n)) := dP Tryz.underlying27
theorem bJy (j o n : Nat) : bZ Tryz.prog .len [27] [.own j o n] = some (.v (.int .i64 n)) := dF Tryz.underlying27
theorem bLs (n c : Nat) : bZ Tryz.prog .len [27] [.v (.slice none n c)] = some (.v (.int .i64 n)) := dG Tryz.underlying27
attribute [go_sem] bLo bJy bLs
theorem bJo (xs : List AV) (n : Nat) (f : Bool) : bZ Tryz.prog .len [28] [.sl xs n f] = some (.v (.int .i64 n)) := dP Tryz.underlying28
theorem bIw (j o n : Nat) : bZ Tryz.prog .len [28] [.own j o n] = some (.v (.int .i64 n)) := dF Tryz.underlying28
theorem bIq (n c : Nat) : bZ Tryz.prog .len [28] [.v (.slice none n c)] = some (.v (.int .i64 n)) := dG Tryz.underlying28
attribute [go_sem] bJo bIw bIq
theorem bLi (xs : List AV) (n : Nat) (f : Bool) : bZ Tryz.prog .len [31] [.sl xs n f] = some (.v (.int .i64 n)) := dP Tryz.underlying31
theorem bId (j o n : Nat) : bZ Tryz.prog .len [31] [.own j o n] = some (.v (.int .i64 n)) := dF Tryz.underlying31
theorem bJq (n c : Nat) : bZ Tryz.prog .len [31] [.v (.slice none n c)] = some (.v (.int .i64 n)) := dG Tryz.underlying31
attribute [go_sem] bLi bId bJq
theorem bKw (H : aP) (ρ : Operand → AV) (x : Operand) : bS Tryz.prog H ρ (.makeInterface 36 x) = some (.ifc 36 (ρ x)) := by simp only [bS, Tryz.underlying36]
attribute [go_sem] bKw
theorem bLl (xs : List AV) (n : Nat) (f : Bool) : bZ Tryz.prog .len [40] [.sl xs n f] = some (.v (.int .i64 n)) := dP Tryz.underlying40
theorem bJv (j o n : Nat) : bZ Tryz.prog .len [40] [.own j o n] = some (.v (.int .i64 n)) := dF Tryz.underlying40
theorem bK1 (n c : Nat) : bZ Tryz.prog .len [40] [.v (.slice none n c)] = some (.v (.int .i64 n)) := dG Tryz.underlying40
attribute [go_sem] bLl bJv bK1
theorem bLx (H : aP) (ρ : Operand → AV) (x : Operand) : bS Tryz.prog H ρ (.makeInterface 40 x) = some (.ifc 40 (ρ x)) := by simp only [bS, Tryz.underlying40]
attribute [go_sem] bLx
theorem bIb (xs : List AV) (n : Nat) (f : Bool) : bZ Tryz.prog .len [54] [.sl xs n f] = some (.v (.int .i64 n)) := dP Tryz.underlying54
theorem bJj (j o n : Nat) : bZ Tryz.prog .len [54] [.own j o n] = some (.v (.int .i64 n)) := dF Tryz.underlying54
theorem bM0 (n c : Nat) : bZ Tryz.prog .len [54] [.v (.slice none n c)] = some (.v (.int .i64 n)) := dG Tryz.underlying54
attribute [go_sem] bIb bJj bM0
theorem bC7 (xs : List AV) (n : Nat) (f : Bool) : bZ Tryz.prog .len [112] [.sl xs n f] = some (.v (.int .i64 n)) := dP Tryz.underlying112
theorem bG3 (j o n : Nat) : bZ Tryz.prog .len [112] [.own j o n] = some (.v (.int .i64 n)) := dF Tryz.underlying112
theorem bG4 (n c : Nat) : bZ Tryz.prog .len [112] [.v (.slice none n c)] = some (.v (.int .i64 n)) := dG Tryz.underlying112
attribute [go_sem] bC7 bG3 bG4
theorem bFp (xs : List AV) (n : Nat) (f : Bool) : bZ Tryz.prog .len [172] [.sl xs n f] = some (.v (.int .i64 n)) := dP Tryz.underlying172
theorem bGi (j o n : Nat) : bZ Tryz.prog .len [172] [.own j o n] = some (.v (.int .i64 n)) := dF Tryz.underlying172
theorem bF2 (n c : Nat) : bZ Tryz.prog .len [172] [.v (.slice none n c)] = some (.v (.int .i64 n)) := dG Tryz.underlying172
attribute [go_sem] bFp bGi bF2
theorem bBy (xs : List AV) (n : Nat) (f : Bool) : bZ Tryz.prog .len [204] [.sl xs n f] = some (.v (.int .i64 n)) := dP Tryz.underlying204
theorem bFk (j o n : Nat) : bZ Tryz.prog .len [204] [.own j o n] = some (.v (.int .i64 n)) := dF Tryz.underlying204
theorem bFg (n c : Nat) : bZ Tryz.prog .len [204] [.v (.slice none n c)] = some (.v (.int .i64 n)) := dG Tryz.underlying204
attribute [go_sem] bBy bFk bFg
theorem bHl (xs : List AV) (n : Nat) (f : Bool) : bZ Tryz.prog .len [225] [.sl xs n f] = some (.v (.int .i64 n)) := dP Tryz.underlying225
theorem bCc (j o n : Nat) : bZ Tryz.prog .len [225] [.own j o n] = some (.v (.int .i64 n)) := dF Tryz.underlying225
theorem bH4 (n c : Nat) : bZ Tryz.prog .len [225] [.v (.slice none n c)] = some (.v (.int .i64 n)) := dG Tryz.underlying225
attribute [go_sem] bHl bCc bH4
theorem bHi (xs : List AV) (n : Nat) (f : Bool) : bZ Tryz.prog .len [263] [.sl xs n f] = some (.v (.int .i64 n)) := dP Tryz.underlying263
theorem bC3 (j o n : Nat) : bZ Tryz.prog .len [263] [.own j o n] = some (.v (.int .i64 n)) := dF Tryz.underlying263
theorem bH8 (n c : Nat) : bZ Tryz.prog .len [263] [.v (.slice none n c)] = some (.v (.int .i64 n)) := dG Tryz.underlying263
attribute [go_sem] bHi bC3 bH8
theorem bFu (xs : List AV) (n : Nat) (f : Bool) : bZ Tryz.prog .len [265] [.sl xs n f] = some (.v (.int .i64 n)) := dP Tryz.underlying265
theorem bB1 (j o n : Nat) : bZ Tryz.prog .len [265] [.own j o n] = some (.v (.int .i64 n)) := dF Tryz.underlying265
theorem bG5 (n c : Nat) : bZ Tryz.prog .len [265] [.v (.slice none n c)] = some (.v (.int .i64 n)) := dG Tryz.underlying265
attribute [go_sem] bFu bB1 bG5
attribute [go_sem] Tryz.underlying0 sz0 Tryz.underlying1 sz1 Tryz.underlying2 sz2 Tryz.underlying3 sz3 Tryz.underlying4 sz4 Tryz.underlying5 sz5 Tryz.underlying6 sz6 Tryz.underlying7 sz7 Tryz.underlying8 sz8 Tryz.underlying9 sz9 Tryz.underlying10 bIy Tryz.underlying11 bKy Tryz.underlying12 bIe Tryz.underlying13 bKo Tryz.underlying14 bIi Tryz.underlying15 bKu Tryz.underlying16 bIv Tryz.underlying17 bJ7 Tryz.underlying18 bJs Tryz.underlying19 bK4 Tryz.underlying20 bKn Tryz.underlying21 bLa Tryz.underlying22 bI6 Tryz.underlying23 bAi Tryz.underlying24 bLf Tryz.underlying25 bJ2 Tryz.underlying26 bKk Tryz.underlying27 bK8 Tryz.underlying28 aJ7 Tryz.underlying29 bLn Tryz.underlying30 wH Tryz.underlying31 aZz Tryz.underlying32 bJb Tryz.underlying33 qV Tryz.underlying34 bLm Tryz.underlying35 uY Tryz.underlying36 bIm Tryz.underlying37 bKm Tryz.underlying38 bKp Tryz.underlying39 bIh Tryz.underlying40 bKj Tryz.underlying41 bLc Tryz.underlying42 bJh Tryz.underlying43 nS Tryz.underlying44 bL8 Tryz.underlying45 bLy Tryz.underlying46 bJd Tryz.underlying47 bK9 Tryz.underlying48 bKf Tryz.underlying49 bJ0 Tryz.underlying50 bI8 Tryz.underlying51 bL7 Tryz.underlying52 bJr Tryz.underlying53 bK3 Tryz.underlying54 bJz Tryz.underlying55 bIk Tryz.underlying56 bCo Tryz.underlying57 bLe Tryz.underlying58 bL0 Tryz.underlying59 bLv Tryz.underlying60 aEx Tryz.underlying61 bJu Tryz.underlying62 bLq Tryz.underlying63 bKe Tryz.underlying64 bI3 Tryz.underlying65 bIl Tryz.underlying66 bKd Tryz.underlying67 bKv Tryz.underlying68 bI5 Tryz.underlying69 aHc Tryz.underlying70 bKr Tryz.underlying71 bKl Tryz.underlying72 bIa Tryz.underlying73 bJ6 Tryz.underlying74 bLr Tryz.underlying75 bHz Tryz.underlying76 bKt Tryz.underlying77 bLd Tryz.underlying78 bL4 Tryz.underlying79 bKs Tryz.underlying80 bLk Tryz.underlying81 bL9 Tryz.underlying82 bK7 Tryz.underlying83 bIf Tryz.underlying84 bIt Tryz.underlying85 bIs Tryz.underlying86 bJx Tryz.underlying87 bK6 Tryz.underlying88 bJa Tryz.underlying89 bJf Tryz.underlying90 bIc Tryz.underlying91 bJp Tryz.underlying92 bLu Tryz.underlying93 bK5 Tryz.underlying94 bI0 Tryz.underlying95 bIn Tryz.underlying96 bK2 Tryz.underlying97 bHv Tryz.underlying98 bJ4 Tryz.underlying99 bM1 Tryz.underlying100 bAq Tryz.underlying101 bDq Tryz.underlying102 dQ Tryz.underlying103 bHs Tryz.underlying104 mV Tryz.underlying105 bBl Tryz.underlying106 bBz Tryz.underlying107 bCp Tryz.underlying108 bEq Tryz.underlying109 bFw Tryz.underlying110 bFj Tryz.underlying111 bHg Tryz.underlying112 aDq Tryz.underlying113 bFx Tryz.underlying114 bDl Tryz.underlying115 bC0 Tryz.underlying116 bD2 Tryz.underlying117 bB8 Tryz.underlying118 bCr Tryz.underlying119 bH2 Tryz.underlying120 uT Tryz.underlying121 bBf Tryz.underlying122 bEi Tryz.underlying123 bBx Tryz.underlying124 bGy Tryz.underlying125 bBw Tryz.underlying126 bE7 Tryz.underlying127 bFy Tryz.underlying128 bBu Tryz.underlying129 bE1 Tryz.underlying130 yH Tryz.underlying131 bEh Tryz.underlying132 bAz Tryz.underlying133 bFl Tryz.underlying134 bAu Tryz.underlying135 bCx Tryz.underlying136 bFo Tryz.underlying137 bF9 Tryz.underlying138 bBo Tryz.underlying139 bDk Tryz.underlying140 bG1 Tryz.underlying141 bDz Tryz.underlying142 bH6 Tryz.underlying143 bE3 Tryz.underlying144 bDs Tryz.underlying145 bG8 Tryz.underlying146 bDb Tryz.underlying147 bFb Tryz.underlying148 bGt Tryz.underlying149 bEo Tryz.underlying150 bGm Tryz.underlying151 aPe Tryz.underlying152 bEy Tryz.underlying153 bDp Tryz.underlying154 bCu Tryz.underlying155 bC6 Tryz.underlying156 bE8 Tryz.underlying157 bFe Tryz.underlying158 xV Tryz.underlying159 bCz Tryz.underlying160 bAy Tryz.underlying161 bHb Tryz.underlying162 bAw Tryz.underlying163 bFc Tryz.underlying164 bH3 Tryz.underlying165 bCi Tryz.underlying166 bBc Tryz.underlying167 bGq Tryz.underlying168 bCb Tryz.underlying169 bGw Tryz.underlying170 bD0 Tryz.underlying171 bH5 Tryz.underlying172 bBe Tryz.underlying173 bFf Tryz.underlying174 bEx Tryz.underlying175 bEb Tryz.underlying178 bHt Tryz.underlying179 bHn Tryz.underlying180 bBg Tryz.underlying181 bEt Tryz.underlying182 bB7 Tryz.underlying183 bEs Tryz.underlying184 bB4 Tryz.underlying185 bE9 Tryz.underlying186 bDn Tryz.underlying187 bG2 Tryz.underlying188 bHa Tryz.underlying189 bFz Tryz.underlying190 bHh Tryz.underlying191 bGd Tryz.underlying192 bEr Tryz.underlying193 bBq Tryz.underlying194 bBr Tryz.underlying196 bCn Tryz.underlying197 bF6 Tryz.underlying198 bEg Tryz.underlying199 bGe Tryz.underlying200 bBd Tryz.underlying201 bF0 Tryz.underlying202 bFs Tryz.underlying203 bF5 Tryz.underlying204 bBb Tryz.underlying205 bCv Tryz.underlying206 bD1 Tryz.underlying207 bEw Tryz.underlying208 bGj Tryz.underlying209 bDm Tryz.underlying210 bBm Tryz.underlying211 bGv Tryz.underlying212 bGg Tryz.underlying213 bF3 Tryz.underlying214 bGb Tryz.underlying215 bHr Tryz.underlying216 bCw Tryz.underlying217 bCj Tryz.underlying218 bH0 Tryz.underlying219 bFt Tryz.underlying220 bFd Tryz.underlying221 bBt Tryz.underlying222 bAp Tryz.underlying223 bFv Tryz.underlying224 bEj Tryz.underlying225 bEd Tryz.underlying226 bBa Tryz.underlying227 bHd Tryz.underlying228 bBk Tryz.underlying229 bDy Tryz.underlying242 bHf Tryz.underlying243 aE0 Tryz.underlying245 bC4 Tryz.underlying253 bD3 Tryz.underlying254 bFq Tryz.underlying256 bAr Tryz.underlying257 bEl Tryz.underlying263 bG0 Tryz.underlying265 bEk Tryz.underlying267 bCe Tryz.underlying272 bAx Tryz.underlying273 bB0 Tryz.underlying274 bCl Tryz.underlying275 bG6 Tryz.underlying276 bE5 Tryz.underlying277 bCa Tryz.underlying278 bGu Tryz.underlying279 bH1 Tryz.underlying280 bHm Tryz.underlying281 bDt Tryz.underlying282 bAs Tryz.underlying283 bEu Tryz.underlying284 bE0 Tryz.underlying285 bHp Tryz.underlying286 bC5 Tryz.underlying287 bD4
end Go.Proofs.YtkdohhmacfoolaaGreat
