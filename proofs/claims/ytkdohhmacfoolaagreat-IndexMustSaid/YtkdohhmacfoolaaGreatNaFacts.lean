/- Facts that the statement's proof is made of. No condition. -/
import Derived.Test.YtkdohhmacfoolaaGreatRows
import Derived.Test.YtkdohhmacfoolaaGreatNaAmB
set_option linter.unusedSimpArgs false
set_option linter.unusedVariables false
namespace Go.Proofs.YtkdohhmacfoolaaGreat
open Go Go.AM
theorem sz0 : szOf Tryz.prog 0 = some 1 := by kernel_rfl
theorem sz1 : szOf Tryz.prog 1 = some 1 := by kernel_rfl
theorem sz2 : szOf Tryz.prog 2 = some 1 := by kernel_rfl
theorem sz3 : szOf Tryz.prog 3 = some 1 := by kernel_rfl
theorem in3 : Tryz.prog.info? 3 = some Tryz.t3 := by kernel_rfl
theorem ts3 : Tryz.t3.size = 1 := rfl
theorem tb3 : Tryz.t3.bytes = 8 := rfl
theorem tz3 : Tryz.t3.zero = some (Value.int IntKind.i64 0) := rfl
theorem zc3 : zeroCells? Tryz.prog 3 = some [.v (Value.int IntKind.i64 0)] := by kernel_rfl
theorem sz4 : szOf Tryz.prog 4 = some 1 := by kernel_rfl
theorem in4 : Tryz.prog.info? 4 = some Tryz.t4 := by kernel_rfl
theorem ts4 : Tryz.t4.size = 1 := rfl
theorem tb4 : Tryz.t4.bytes = 1 := rfl
theorem zc4 : zeroCells? Tryz.prog 4 = some [.v (Value.bool false)] := by kernel_rfl
theorem sz5 : szOf Tryz.prog 5 = some 1 := by kernel_rfl
theorem sz6 : szOf Tryz.prog 6 = some 1 := by kernel_rfl
theorem sz7 : szOf Tryz.prog 7 = some 4 := by kernel_rfl
theorem sz8 : szOf Tryz.prog 8 = some 4 := by kernel_rfl
theorem sz9 : szOf Tryz.prog 9 = some 1 := by kernel_rfl
theorem sz10 : szOf Tryz.prog 10 = some 1 := by kernel_rfl
theorem sz11 : szOf Tryz.prog 11 = some 1 := by kernel_rfl
theorem sz12 : szOf Tryz.prog 12 = some 1 := by kernel_rfl
theorem sz13 : szOf Tryz.prog 13 = some 2 := by kernel_rfl
theorem sz14 : szOf Tryz.prog 14 = some 2 := by kernel_rfl
theorem sz15 : szOf Tryz.prog 15 = some 1 := by kernel_rfl
theorem sz16 : szOf Tryz.prog 16 = some 1 := by kernel_rfl
theorem sz17 : szOf Tryz.prog 17 = some 1 := by kernel_rfl
theorem sz18 : szOf Tryz.prog 18 = some 1 := by kernel_rfl
theorem sz19 : szOf Tryz.prog 19 = some 1 := by kernel_rfl
theorem sz20 : szOf Tryz.prog 20 = some 1 := by kernel_rfl
theorem sz21 : szOf Tryz.prog 21 = some 1 := by kernel_rfl
theorem sz22 : szOf Tryz.prog 22 = some 3 := by kernel_rfl
theorem sz23 : szOf Tryz.prog 23 = some 3 := by kernel_rfl
theorem zc23 : zeroCells? Tryz.prog 23 = some [.v (Value.int IntKind.i64 0), .v (Value.int IntKind.i64 0), .v (Value.int IntKind.i64 0)] := by kernel_rfl
theorem sz24 : szOf Tryz.prog 24 = some 1 := by kernel_rfl
theorem in24 : Tryz.prog.info? 24 = some Tryz.t24 := by kernel_rfl
theorem tz24 : Tryz.t24.zero = some (Value.slice none 0 0) := rfl
theorem sz25 : szOf Tryz.prog 25 = some 1 := by kernel_rfl
theorem sz26 : szOf Tryz.prog 26 = some 1 := by kernel_rfl
theorem sz27 : szOf Tryz.prog 27 = some 1 := by kernel_rfl
theorem sz28 : szOf Tryz.prog 28 = some 1 := by kernel_rfl
theorem zc28 : zeroCells? Tryz.prog 28 = some [.v (Value.slice none 0 0)] := by kernel_rfl
theorem sz29 : szOf Tryz.prog 29 = some 5 := by kernel_rfl
theorem sz30 : szOf Tryz.prog 30 = some 5 := by kernel_rfl
theorem zc30 : zeroCells? Tryz.prog 30 = some [.v (Value.int IntKind.i64 0), .v (Value.int IntKind.i64 0), .v (Value.int IntKind.i64 0), .v (Value.slice none 0 0), .v (Value.slice none 0 0)] := by kernel_rfl
theorem sz31 : szOf Tryz.prog 31 = some 1 := by kernel_rfl
theorem sz32 : szOf Tryz.prog 32 = some 6 := by kernel_rfl
theorem sz33 : szOf Tryz.prog 33 = some 6 := by kernel_rfl
theorem zc33 : zeroCells? Tryz.prog 33 = some [.v (Value.int IntKind.i64 0), .v (Value.int IntKind.i64 0), .v (Value.int IntKind.i64 0), .v (Value.slice none 0 0), .v (Value.slice none 0 0), .v (Value.slice none 0 0)] := by kernel_rfl
theorem sz34 : szOf Tryz.prog 34 = some 2 := by kernel_rfl
theorem sz35 : szOf Tryz.prog 35 = some 2 := by kernel_rfl
theorem zc35 : zeroCells? Tryz.prog 35 = some [.v (Value.slice none 0 0), .v (Value.int IntKind.i64 0)] := by kernel_rfl
theorem sz36 : szOf Tryz.prog 36 = some 1 := by kernel_rfl
theorem in36 : Tryz.prog.info? 36 = some Tryz.t36 := by kernel_rfl
theorem sz37 : szOf Tryz.prog 37 = some 1 := by kernel_rfl
theorem sz38 : szOf Tryz.prog 38 = some 1 := by kernel_rfl
theorem sz39 : szOf Tryz.prog 39 = some 1 := by kernel_rfl
theorem sz40 : szOf Tryz.prog 40 = some 1 := by kernel_rfl
theorem sz41 : szOf Tryz.prog 41 = some 3 := by kernel_rfl
theorem sz42 : szOf Tryz.prog 42 = some 3 := by kernel_rfl
theorem sz43 : szOf Tryz.prog 43 = some 1 := by kernel_rfl
theorem in43 : Tryz.prog.info? 43 = some Tryz.t43 := by kernel_rfl
theorem ts43 : Tryz.t43.size = 1 := rfl
theorem tb43 : Tryz.t43.bytes = 8 := rfl
theorem tz43 : Tryz.t43.zero = some (Value.int IntKind.u64 0) := rfl
theorem zc43 : zeroCells? Tryz.prog 43 = some [.v (Value.int IntKind.u64 0)] := by kernel_rfl
theorem sz44 : szOf Tryz.prog 44 = some 4 := by kernel_rfl
theorem sz45 : szOf Tryz.prog 45 = some 4 := by kernel_rfl
theorem sz46 : szOf Tryz.prog 46 = some 1 := by kernel_rfl
theorem sz47 : szOf Tryz.prog 47 = some 1 := by kernel_rfl
theorem sz48 : szOf Tryz.prog 48 = some 1 := by kernel_rfl
theorem sz49 : szOf Tryz.prog 49 = some 1 := by kernel_rfl
theorem sz50 : szOf Tryz.prog 50 = some 1 := by kernel_rfl
theorem sz51 : szOf Tryz.prog 51 = some 1 := by kernel_rfl
theorem sz52 : szOf Tryz.prog 52 = some 1 := by kernel_rfl
theorem sz53 : szOf Tryz.prog 53 = some 1 := by kernel_rfl
theorem sz54 : szOf Tryz.prog 54 = some 1 := by kernel_rfl
theorem sz55 : szOf Tryz.prog 55 = some 6 := by kernel_rfl
theorem sz56 : szOf Tryz.prog 56 = some 6 := by kernel_rfl
theorem sz57 : szOf Tryz.prog 57 = some 1 := by kernel_rfl
theorem sz58 : szOf Tryz.prog 58 = some 1 := by kernel_rfl
theorem sz59 : szOf Tryz.prog 59 = some 1 := by kernel_rfl
theorem sz60 : szOf Tryz.prog 60 = some 2 := by kernel_rfl
theorem sz61 : szOf Tryz.prog 61 = some 1 := by kernel_rfl
theorem sz62 : szOf Tryz.prog 62 = some 1 := by kernel_rfl
theorem sz63 : szOf Tryz.prog 63 = some 1 := by kernel_rfl
theorem sz64 : szOf Tryz.prog 64 = some 1 := by kernel_rfl
theorem sz65 : szOf Tryz.prog 65 = some 1 := by kernel_rfl
theorem sz66 : szOf Tryz.prog 66 = some 1 := by kernel_rfl
theorem sz67 : szOf Tryz.prog 67 = some 1 := by kernel_rfl
theorem sz68 : szOf Tryz.prog 68 = some 1 := by kernel_rfl
theorem sz69 : szOf Tryz.prog 69 = some 2 := by kernel_rfl
theorem in69 : Tryz.prog.info? 69 = some Tryz.t69 := by kernel_rfl
theorem ts69 : Tryz.t69.size = 2 := rfl
theorem tb69 : Tryz.t69.bytes = 16 := rfl
theorem tz69 : Tryz.t69.zero = some (Value.agg #[Value.int IntKind.u64 0, Value.int IntKind.u64 0]) := rfl
theorem zc69 : zeroCells? Tryz.prog 69 = some [.v (Value.int IntKind.u64 0), .v (Value.int IntKind.u64 0)] := by kernel_rfl
theorem sz70 : szOf Tryz.prog 70 = some 1 := by kernel_rfl
theorem sz71 : szOf Tryz.prog 71 = some 1 := by kernel_rfl
theorem sz72 : szOf Tryz.prog 72 = some 1 := by kernel_rfl
theorem sz73 : szOf Tryz.prog 73 = some 1 := by kernel_rfl
theorem sz74 : szOf Tryz.prog 74 = some 1 := by kernel_rfl
theorem sz75 : szOf Tryz.prog 75 = some 1 := by kernel_rfl
theorem sz76 : szOf Tryz.prog 76 = some 1 := by kernel_rfl
theorem sz77 : szOf Tryz.prog 77 = some 1 := by kernel_rfl
theorem sz78 : szOf Tryz.prog 78 = some 1 := by kernel_rfl
theorem sz79 : szOf Tryz.prog 79 = some 1 := by kernel_rfl
theorem sz80 : szOf Tryz.prog 80 = some 1 := by kernel_rfl
theorem sz81 : szOf Tryz.prog 81 = some 1 := by kernel_rfl
theorem sz82 : szOf Tryz.prog 82 = some 1 := by kernel_rfl
theorem sz83 : szOf Tryz.prog 83 = some 1 := by kernel_rfl
theorem sz84 : szOf Tryz.prog 84 = some 1 := by kernel_rfl
theorem sz85 : szOf Tryz.prog 85 = some 1 := by kernel_rfl
theorem sz86 : szOf Tryz.prog 86 = some 1 := by kernel_rfl
theorem sz87 : szOf Tryz.prog 87 = some 1 := by kernel_rfl
theorem sz88 : szOf Tryz.prog 88 = some 1 := by kernel_rfl
theorem sz89 : szOf Tryz.prog 89 = some 1 := by kernel_rfl
theorem sz90 : szOf Tryz.prog 90 = some 1 := by kernel_rfl
theorem sz91 : szOf Tryz.prog 91 = some 1 := by kernel_rfl
theorem sz92 : szOf Tryz.prog 92 = some 1 := by kernel_rfl
theorem sz93 : szOf Tryz.prog 93 = some 1 := by kernel_rfl
theorem sz94 : szOf Tryz.prog 94 = some 1 := by kernel_rfl
theorem sz95 : szOf Tryz.prog 95 = some 1 := by kernel_rfl
theorem sz96 : szOf Tryz.prog 96 = some 1 := by kernel_rfl
theorem sz97 : szOf Tryz.prog 97 = some 1 := by kernel_rfl
theorem sz98 : szOf Tryz.prog 98 = some 1 := by kernel_rfl
theorem sz99 : szOf Tryz.prog 99 = some 1 := by kernel_rfl
theorem sz100 : szOf Tryz.prog 100 = some 1 := by kernel_rfl
theorem sz101 : szOf Tryz.prog 101 = some 3 := by kernel_rfl
theorem sz102 : szOf Tryz.prog 102 = some 3 := by kernel_rfl
theorem in102 : Tryz.prog.info? 102 = some Tryz.t102 := by kernel_rfl
theorem ts102 : Tryz.t102.size = 3 := rfl
theorem tb102 : Tryz.t102.bytes = 24 := rfl
theorem tz102 : Tryz.t102.zero = some (Value.agg #[Value.int IntKind.i64 0, Value.int IntKind.i64 0, Value.int IntKind.i64 0]) := rfl
theorem zc102 : zeroCells? Tryz.prog 102 = some [.v (Value.int IntKind.i64 0), .v (Value.int IntKind.i64 0), .v (Value.int IntKind.i64 0)] := by kernel_rfl
theorem sz103 : szOf Tryz.prog 103 = some 2 := by kernel_rfl
theorem sz104 : szOf Tryz.prog 104 = some 2 := by kernel_rfl
theorem in104 : Tryz.prog.info? 104 = some Tryz.t104 := by kernel_rfl
theorem ts104 : Tryz.t104.size = 2 := rfl
theorem tb104 : Tryz.t104.bytes = 16 := rfl
theorem tz104 : Tryz.t104.zero = some (Value.agg #[Value.bool false, Value.int IntKind.u64 0]) := rfl
theorem zc104 : zeroCells? Tryz.prog 104 = some [.v (Value.bool false), .v (Value.int IntKind.u64 0)] := by kernel_rfl
theorem sz105 : szOf Tryz.prog 105 = some 1 := by kernel_rfl
theorem sz106 : szOf Tryz.prog 106 = some 1 := by kernel_rfl
theorem sz107 : szOf Tryz.prog 107 = some 1 := by kernel_rfl
theorem sz108 : szOf Tryz.prog 108 = some 1 := by kernel_rfl
theorem sz109 : szOf Tryz.prog 109 = some 1 := by kernel_rfl
theorem sz110 : szOf Tryz.prog 110 = some 1 := by kernel_rfl
theorem sz111 : szOf Tryz.prog 111 = some 1 := by kernel_rfl
theorem sz112 : szOf Tryz.prog 112 = some 1 := by kernel_rfl
theorem in112 : Tryz.prog.info? 112 = some Tryz.t112 := by kernel_rfl
theorem ts112 : Tryz.t112.size = 1 := rfl
theorem tb112 : Tryz.t112.bytes = 24 := rfl
theorem zc112 : zeroCells? Tryz.prog 112 = some [.v (Value.slice none 0 0)] := by kernel_rfl
theorem sz113 : szOf Tryz.prog 113 = some 1 := by kernel_rfl
theorem sz114 : szOf Tryz.prog 114 = some 1 := by kernel_rfl
theorem sz115 : szOf Tryz.prog 115 = some 1 := by kernel_rfl
theorem sz116 : szOf Tryz.prog 116 = some 1 := by kernel_rfl
theorem sz117 : szOf Tryz.prog 117 = some 1 := by kernel_rfl
theorem sz118 : szOf Tryz.prog 118 = some 1 := by kernel_rfl
theorem sz119 : szOf Tryz.prog 119 = some 2 := by kernel_rfl
theorem sz120 : szOf Tryz.prog 120 = some 2 := by kernel_rfl
theorem in120 : Tryz.prog.info? 120 = some Tryz.t120 := by kernel_rfl
theorem ts120 : Tryz.t120.size = 2 := rfl
theorem tb120 : Tryz.t120.bytes = 16 := rfl
theorem tz120 : Tryz.t120.zero = some (Value.agg #[Value.int IntKind.u64 0, Value.int IntKind.u64 0]) := rfl
theorem zc120 : zeroCells? Tryz.prog 120 = some [.v (Value.int IntKind.u64 0), .v (Value.int IntKind.u64 0)] := by kernel_rfl
theorem sz121 : szOf Tryz.prog 121 = some 1 := by kernel_rfl
theorem sz122 : szOf Tryz.prog 122 = some 1 := by kernel_rfl
theorem sz123 : szOf Tryz.prog 123 = some 1 := by kernel_rfl
theorem sz124 : szOf Tryz.prog 124 = some 1 := by kernel_rfl
theorem sz125 : szOf Tryz.prog 125 = some 1 := by kernel_rfl
theorem sz126 : szOf Tryz.prog 126 = some 1 := by kernel_rfl
theorem sz127 : szOf Tryz.prog 127 = some 1 := by kernel_rfl
theorem sz128 : szOf Tryz.prog 128 = some 1 := by kernel_rfl
theorem sz129 : szOf Tryz.prog 129 = some 1 := by kernel_rfl
theorem sz130 : szOf Tryz.prog 130 = some 1 := by kernel_rfl
theorem zc130 : zeroCells? Tryz.prog 130 = some [.v (Value.pointer none)] := by kernel_rfl
theorem sz131 : szOf Tryz.prog 131 = some 1 := by kernel_rfl
theorem sz132 : szOf Tryz.prog 132 = some 1 := by kernel_rfl
theorem sz133 : szOf Tryz.prog 133 = some 1 := by kernel_rfl
theorem sz134 : szOf Tryz.prog 134 = some 1 := by kernel_rfl
theorem sz135 : szOf Tryz.prog 135 = some 1 := by kernel_rfl
theorem sz136 : szOf Tryz.prog 136 = some 1 := by kernel_rfl
theorem sz137 : szOf Tryz.prog 137 = some 1 := by kernel_rfl
theorem sz138 : szOf Tryz.prog 138 = some 1 := by kernel_rfl
theorem sz139 : szOf Tryz.prog 139 = some 1 := by kernel_rfl
theorem sz140 : szOf Tryz.prog 140 = some 1 := by kernel_rfl
theorem sz141 : szOf Tryz.prog 141 = some 1 := by kernel_rfl
theorem sz142 : szOf Tryz.prog 142 = some 1 := by kernel_rfl
theorem sz143 : szOf Tryz.prog 143 = some 1 := by kernel_rfl
theorem sz144 : szOf Tryz.prog 144 = some 1 := by kernel_rfl
theorem sz145 : szOf Tryz.prog 145 = some 1 := by kernel_rfl
theorem sz146 : szOf Tryz.prog 146 = some 1 := by kernel_rfl
theorem sz147 : szOf Tryz.prog 147 = some 1 := by kernel_rfl
theorem sz148 : szOf Tryz.prog 148 = some 1 := by kernel_rfl
theorem sz149 : szOf Tryz.prog 149 = some 1 := by kernel_rfl
theorem sz150 : szOf Tryz.prog 150 = some 1 := by kernel_rfl
theorem sz151 : szOf Tryz.prog 151 = some 2 := by kernel_rfl
theorem sz152 : szOf Tryz.prog 152 = some 1 := by kernel_rfl
theorem sz153 : szOf Tryz.prog 153 = some 1 := by kernel_rfl
theorem sz154 : szOf Tryz.prog 154 = some 1 := by kernel_rfl
theorem sz155 : szOf Tryz.prog 155 = some 1 := by kernel_rfl
theorem sz156 : szOf Tryz.prog 156 = some 1 := by kernel_rfl
theorem sz157 : szOf Tryz.prog 157 = some 2 := by kernel_rfl
theorem sz158 : szOf Tryz.prog 158 = some 2 := by kernel_rfl
theorem zc158 : zeroCells? Tryz.prog 158 = some [.v (Value.int IntKind.u64 0), .v (Value.int IntKind.i64 0)] := by kernel_rfl
theorem sz159 : szOf Tryz.prog 159 = some 1 := by kernel_rfl
theorem sz160 : szOf Tryz.prog 160 = some 1 := by kernel_rfl
theorem sz161 : szOf Tryz.prog 161 = some 1 := by kernel_rfl
theorem sz162 : szOf Tryz.prog 162 = some 1 := by kernel_rfl
theorem sz163 : szOf Tryz.prog 163 = some 1 := by kernel_rfl
theorem sz164 : szOf Tryz.prog 164 = some 1 := by kernel_rfl
theorem sz165 : szOf Tryz.prog 165 = some 1 := by kernel_rfl
theorem sz166 : szOf Tryz.prog 166 = some 1 := by kernel_rfl
theorem sz167 : szOf Tryz.prog 167 = some 1 := by kernel_rfl
theorem sz168 : szOf Tryz.prog 168 = some 1 := by kernel_rfl
theorem sz169 : szOf Tryz.prog 169 = some 1 := by kernel_rfl
theorem sz170 : szOf Tryz.prog 170 = some 1 := by kernel_rfl
theorem sz171 : szOf Tryz.prog 171 = some 1 := by kernel_rfl
theorem sz172 : szOf Tryz.prog 172 = some 1 := by kernel_rfl
theorem sz173 : szOf Tryz.prog 173 = some 1 := by kernel_rfl
theorem sz174 : szOf Tryz.prog 174 = some 1 := by kernel_rfl
theorem sz175 : szOf Tryz.prog 175 = some 1 := by kernel_rfl
theorem sz178 : szOf Tryz.prog 178 = some 1 := by kernel_rfl
theorem sz179 : szOf Tryz.prog 179 = some 1 := by kernel_rfl
theorem sz180 : szOf Tryz.prog 180 = some 1 := by kernel_rfl
theorem sz181 : szOf Tryz.prog 181 = some 1 := by kernel_rfl
theorem sz182 : szOf Tryz.prog 182 = some 1 := by kernel_rfl
theorem sz183 : szOf Tryz.prog 183 = some 1 := by kernel_rfl
theorem sz184 : szOf Tryz.prog 184 = some 1 := by kernel_rfl
theorem sz185 : szOf Tryz.prog 185 = some 1 := by kernel_rfl
theorem sz186 : szOf Tryz.prog 186 = some 1 := by kernel_rfl
theorem sz187 : szOf Tryz.prog 187 = some 1 := by kernel_rfl
theorem sz188 : szOf Tryz.prog 188 = some 1 := by kernel_rfl
theorem sz189 : szOf Tryz.prog 189 = some 1 := by kernel_rfl
theorem sz190 : szOf Tryz.prog 190 = some 1 := by kernel_rfl
theorem sz191 : szOf Tryz.prog 191 = some 6 := by kernel_rfl
theorem sz192 : szOf Tryz.prog 192 = some 6 := by kernel_rfl
theorem zc192 : zeroCells? Tryz.prog 192 = some [.v (Value.pointer none), .v (Value.pointer none), .v (Value.int IntKind.u64 0), .v (Value.int IntKind.i64 0), .v (Value.int IntKind.i64 0), .v (Value.int IntKind.i64 0)] := by kernel_rfl
theorem sz193 : szOf Tryz.prog 193 = some 1 := by kernel_rfl
theorem sz194 : szOf Tryz.prog 194 = some 1 := by kernel_rfl
theorem sz196 : szOf Tryz.prog 196 = some 1 := by kernel_rfl
theorem sz197 : szOf Tryz.prog 197 = some 1 := by kernel_rfl
theorem sz198 : szOf Tryz.prog 198 = some 1 := by kernel_rfl
theorem sz199 : szOf Tryz.prog 199 = some 1 := by kernel_rfl
theorem sz200 : szOf Tryz.prog 200 = some 1 := by kernel_rfl
theorem sz201 : szOf Tryz.prog 201 = some 1 := by kernel_rfl
theorem sz202 : szOf Tryz.prog 202 = some 1 := by kernel_rfl
theorem sz203 : szOf Tryz.prog 203 = some 1 := by kernel_rfl
theorem sz204 : szOf Tryz.prog 204 = some 1 := by kernel_rfl
theorem sz205 : szOf Tryz.prog 205 = some 1 := by kernel_rfl
theorem sz206 : szOf Tryz.prog 206 = some 1 := by kernel_rfl
theorem sz207 : szOf Tryz.prog 207 = some 1 := by kernel_rfl
theorem sz208 : szOf Tryz.prog 208 = some 1 := by kernel_rfl
theorem sz209 : szOf Tryz.prog 209 = some 1 := by kernel_rfl
theorem sz210 : szOf Tryz.prog 210 = some 1 := by kernel_rfl
theorem sz211 : szOf Tryz.prog 211 = some 1 := by kernel_rfl
theorem sz212 : szOf Tryz.prog 212 = some 1 := by kernel_rfl
theorem sz213 : szOf Tryz.prog 213 = some 1 := by kernel_rfl
theorem sz214 : szOf Tryz.prog 214 = some 1 := by kernel_rfl
theorem sz215 : szOf Tryz.prog 215 = some 1 := by kernel_rfl
theorem sz216 : szOf Tryz.prog 216 = some 1 := by kernel_rfl
theorem sz217 : szOf Tryz.prog 217 = some 1 := by kernel_rfl
theorem sz218 : szOf Tryz.prog 218 = some 1 := by kernel_rfl
theorem sz219 : szOf Tryz.prog 219 = some 1 := by kernel_rfl
theorem sz220 : szOf Tryz.prog 220 = some 1 := by kernel_rfl
theorem sz221 : szOf Tryz.prog 221 = some 1 := by kernel_rfl
theorem sz222 : szOf Tryz.prog 222 = some 1 := by kernel_rfl
theorem sz223 : szOf Tryz.prog 223 = some 1 := by kernel_rfl
theorem sz224 : szOf Tryz.prog 224 = some 1 := by kernel_rfl
theorem sz225 : szOf Tryz.prog 225 = some 1 := by kernel_rfl
theorem sz226 : szOf Tryz.prog 226 = some 1 := by kernel_rfl
theorem sz227 : szOf Tryz.prog 227 = some 1 := by kernel_rfl
theorem sz228 : szOf Tryz.prog 228 = some 1 := by kernel_rfl
theorem sz229 : szOf Tryz.prog 229 = some 1 := by kernel_rfl
theorem sz242 : szOf Tryz.prog 242 = some 3 := by kernel_rfl
theorem sz243 : szOf Tryz.prog 243 = some 3 := by kernel_rfl
theorem zc243 : zeroCells? Tryz.prog 243 = some [.v (Value.int IntKind.i64 0), .v (Value.int IntKind.i64 0), .v (Value.slice none 0 0)] := by kernel_rfl
theorem sz245 : szOf Tryz.prog 245 = some 1 := by kernel_rfl
theorem sz253 : szOf Tryz.prog 253 = some 1 := by kernel_rfl
theorem sz254 : szOf Tryz.prog 254 = some 1 := by kernel_rfl
theorem sz256 : szOf Tryz.prog 256 = some 1 := by kernel_rfl
theorem sz257 : szOf Tryz.prog 257 = some 1 := by kernel_rfl
theorem sz263 : szOf Tryz.prog 263 = some 1 := by kernel_rfl
theorem sz265 : szOf Tryz.prog 265 = some 1 := by kernel_rfl
theorem sz267 : szOf Tryz.prog 267 = some 1 := by kernel_rfl
theorem sz272 : szOf Tryz.prog 272 = some 1 := by kernel_rfl
theorem sz273 : szOf Tryz.prog 273 = some 4 := by kernel_rfl
theorem sz274 : szOf Tryz.prog 274 = some 4 := by kernel_rfl
theorem sz275 : szOf Tryz.prog 275 = some 0 := by kernel_rfl
theorem sz276 : szOf Tryz.prog 276 = some 0 := by kernel_rfl
theorem sz277 : szOf Tryz.prog 277 = some 0 := by kernel_rfl
theorem sz278 : szOf Tryz.prog 278 = some 1 := by kernel_rfl
theorem sz279 : szOf Tryz.prog 279 = some 1 := by kernel_rfl
theorem sz280 : szOf Tryz.prog 280 = some 1 := by kernel_rfl
theorem sz281 : szOf Tryz.prog 281 = some 1 := by kernel_rfl
theorem sz282 : szOf Tryz.prog 282 = some 1 := by kernel_rfl
theorem sz283 : szOf Tryz.prog 283 = some 1 := by kernel_rfl
theorem sz284 : szOf Tryz.prog 284 = some 1 := by kernel_rfl
theorem sz285 : szOf Tryz.prog 285 = some 11 := by kernel_rfl
theorem sz286 : szOf Tryz.prog 286 = some 11 := by kernel_rfl
theorem sz287 : szOf Tryz.prog 287 = some 1 := by kernel_rfl
theorem fb13 : (Program.funcs Tryz.prog)[13]?.any (fun fn => fn.body.isSome && fn.name != "runtime.NumGoroutine") = true := by rw [Tryz.func13]; kernel_rfl
theorem fb14 : (Program.funcs Tryz.prog)[14]?.any (fun fn => fn.body.isSome && fn.name != "runtime.NumGoroutine") = true := by rw [Tryz.func14]; kernel_rfl
theorem fb15 : (Program.funcs Tryz.prog)[15]?.any (fun fn => fn.body.isSome && fn.name != "runtime.NumGoroutine") = true := by rw [Tryz.func15]; kernel_rfl
theorem fb19 : (Program.funcs Tryz.prog)[19]?.any (fun fn => fn.body.isSome && fn.name != "runtime.NumGoroutine") = true := by rw [Tryz.func19]; kernel_rfl
theorem fb30 : (Program.funcs Tryz.prog)[30]?.any (fun fn => fn.body.isSome && fn.name != "runtime.NumGoroutine") = true := by rw [Tryz.func30]; kernel_rfl
theorem fb31 : (Program.funcs Tryz.prog)[31]?.any (fun fn => fn.body.isSome && fn.name != "runtime.NumGoroutine") = true := by rw [Tryz.func31]; kernel_rfl
theorem fb32 : (Program.funcs Tryz.prog)[32]?.any (fun fn => fn.body.isSome && fn.name != "runtime.NumGoroutine") = true := by rw [Tryz.func32]; kernel_rfl
theorem fb33 : (Program.funcs Tryz.prog)[33]?.any (fun fn => fn.body.isSome && fn.name != "runtime.NumGoroutine") = true := by rw [Tryz.func33]; kernel_rfl
theorem fb34 : (Program.funcs Tryz.prog)[34]?.any (fun fn => fn.body.isSome && fn.name != "runtime.NumGoroutine") = true := by rw [Tryz.func34]; kernel_rfl
theorem fb35 : (Program.funcs Tryz.prog)[35]?.any (fun fn => fn.body.isSome && fn.name != "runtime.NumGoroutine") = true := by rw [Tryz.func35]; kernel_rfl
theorem fb36 : (Program.funcs Tryz.prog)[36]?.any (fun fn => fn.body.isSome && fn.name != "runtime.NumGoroutine") = true := by rw [Tryz.func36]; kernel_rfl
theorem fb37 : (Program.funcs Tryz.prog)[37]?.any (fun fn => fn.body.isSome && fn.name != "runtime.NumGoroutine") = true := by rw [Tryz.func37]; kernel_rfl
theorem fb38 : (Program.funcs Tryz.prog)[38]?.any (fun fn => fn.body.isSome && fn.name != "runtime.NumGoroutine") = true := by rw [Tryz.func38]; kernel_rfl
theorem fb39 : (Program.funcs Tryz.prog)[39]?.any (fun fn => fn.body.isSome && fn.name != "runtime.NumGoroutine") = true := by rw [Tryz.func39]; kernel_rfl
theorem fb40 : (Program.funcs Tryz.prog)[40]?.any (fun fn => fn.body.isSome && fn.name != "runtime.NumGoroutine") = true := by rw [Tryz.func40]; kernel_rfl
theorem fb41 : (Program.funcs Tryz.prog)[41]?.any (fun fn => fn.body.isSome && fn.name != "runtime.NumGoroutine") = true := by rw [Tryz.func41]; kernel_rfl
theorem fb42 : (Program.funcs Tryz.prog)[42]?.any (fun fn => fn.body.isSome && fn.name != "runtime.NumGoroutine") = true := by rw [Tryz.func42]; kernel_rfl
theorem fb43 : (Program.funcs Tryz.prog)[43]?.any (fun fn => fn.body.isSome && fn.name != "runtime.NumGoroutine") = true := by rw [Tryz.func43]; kernel_rfl
theorem fb49 : (Program.funcs Tryz.prog)[49]?.any (fun fn => fn.body.isSome && fn.name != "runtime.NumGoroutine") = true := by rw [Tryz.func49]; kernel_rfl
theorem fb50 : (Program.funcs Tryz.prog)[50]?.any (fun fn => fn.body.isSome && fn.name != "runtime.NumGoroutine") = true := by rw [Tryz.func50]; kernel_rfl
theorem fb67 : (Program.funcs Tryz.prog)[67]?.any (fun fn => fn.body.isSome && fn.name != "runtime.NumGoroutine") = true := by rw [Tryz.func67]; kernel_rfl
theorem fb68 : (Program.funcs Tryz.prog)[68]?.any (fun fn => fn.body.isSome && fn.name != "runtime.NumGoroutine") = true := by rw [Tryz.func68]; kernel_rfl
theorem fb69 : (Program.funcs Tryz.prog)[69]?.any (fun fn => fn.body.isSome && fn.name != "runtime.NumGoroutine") = true := by rw [Tryz.func69]; kernel_rfl
theorem fb70 : (Program.funcs Tryz.prog)[70]?.any (fun fn => fn.body.isSome && fn.name != "runtime.NumGoroutine") = true := by rw [Tryz.func70]; kernel_rfl
theorem fb71 : (Program.funcs Tryz.prog)[71]?.any (fun fn => fn.body.isSome && fn.name != "runtime.NumGoroutine") = true := by rw [Tryz.func71]; kernel_rfl
theorem fb72 : (Program.funcs Tryz.prog)[72]?.any (fun fn => fn.body.isSome && fn.name != "runtime.NumGoroutine") = true := by rw [Tryz.func72]; kernel_rfl
theorem fb73 : (Program.funcs Tryz.prog)[73]?.any (fun fn => fn.body.isSome && fn.name != "runtime.NumGoroutine") = true := by rw [Tryz.func73]; kernel_rfl
theorem fb74 : (Program.funcs Tryz.prog)[74]?.any (fun fn => fn.body.isSome && fn.name != "runtime.NumGoroutine") = true := by rw [Tryz.func74]; kernel_rfl
theorem fb75 : (Program.funcs Tryz.prog)[75]?.any (fun fn => fn.body.isSome && fn.name != "runtime.NumGoroutine") = true := by rw [Tryz.func75]; kernel_rfl
theorem fb76 : (Program.funcs Tryz.prog)[76]?.any (fun fn => fn.body.isSome && fn.name != "runtime.NumGoroutine") = true := by rw [Tryz.func76]; kernel_rfl
theorem fb77 : (Program.funcs Tryz.prog)[77]?.any (fun fn => fn.body.isSome && fn.name != "runtime.NumGoroutine") = true := by rw [Tryz.func77]; kernel_rfl
theorem fb78 : (Program.funcs Tryz.prog)[78]?.any (fun fn => fn.body.isSome && fn.name != "runtime.NumGoroutine") = true := by rw [Tryz.func78]; kernel_rfl
theorem fb79 : (Program.funcs Tryz.prog)[79]?.any (fun fn => fn.body.isSome && fn.name != "runtime.NumGoroutine") = true := by rw [Tryz.func79]; kernel_rfl
theorem fb80 : (Program.funcs Tryz.prog)[80]?.any (fun fn => fn.body.isSome && fn.name != "runtime.NumGoroutine") = true := by rw [Tryz.func80]; kernel_rfl
theorem fb81 : (Program.funcs Tryz.prog)[81]?.any (fun fn => fn.body.isSome && fn.name != "runtime.NumGoroutine") = true := by rw [Tryz.func81]; kernel_rfl
theorem fb83 : (Program.funcs Tryz.prog)[83]?.any (fun fn => fn.body.isSome && fn.name != "runtime.NumGoroutine") = true := by rw [Tryz.func83]; kernel_rfl
theorem fb84 : (Program.funcs Tryz.prog)[84]?.any (fun fn => fn.body.isSome && fn.name != "runtime.NumGoroutine") = true := by rw [Tryz.func84]; kernel_rfl
theorem fb85 : (Program.funcs Tryz.prog)[85]?.any (fun fn => fn.body.isSome && fn.name != "runtime.NumGoroutine") = true := by rw [Tryz.func85]; kernel_rfl
theorem fb86 : (Program.funcs Tryz.prog)[86]?.any (fun fn => fn.body.isSome && fn.name != "runtime.NumGoroutine") = true := by rw [Tryz.func86]; kernel_rfl
theorem fb89 : (Program.funcs Tryz.prog)[89]?.any (fun fn => fn.body.isSome && fn.name != "runtime.NumGoroutine") = true := by rw [Tryz.func89]; kernel_rfl
theorem fb90 : (Program.funcs Tryz.prog)[90]?.any (fun fn => fn.body.isSome && fn.name != "runtime.NumGoroutine") = true := by rw [Tryz.func90]; kernel_rfl
theorem fb91 : (Program.funcs Tryz.prog)[91]?.any (fun fn => fn.body.isSome && fn.name != "runtime.NumGoroutine") = true := by rw [Tryz.func91]; kernel_rfl
theorem fb96 : (Program.funcs Tryz.prog)[96]?.any (fun fn => fn.body.isSome && fn.name != "runtime.NumGoroutine") = true := by rw [Tryz.func96]; kernel_rfl
theorem fb97 : (Program.funcs Tryz.prog)[97]?.any (fun fn => fn.body.isSome && fn.name != "runtime.NumGoroutine") = true := by rw [Tryz.func97]; kernel_rfl
theorem fb98 : (Program.funcs Tryz.prog)[98]?.any (fun fn => fn.body.isSome && fn.name != "runtime.NumGoroutine") = true := by rw [Tryz.func98]; kernel_rfl
theorem fb99 : (Program.funcs Tryz.prog)[99]?.any (fun fn => fn.body.isSome && fn.name != "runtime.NumGoroutine") = true := by rw [Tryz.func99]; kernel_rfl
theorem fb100 : (Program.funcs Tryz.prog)[100]?.any (fun fn => fn.body.isSome && fn.name != "runtime.NumGoroutine") = true := by rw [Tryz.func100]; kernel_rfl
theorem fb101 : (Program.funcs Tryz.prog)[101]?.any (fun fn => fn.body.isSome && fn.name != "runtime.NumGoroutine") = true := by rw [Tryz.func101]; kernel_rfl
theorem fb102 : (Program.funcs Tryz.prog)[102]?.any (fun fn => fn.body.isSome && fn.name != "runtime.NumGoroutine") = true := by rw [Tryz.func102]; kernel_rfl
theorem fb103 : (Program.funcs Tryz.prog)[103]?.any (fun fn => fn.body.isSome && fn.name != "runtime.NumGoroutine") = true := by rw [Tryz.func103]; kernel_rfl
theorem fb104 : (Program.funcs Tryz.prog)[104]?.any (fun fn => fn.body.isSome && fn.name != "runtime.NumGoroutine") = true := by rw [Tryz.func104]; kernel_rfl
theorem fb105 : (Program.funcs Tryz.prog)[105]?.any (fun fn => fn.body.isSome && fn.name != "runtime.NumGoroutine") = true := by rw [Tryz.func105]; kernel_rfl
theorem fb106 : (Program.funcs Tryz.prog)[106]?.any (fun fn => fn.body.isSome && fn.name != "runtime.NumGoroutine") = true := by rw [Tryz.func106]; kernel_rfl
theorem fb107 : (Program.funcs Tryz.prog)[107]?.any (fun fn => fn.body.isSome && fn.name != "runtime.NumGoroutine") = true := by rw [Tryz.func107]; kernel_rfl
theorem fb108 : (Program.funcs Tryz.prog)[108]?.any (fun fn => fn.body.isSome && fn.name != "runtime.NumGoroutine") = true := by rw [Tryz.func108]; kernel_rfl
theorem fb109 : (Program.funcs Tryz.prog)[109]?.any (fun fn => fn.body.isSome && fn.name != "runtime.NumGoroutine") = true := by rw [Tryz.func109]; kernel_rfl
theorem fb112 : (Program.funcs Tryz.prog)[112]?.any (fun fn => fn.body.isSome && fn.name != "runtime.NumGoroutine") = true := by rw [Tryz.func112]; kernel_rfl
theorem fb113 : (Program.funcs Tryz.prog)[113]?.any (fun fn => fn.body.isSome && fn.name != "runtime.NumGoroutine") = true := by rw [Tryz.func113]; kernel_rfl
theorem fb114 : (Program.funcs Tryz.prog)[114]?.any (fun fn => fn.body.isSome && fn.name != "runtime.NumGoroutine") = true := by rw [Tryz.func114]; kernel_rfl
theorem fb115 : (Program.funcs Tryz.prog)[115]?.any (fun fn => fn.body.isSome && fn.name != "runtime.NumGoroutine") = true := by rw [Tryz.func115]; kernel_rfl
theorem fb116 : (Program.funcs Tryz.prog)[116]?.any (fun fn => fn.body.isSome && fn.name != "runtime.NumGoroutine") = true := by rw [Tryz.func116]; kernel_rfl
theorem fb117 : (Program.funcs Tryz.prog)[117]?.any (fun fn => fn.body.isSome && fn.name != "runtime.NumGoroutine") = true := by rw [Tryz.func117]; kernel_rfl
theorem fb118 : (Program.funcs Tryz.prog)[118]?.any (fun fn => fn.body.isSome && fn.name != "runtime.NumGoroutine") = true := by rw [Tryz.func118]; kernel_rfl
theorem fb120 : (Program.funcs Tryz.prog)[120]?.any (fun fn => fn.body.isSome && fn.name != "runtime.NumGoroutine") = true := by rw [Tryz.func120]; kernel_rfl
theorem fb121 : (Program.funcs Tryz.prog)[121]?.any (fun fn => fn.body.isSome && fn.name != "runtime.NumGoroutine") = true := by rw [Tryz.func121]; kernel_rfl
theorem fb122 : (Program.funcs Tryz.prog)[122]?.any (fun fn => fn.body.isSome && fn.name != "runtime.NumGoroutine") = true := by rw [Tryz.func122]; kernel_rfl
theorem fb125 : (Program.funcs Tryz.prog)[125]?.any (fun fn => fn.body.isSome && fn.name != "runtime.NumGoroutine") = true := by rw [Tryz.func125]; kernel_rfl
theorem fb126 : (Program.funcs Tryz.prog)[126]?.any (fun fn => fn.body.isSome && fn.name != "runtime.NumGoroutine") = true := by rw [Tryz.func126]; kernel_rfl
theorem fb127 : (Program.funcs Tryz.prog)[127]?.any (fun fn => fn.body.isSome && fn.name != "runtime.NumGoroutine") = true := by rw [Tryz.func127]; kernel_rfl
theorem fb128 : (Program.funcs Tryz.prog)[128]?.any (fun fn => fn.body.isSome && fn.name != "runtime.NumGoroutine") = true := by rw [Tryz.func128]; kernel_rfl
theorem fb129 : (Program.funcs Tryz.prog)[129]?.any (fun fn => fn.body.isSome && fn.name != "runtime.NumGoroutine") = true := by rw [Tryz.func129]; kernel_rfl
theorem fb130 : (Program.funcs Tryz.prog)[130]?.any (fun fn => fn.body.isSome && fn.name != "runtime.NumGoroutine") = true := by rw [Tryz.func130]; kernel_rfl
theorem fb131 : (Program.funcs Tryz.prog)[131]?.any (fun fn => fn.body.isSome && fn.name != "runtime.NumGoroutine") = true := by rw [Tryz.func131]; kernel_rfl
theorem fb132 : (Program.funcs Tryz.prog)[132]?.any (fun fn => fn.body.isSome && fn.name != "runtime.NumGoroutine") = true := by rw [Tryz.func132]; kernel_rfl
theorem fb133 : (Program.funcs Tryz.prog)[133]?.any (fun fn => fn.body.isSome && fn.name != "runtime.NumGoroutine") = true := by rw [Tryz.func133]; kernel_rfl
theorem fb134 : (Program.funcs Tryz.prog)[134]?.any (fun fn => fn.body.isSome && fn.name != "runtime.NumGoroutine") = true := by rw [Tryz.func134]; kernel_rfl
theorem fb135 : (Program.funcs Tryz.prog)[135]?.any (fun fn => fn.body.isSome && fn.name != "runtime.NumGoroutine") = true := by rw [Tryz.func135]; kernel_rfl
theorem fb136 : (Program.funcs Tryz.prog)[136]?.any (fun fn => fn.body.isSome && fn.name != "runtime.NumGoroutine") = true := by rw [Tryz.func136]; kernel_rfl
theorem fb137 : (Program.funcs Tryz.prog)[137]?.any (fun fn => fn.body.isSome && fn.name != "runtime.NumGoroutine") = true := by rw [Tryz.func137]; kernel_rfl
theorem fb138 : (Program.funcs Tryz.prog)[138]?.any (fun fn => fn.body.isSome && fn.name != "runtime.NumGoroutine") = true := by rw [Tryz.func138]; kernel_rfl
theorem fb139 : (Program.funcs Tryz.prog)[139]?.any (fun fn => fn.body.isSome && fn.name != "runtime.NumGoroutine") = true := by rw [Tryz.func139]; kernel_rfl
theorem fb140 : (Program.funcs Tryz.prog)[140]?.any (fun fn => fn.body.isSome && fn.name != "runtime.NumGoroutine") = true := by rw [Tryz.func140]; kernel_rfl
theorem fb141 : (Program.funcs Tryz.prog)[141]?.any (fun fn => fn.body.isSome && fn.name != "runtime.NumGoroutine") = true := by rw [Tryz.func141]; kernel_rfl
theorem fb143 : (Program.funcs Tryz.prog)[143]?.any (fun fn => fn.body.isSome && fn.name != "runtime.NumGoroutine") = true := by rw [Tryz.func143]; kernel_rfl
theorem fb144 : (Program.funcs Tryz.prog)[144]?.any (fun fn => fn.body.isSome && fn.name != "runtime.NumGoroutine") = true := by rw [Tryz.func144]; kernel_rfl
theorem fb145 : (Program.funcs Tryz.prog)[145]?.any (fun fn => fn.body.isSome && fn.name != "runtime.NumGoroutine") = true := by rw [Tryz.func145]; kernel_rfl
theorem fb151 : (Program.funcs Tryz.prog)[151]?.any (fun fn => fn.body.isSome && fn.name != "runtime.NumGoroutine") = true := by rw [Tryz.func151]; kernel_rfl
theorem fb155 : (Program.funcs Tryz.prog)[155]?.any (fun fn => fn.body.isSome && fn.name != "runtime.NumGoroutine") = true := by rw [Tryz.func155]; kernel_rfl
theorem fb156 : (Program.funcs Tryz.prog)[156]?.any (fun fn => fn.body.isSome && fn.name != "runtime.NumGoroutine") = true := by rw [Tryz.func156]; kernel_rfl
theorem fb164 : (Program.funcs Tryz.prog)[164]?.any (fun fn => fn.body.isSome && fn.name != "runtime.NumGoroutine") = true := by rw [Tryz.func164]; kernel_rfl
theorem fb165 : (Program.funcs Tryz.prog)[165]?.any (fun fn => fn.body.isSome && fn.name != "runtime.NumGoroutine") = true := by rw [Tryz.func165]; kernel_rfl
theorem fb166 : (Program.funcs Tryz.prog)[166]?.any (fun fn => fn.body.isSome && fn.name != "runtime.NumGoroutine") = true := by rw [Tryz.func166]; kernel_rfl
theorem fb167 : (Program.funcs Tryz.prog)[167]?.any (fun fn => fn.body.isSome && fn.name != "runtime.NumGoroutine") = true := by rw [Tryz.func167]; kernel_rfl
theorem fb168 : (Program.funcs Tryz.prog)[168]?.any (fun fn => fn.body.isSome && fn.name != "runtime.NumGoroutine") = true := by rw [Tryz.func168]; kernel_rfl
theorem fb169 : (Program.funcs Tryz.prog)[169]?.any (fun fn => fn.body.isSome && fn.name != "runtime.NumGoroutine") = true := by rw [Tryz.func169]; kernel_rfl
theorem fb170 : (Program.funcs Tryz.prog)[170]?.any (fun fn => fn.body.isSome && fn.name != "runtime.NumGoroutine") = true := by rw [Tryz.func170]; kernel_rfl
theorem fb171 : (Program.funcs Tryz.prog)[171]?.any (fun fn => fn.body.isSome && fn.name != "runtime.NumGoroutine") = true := by rw [Tryz.func171]; kernel_rfl
theorem fb172 : (Program.funcs Tryz.prog)[172]?.any (fun fn => fn.body.isSome && fn.name != "runtime.NumGoroutine") = true := by rw [Tryz.func172]; kernel_rfl
theorem fb173 : (Program.funcs Tryz.prog)[173]?.any (fun fn => fn.body.isSome && fn.name != "runtime.NumGoroutine") = true := by rw [Tryz.func173]; kernel_rfl
theorem fb174 : (Program.funcs Tryz.prog)[174]?.any (fun fn => fn.body.isSome && fn.name != "runtime.NumGoroutine") = true := by rw [Tryz.func174]; kernel_rfl
theorem fb183 : (Program.funcs Tryz.prog)[183]?.any (fun fn => fn.body.isSome && fn.name != "runtime.NumGoroutine") = true := by rw [Tryz.func183]; kernel_rfl
theorem fb184 : (Program.funcs Tryz.prog)[184]?.any (fun fn => fn.body.isSome && fn.name != "runtime.NumGoroutine") = true := by rw [Tryz.func184]; kernel_rfl
theorem fb185 : (Program.funcs Tryz.prog)[185]?.any (fun fn => fn.body.isSome && fn.name != "runtime.NumGoroutine") = true := by rw [Tryz.func185]; kernel_rfl
theorem fb186 : (Program.funcs Tryz.prog)[186]?.any (fun fn => fn.body.isSome && fn.name != "runtime.NumGoroutine") = true := by rw [Tryz.func186]; kernel_rfl
theorem fb187 : (Program.funcs Tryz.prog)[187]?.any (fun fn => fn.body.isSome && fn.name != "runtime.NumGoroutine") = true := by rw [Tryz.func187]; kernel_rfl
theorem fb188 : (Program.funcs Tryz.prog)[188]?.any (fun fn => fn.body.isSome && fn.name != "runtime.NumGoroutine") = true := by rw [Tryz.func188]; kernel_rfl
theorem fb189 : (Program.funcs Tryz.prog)[189]?.any (fun fn => fn.body.isSome && fn.name != "runtime.NumGoroutine") = true := by rw [Tryz.func189]; kernel_rfl
theorem fb190 : (Program.funcs Tryz.prog)[190]?.any (fun fn => fn.body.isSome && fn.name != "runtime.NumGoroutine") = true := by rw [Tryz.func190]; kernel_rfl
theorem fb191 : (Program.funcs Tryz.prog)[191]?.any (fun fn => fn.body.isSome && fn.name != "runtime.NumGoroutine") = true := by rw [Tryz.func191]; kernel_rfl
theorem fb192 : (Program.funcs Tryz.prog)[192]?.any (fun fn => fn.body.isSome && fn.name != "runtime.NumGoroutine") = true := by rw [Tryz.func192]; kernel_rfl
theorem fb193 : (Program.funcs Tryz.prog)[193]?.any (fun fn => fn.body.isSome && fn.name != "runtime.NumGoroutine") = true := by rw [Tryz.func193]; kernel_rfl
theorem fb196 : (Program.funcs Tryz.prog)[196]?.any (fun fn => fn.body.isSome && fn.name != "runtime.NumGoroutine") = true := by rw [Tryz.func196]; kernel_rfl
theorem fb197 : (Program.funcs Tryz.prog)[197]?.any (fun fn => fn.body.isSome && fn.name != "runtime.NumGoroutine") = true := by rw [Tryz.func197]; kernel_rfl
theorem fb198 : (Program.funcs Tryz.prog)[198]?.any (fun fn => fn.body.isSome && fn.name != "runtime.NumGoroutine") = true := by rw [Tryz.func198]; kernel_rfl
theorem fb199 : (Program.funcs Tryz.prog)[199]?.any (fun fn => fn.body.isSome && fn.name != "runtime.NumGoroutine") = true := by rw [Tryz.func199]; kernel_rfl
theorem fb200 : (Program.funcs Tryz.prog)[200]?.any (fun fn => fn.body.isSome && fn.name != "runtime.NumGoroutine") = true := by rw [Tryz.func200]; kernel_rfl
theorem fb201 : (Program.funcs Tryz.prog)[201]?.any (fun fn => fn.body.isSome && fn.name != "runtime.NumGoroutine") = true := by rw [Tryz.func201]; kernel_rfl
theorem fb202 : (Program.funcs Tryz.prog)[202]?.any (fun fn => fn.body.isSome && fn.name != "runtime.NumGoroutine") = true := by rw [Tryz.func202]; kernel_rfl
theorem fb203 : (Program.funcs Tryz.prog)[203]?.any (fun fn => fn.body.isSome && fn.name != "runtime.NumGoroutine") = true := by rw [Tryz.func203]; kernel_rfl
theorem fb204 : (Program.funcs Tryz.prog)[204]?.any (fun fn => fn.body.isSome && fn.name != "runtime.NumGoroutine") = true := by rw [Tryz.func204]; kernel_rfl
theorem fb205 : (Program.funcs Tryz.prog)[205]?.any (fun fn => fn.body.isSome && fn.name != "runtime.NumGoroutine") = true := by rw [Tryz.func205]; kernel_rfl
theorem fb206 : (Program.funcs Tryz.prog)[206]?.any (fun fn => fn.body.isSome && fn.name != "runtime.NumGoroutine") = true := by rw [Tryz.func206]; kernel_rfl
theorem fb207 : (Program.funcs Tryz.prog)[207]?.any (fun fn => fn.body.isSome && fn.name != "runtime.NumGoroutine") = true := by rw [Tryz.func207]; kernel_rfl
theorem fb208 : (Program.funcs Tryz.prog)[208]?.any (fun fn => fn.body.isSome && fn.name != "runtime.NumGoroutine") = true := by rw [Tryz.func208]; kernel_rfl
theorem fb209 : (Program.funcs Tryz.prog)[209]?.any (fun fn => fn.body.isSome && fn.name != "runtime.NumGoroutine") = true := by rw [Tryz.func209]; kernel_rfl
theorem fb210 : (Program.funcs Tryz.prog)[210]?.any (fun fn => fn.body.isSome && fn.name != "runtime.NumGoroutine") = true := by rw [Tryz.func210]; kernel_rfl
theorem fb211 : (Program.funcs Tryz.prog)[211]?.any (fun fn => fn.body.isSome && fn.name != "runtime.NumGoroutine") = true := by rw [Tryz.func211]; kernel_rfl
theorem fb212 : (Program.funcs Tryz.prog)[212]?.any (fun fn => fn.body.isSome && fn.name != "runtime.NumGoroutine") = true := by rw [Tryz.func212]; kernel_rfl
theorem fb213 : (Program.funcs Tryz.prog)[213]?.any (fun fn => fn.body.isSome && fn.name != "runtime.NumGoroutine") = true := by rw [Tryz.func213]; kernel_rfl
theorem mix : Tryz.prog.follows .mixedOrders = true := by kernel_rfl
theorem mi3 (H : Heap) (ρ : Operand → AV) (x : Operand) : apure Tryz.prog H ρ (.makeInterface 3 x) = some (.ifc 3 (ρ x)) := by simp only [apure, Tryz.underlying3]
attribute [go_sem] mi3
theorem mi4 (H : Heap) (ρ : Operand → AV) (x : Operand) : apure Tryz.prog H ρ (.makeInterface 4 x) = some (.ifc 4 (ρ x)) := by simp only [apure, Tryz.underlying4]
attribute [go_sem] mi4
theorem ln9 (s : ByteArray) : abuiltin Tryz.prog .len [9] [.v (.string s)] = some (.v (.int .i64 s.size)) := abuiltin_len_str Tryz.underlying9
attribute [go_sem] ln9
theorem mi9 (H : Heap) (ρ : Operand → AV) (x : Operand) : apure Tryz.prog H ρ (.makeInterface 9 x) = some (.ifc 9 (ρ x)) := by simp only [apure, Tryz.underlying9]
attribute [go_sem] mi9
theorem ln10 (s : ByteArray) : abuiltin Tryz.prog .len [10] [.v (.string s)] = some (.v (.int .i64 s.size)) := abuiltin_len_str Tryz.underlying10
attribute [go_sem] ln10
theorem ln11 (s : ByteArray) : abuiltin Tryz.prog .len [11] [.v (.string s)] = some (.v (.int .i64 s.size)) := abuiltin_len_str Tryz.underlying11
attribute [go_sem] ln11
theorem ln24 (xs : List AV) (n : Nat) (f : Bool) : abuiltin Tryz.prog .len [24] [.sl xs n f] = some (.v (.int .i64 n)) := abuiltin_len_sl Tryz.underlying24
theorem lo24 (j o n : Nat) : abuiltin Tryz.prog .len [24] [.own j o n] = some (.v (.int .i64 n)) := abuiltin_len_own Tryz.underlying24
theorem lz24 (n c : Nat) : abuiltin Tryz.prog .len [24] [.v (.slice none n c)] = some (.v (.int .i64 n)) := abuiltin_len_nil Tryz.underlying24
attribute [go_sem] ln24 lo24 lz24
theorem mi24 (H : Heap) (ρ : Operand → AV) (x : Operand) : apure Tryz.prog H ρ (.makeInterface 24 x) = some (.ifc 24 (ρ x)) := by simp only [apure, Tryz.underlying24]
attribute [go_sem] mi24
theorem ln25 (xs : List AV) (n : Nat) (f : Bool) : abuiltin Tryz.prog .len [25] [.sl xs n f] = some (.v (.int .i64 n)) := abuiltin_len_sl Tryz.underlying25
theorem lo25 (j o n : Nat) : abuiltin Tryz.prog .len [25] [.own j o n] = some (.v (.int .i64 n)) := abuiltin_len_own Tryz.underlying25
theorem lz25 (n c : Nat) : abuiltin Tryz.prog .len [25] [.v (.slice none n c)] = some (.v (.int .i64 n)) := abuiltin_len_nil Tryz.underlying25
attribute [go_sem] ln25 lo25 lz25
theorem ln27 (xs : List AV) (n : Nat) (f : Bool) : abuiltin Tryz.prog .len [27] [.sl xs n f] = some (.v (.int .i64 n)) := abuiltin_len_sl Tryz.underlying27
theorem lo27 (j o n : Nat) : abuiltin Tryz.prog .len [27] [.own j o n] = some (.v (.int .i64 n)) := abuiltin_len_own Tryz.underlying27
theorem lz27 (n c : Nat) : abuiltin Tryz.prog .len [27] [.v (.slice none n c)] = some (.v (.int .i64 n)) := abuiltin_len_nil Tryz.underlying27
attribute [go_sem] ln27 lo27 lz27
theorem ln28 (xs : List AV) (n : Nat) (f : Bool) : abuiltin Tryz.prog .len [28] [.sl xs n f] = some (.v (.int .i64 n)) := abuiltin_len_sl Tryz.underlying28
theorem lo28 (j o n : Nat) : abuiltin Tryz.prog .len [28] [.own j o n] = some (.v (.int .i64 n)) := abuiltin_len_own Tryz.underlying28
theorem lz28 (n c : Nat) : abuiltin Tryz.prog .len [28] [.v (.slice none n c)] = some (.v (.int .i64 n)) := abuiltin_len_nil Tryz.underlying28
attribute [go_sem] ln28 lo28 lz28
theorem ln31 (xs : List AV) (n : Nat) (f : Bool) : abuiltin Tryz.prog .len [31] [.sl xs n f] = some (.v (.int .i64 n)) := abuiltin_len_sl Tryz.underlying31
theorem lo31 (j o n : Nat) : abuiltin Tryz.prog .len [31] [.own j o n] = some (.v (.int .i64 n)) := abuiltin_len_own Tryz.underlying31
theorem lz31 (n c : Nat) : abuiltin Tryz.prog .len [31] [.v (.slice none n c)] = some (.v (.int .i64 n)) := abuiltin_len_nil Tryz.underlying31
attribute [go_sem] ln31 lo31 lz31
theorem mi36 (H : Heap) (ρ : Operand → AV) (x : Operand) : apure Tryz.prog H ρ (.makeInterface 36 x) = some (.ifc 36 (ρ x)) := by simp only [apure, Tryz.underlying36]
attribute [go_sem] mi36
theorem ln40 (xs : List AV) (n : Nat) (f : Bool) : abuiltin Tryz.prog .len [40] [.sl xs n f] = some (.v (.int .i64 n)) := abuiltin_len_sl Tryz.underlying40
theorem lo40 (j o n : Nat) : abuiltin Tryz.prog .len [40] [.own j o n] = some (.v (.int .i64 n)) := abuiltin_len_own Tryz.underlying40
theorem lz40 (n c : Nat) : abuiltin Tryz.prog .len [40] [.v (.slice none n c)] = some (.v (.int .i64 n)) := abuiltin_len_nil Tryz.underlying40
attribute [go_sem] ln40 lo40 lz40
theorem mi40 (H : Heap) (ρ : Operand → AV) (x : Operand) : apure Tryz.prog H ρ (.makeInterface 40 x) = some (.ifc 40 (ρ x)) := by simp only [apure, Tryz.underlying40]
attribute [go_sem] mi40
theorem ln54 (xs : List AV) (n : Nat) (f : Bool) : abuiltin Tryz.prog .len [54] [.sl xs n f] = some (.v (.int .i64 n)) := abuiltin_len_sl Tryz.underlying54
theorem lo54 (j o n : Nat) : abuiltin Tryz.prog .len [54] [.own j o n] = some (.v (.int .i64 n)) := abuiltin_len_own Tryz.underlying54
theorem lz54 (n c : Nat) : abuiltin Tryz.prog .len [54] [.v (.slice none n c)] = some (.v (.int .i64 n)) := abuiltin_len_nil Tryz.underlying54
attribute [go_sem] ln54 lo54 lz54
theorem ln112 (xs : List AV) (n : Nat) (f : Bool) : abuiltin Tryz.prog .len [112] [.sl xs n f] = some (.v (.int .i64 n)) := abuiltin_len_sl Tryz.underlying112
theorem lo112 (j o n : Nat) : abuiltin Tryz.prog .len [112] [.own j o n] = some (.v (.int .i64 n)) := abuiltin_len_own Tryz.underlying112
theorem lz112 (n c : Nat) : abuiltin Tryz.prog .len [112] [.v (.slice none n c)] = some (.v (.int .i64 n)) := abuiltin_len_nil Tryz.underlying112
attribute [go_sem] ln112 lo112 lz112
theorem ln172 (xs : List AV) (n : Nat) (f : Bool) : abuiltin Tryz.prog .len [172] [.sl xs n f] = some (.v (.int .i64 n)) := abuiltin_len_sl Tryz.underlying172
theorem lo172 (j o n : Nat) : abuiltin Tryz.prog .len [172] [.own j o n] = some (.v (.int .i64 n)) := abuiltin_len_own Tryz.underlying172
theorem lz172 (n c : Nat) : abuiltin Tryz.prog .len [172] [.v (.slice none n c)] = some (.v (.int .i64 n)) := abuiltin_len_nil Tryz.underlying172
attribute [go_sem] ln172 lo172 lz172
theorem ln204 (xs : List AV) (n : Nat) (f : Bool) : abuiltin Tryz.prog .len [204] [.sl xs n f] = some (.v (.int .i64 n)) := abuiltin_len_sl Tryz.underlying204
theorem lo204 (j o n : Nat) : abuiltin Tryz.prog .len [204] [.own j o n] = some (.v (.int .i64 n)) := abuiltin_len_own Tryz.underlying204
theorem lz204 (n c : Nat) : abuiltin Tryz.prog .len [204] [.v (.slice none n c)] = some (.v (.int .i64 n)) := abuiltin_len_nil Tryz.underlying204
attribute [go_sem] ln204 lo204 lz204
theorem ln225 (xs : List AV) (n : Nat) (f : Bool) : abuiltin Tryz.prog .len [225] [.sl xs n f] = some (.v (.int .i64 n)) := abuiltin_len_sl Tryz.underlying225
theorem lo225 (j o n : Nat) : abuiltin Tryz.prog .len [225] [.own j o n] = some (.v (.int .i64 n)) := abuiltin_len_own Tryz.underlying225
theorem lz225 (n c : Nat) : abuiltin Tryz.prog .len [225] [.v (.slice none n c)] = some (.v (.int .i64 n)) := abuiltin_len_nil Tryz.underlying225
attribute [go_sem] ln225 lo225 lz225
theorem ln263 (xs : List AV) (n : Nat) (f : Bool) : abuiltin Tryz.prog .len [263] [.sl xs n f] = some (.v (.int .i64 n)) := abuiltin_len_sl Tryz.underlying263
theorem lo263 (j o n : Nat) : abuiltin Tryz.prog .len [263] [.own j o n] = some (.v (.int .i64 n)) := abuiltin_len_own Tryz.underlying263
theorem lz263 (n c : Nat) : abuiltin Tryz.prog .len [263] [.v (.slice none n c)] = some (.v (.int .i64 n)) := abuiltin_len_nil Tryz.underlying263
attribute [go_sem] ln263 lo263 lz263
theorem ln265 (xs : List AV) (n : Nat) (f : Bool) : abuiltin Tryz.prog .len [265] [.sl xs n f] = some (.v (.int .i64 n)) := abuiltin_len_sl Tryz.underlying265
theorem lo265 (j o n : Nat) : abuiltin Tryz.prog .len [265] [.own j o n] = some (.v (.int .i64 n)) := abuiltin_len_own Tryz.underlying265
theorem lz265 (n c : Nat) : abuiltin Tryz.prog .len [265] [.v (.slice none n c)] = some (.v (.int .i64 n)) := abuiltin_len_nil Tryz.underlying265
attribute [go_sem] ln265 lo265 lz265
attribute [go_sem] Tryz.underlying0 sz0 Tryz.underlying1 sz1 Tryz.underlying2 sz2 Tryz.underlying3 sz3 Tryz.underlying4 sz4 Tryz.underlying5 sz5 Tryz.underlying6 sz6 Tryz.underlying7 sz7 Tryz.underlying8 sz8 Tryz.underlying9 sz9 Tryz.underlying10 sz10 Tryz.underlying11 sz11 Tryz.underlying12 sz12 Tryz.underlying13 sz13 Tryz.underlying14 sz14 Tryz.underlying15 sz15 Tryz.underlying16 sz16 Tryz.underlying17 sz17 Tryz.underlying18 sz18 Tryz.underlying19 sz19 Tryz.underlying20 sz20 Tryz.underlying21 sz21 Tryz.underlying22 sz22 Tryz.underlying23 sz23 Tryz.underlying24 sz24 Tryz.underlying25 sz25 Tryz.underlying26 sz26 Tryz.underlying27 sz27 Tryz.underlying28 sz28 Tryz.underlying29 sz29 Tryz.underlying30 sz30 Tryz.underlying31 sz31 Tryz.underlying32 sz32 Tryz.underlying33 sz33 Tryz.underlying34 sz34 Tryz.underlying35 sz35 Tryz.underlying36 sz36 Tryz.underlying37 sz37 Tryz.underlying38 sz38 Tryz.underlying39 sz39 Tryz.underlying40 sz40 Tryz.underlying41 sz41 Tryz.underlying42 sz42 Tryz.underlying43 sz43 Tryz.underlying44 sz44 Tryz.underlying45 sz45 Tryz.underlying46 sz46 Tryz.underlying47 sz47 Tryz.underlying48 sz48 Tryz.underlying49 sz49 Tryz.underlying50 sz50 Tryz.underlying51 sz51 Tryz.underlying52 sz52 Tryz.underlying53 sz53 Tryz.underlying54 sz54 Tryz.underlying55 sz55 Tryz.underlying56 sz56 Tryz.underlying57 sz57 Tryz.underlying58 sz58 Tryz.underlying59 sz59 Tryz.underlying60 sz60 Tryz.underlying61 sz61 Tryz.underlying62 sz62 Tryz.underlying63 sz63 Tryz.underlying64 sz64 Tryz.underlying65 sz65 Tryz.underlying66 sz66 Tryz.underlying67 sz67 Tryz.underlying68 sz68 Tryz.underlying69 sz69 Tryz.underlying70 sz70 Tryz.underlying71 sz71 Tryz.underlying72 sz72 Tryz.underlying73 sz73 Tryz.underlying74 sz74 Tryz.underlying75 sz75 Tryz.underlying76 sz76 Tryz.underlying77 sz77 Tryz.underlying78 sz78 Tryz.underlying79 sz79 Tryz.underlying80 sz80 Tryz.underlying81 sz81 Tryz.underlying82 sz82 Tryz.underlying83 sz83 Tryz.underlying84 sz84 Tryz.underlying85 sz85 Tryz.underlying86 sz86 Tryz.underlying87 sz87 Tryz.underlying88 sz88 Tryz.underlying89 sz89 Tryz.underlying90 sz90 Tryz.underlying91 sz91 Tryz.underlying92 sz92 Tryz.underlying93 sz93 Tryz.underlying94 sz94 Tryz.underlying95 sz95 Tryz.underlying96 sz96 Tryz.underlying97 sz97 Tryz.underlying98 sz98 Tryz.underlying99 sz99 Tryz.underlying100 sz100 Tryz.underlying101 sz101 Tryz.underlying102 sz102 Tryz.underlying103 sz103 Tryz.underlying104 sz104 Tryz.underlying105 sz105 Tryz.underlying106 sz106 Tryz.underlying107 sz107 Tryz.underlying108 sz108 Tryz.underlying109 sz109 Tryz.underlying110 sz110 Tryz.underlying111 sz111 Tryz.underlying112 sz112 Tryz.underlying113 sz113 Tryz.underlying114 sz114 Tryz.underlying115 sz115 Tryz.underlying116 sz116 Tryz.underlying117 sz117 Tryz.underlying118 sz118 Tryz.underlying119 sz119 Tryz.underlying120 sz120 Tryz.underlying121 sz121 Tryz.underlying122 sz122 Tryz.underlying123 sz123 Tryz.underlying124 sz124 Tryz.underlying125 sz125 Tryz.underlying126 sz126 Tryz.underlying127 sz127 Tryz.underlying128 sz128 Tryz.underlying129 sz129 Tryz.underlying130 sz130 Tryz.underlying131 sz131 Tryz.underlying132 sz132 Tryz.underlying133 sz133 Tryz.underlying134 sz134 Tryz.underlying135 sz135 Tryz.underlying136 sz136 Tryz.underlying137 sz137 Tryz.underlying138 sz138 Tryz.underlying139 sz139 Tryz.underlying140 sz140 Tryz.underlying141 sz141 Tryz.underlying142 sz142 Tryz.underlying143 sz143 Tryz.underlying144 sz144 Tryz.underlying145 sz145 Tryz.underlying146 sz146 Tryz.underlying147 sz147 Tryz.underlying148 sz148 Tryz.underlying149 sz149 Tryz.underlying150 sz150 Tryz.underlying151 sz151 Tryz.underlying152 sz152 Tryz.underlying153 sz153 Tryz.underlying154 sz154 Tryz.underlying155 sz155 Tryz.underlying156 sz156 Tryz.underlying157 sz157 Tryz.underlying158 sz158 Tryz.underlying159 sz159 Tryz.underlying160 sz160 Tryz.underlying161 sz161 Tryz.underlying162 sz162 Tryz.underlying163 sz163 Tryz.underlying164 sz164 Tryz.underlying165 sz165 Tryz.underlying166 sz166 Tryz.underlying167 sz167 Tryz.underlying168 sz168 Tryz.underlying169 sz169 Tryz.underlying170 sz170 Tryz.underlying171 sz171 Tryz.underlying172 sz172 Tryz.underlying173 sz173 Tryz.underlying174 sz174 Tryz.underlying175 sz175 Tryz.underlying178 sz178 Tryz.underlying179 sz179 Tryz.underlying180 sz180 Tryz.underlying181 sz181 Tryz.underlying182 sz182 Tryz.underlying183 sz183 Tryz.underlying184 sz184 Tryz.underlying185 sz185 Tryz.underlying186 sz186 Tryz.underlying187 sz187 Tryz.underlying188 sz188 Tryz.underlying189 sz189 Tryz.underlying190 sz190 Tryz.underlying191 sz191 Tryz.underlying192 sz192 Tryz.underlying193 sz193 Tryz.underlying194 sz194 Tryz.underlying196 sz196 Tryz.underlying197 sz197 Tryz.underlying198 sz198 Tryz.underlying199 sz199 Tryz.underlying200 sz200 Tryz.underlying201 sz201 Tryz.underlying202 sz202 Tryz.underlying203 sz203 Tryz.underlying204 sz204 Tryz.underlying205 sz205 Tryz.underlying206 sz206 Tryz.underlying207 sz207 Tryz.underlying208 sz208 Tryz.underlying209 sz209 Tryz.underlying210 sz210 Tryz.underlying211 sz211 Tryz.underlying212 sz212 Tryz.underlying213 sz213 Tryz.underlying214 sz214 Tryz.underlying215 sz215 Tryz.underlying216 sz216 Tryz.underlying217 sz217 Tryz.underlying218 sz218 Tryz.underlying219 sz219 Tryz.underlying220 sz220 Tryz.underlying221 sz221 Tryz.underlying222 sz222 Tryz.underlying223 sz223 Tryz.underlying224 sz224 Tryz.underlying225 sz225 Tryz.underlying226 sz226 Tryz.underlying227 sz227 Tryz.underlying228 sz228 Tryz.underlying229 sz229 Tryz.underlying242 sz242 Tryz.underlying243 sz243 Tryz.underlying245 sz245 Tryz.underlying253 sz253 Tryz.underlying254 sz254 Tryz.underlying256 sz256 Tryz.underlying257 sz257 Tryz.underlying263 sz263 Tryz.underlying265 sz265 Tryz.underlying267 sz267 Tryz.underlying272 sz272 Tryz.underlying273 sz273 Tryz.underlying274 sz274 Tryz.underlying275 sz275 Tryz.underlying276 sz276 Tryz.underlying277 sz277 Tryz.underlying278 sz278 Tryz.underlying279 sz279 Tryz.underlying280 sz280 Tryz.underlying281 sz281 Tryz.underlying282 sz282 Tryz.underlying283 sz283 Tryz.underlying284 sz284 Tryz.underlying285 sz285 Tryz.underlying286 sz286 Tryz.underlying287 sz287
end Go.Proofs.YtkdohhmacfoolaaGreat
