/- Facts that the statement's proof is made of. No condition. -/
import Derived.Test.YtibnmlbjahcjmaaRows
import Derived.Test.YtibnmlbjahcjmaaVdAmB
set_option linter.unusedSimpArgs false
set_option linter.unusedVariables false
namespace Go.Proofs.Ytibnmlbjahcjmaa
open Go Go.AM
theorem sz0 : szOf Try.prog 0 = some 1 := by kernel_rfl
theorem sz1 : szOf Try.prog 1 = some 1 := by kernel_rfl
theorem tb1 : Try.t1.bytes = 8 := rfl
theorem sz2 : szOf Try.prog 2 = some 1 := by kernel_rfl
theorem sz3 : szOf Try.prog 3 = some 1 := by kernel_rfl
theorem in3 : Try.prog.info? 3 = some Try.t3 := by kernel_rfl
theorem ts3 : Try.t3.size = 1 := rfl
theorem tb3 : Try.t3.bytes = 8 := rfl
theorem tz3 : Try.t3.zero = some (Value.int IntKind.i64 0) := rfl
theorem zc3 : zeroCells? Try.prog 3 = some [.v (Value.int IntKind.i64 0)] := by kernel_rfl
theorem sz4 : szOf Try.prog 4 = some 1 := by kernel_rfl
theorem in4 : Try.prog.info? 4 = some Try.t4 := by kernel_rfl
theorem ts4 : Try.t4.size = 1 := rfl
theorem tb4 : Try.t4.bytes = 1 := rfl
theorem zc4 : zeroCells? Try.prog 4 = some [.v (Value.bool false)] := by kernel_rfl
theorem sz5 : szOf Try.prog 5 = some 1 := by kernel_rfl
theorem sz6 : szOf Try.prog 6 = some 1 := by kernel_rfl
theorem sz7 : szOf Try.prog 7 = some 4 := by kernel_rfl
theorem sz8 : szOf Try.prog 8 = some 4 := by kernel_rfl
theorem sz9 : szOf Try.prog 9 = some 1 := by kernel_rfl
theorem sz10 : szOf Try.prog 10 = some 1 := by kernel_rfl
theorem sz11 : szOf Try.prog 11 = some 1 := by kernel_rfl
theorem sz12 : szOf Try.prog 12 = some 1 := by kernel_rfl
theorem sz13 : szOf Try.prog 13 = some 2 := by kernel_rfl
theorem sz14 : szOf Try.prog 14 = some 2 := by kernel_rfl
theorem sz15 : szOf Try.prog 15 = some 1 := by kernel_rfl
theorem sz16 : szOf Try.prog 16 = some 1 := by kernel_rfl
theorem sz17 : szOf Try.prog 17 = some 1 := by kernel_rfl
theorem sz18 : szOf Try.prog 18 = some 1 := by kernel_rfl
theorem sz19 : szOf Try.prog 19 = some 1 := by kernel_rfl
theorem sz20 : szOf Try.prog 20 = some 1 := by kernel_rfl
theorem sz21 : szOf Try.prog 21 = some 1 := by kernel_rfl
theorem sz22 : szOf Try.prog 22 = some 3 := by kernel_rfl
theorem sz23 : szOf Try.prog 23 = some 3 := by kernel_rfl
theorem zc23 : zeroCells? Try.prog 23 = some [.v (Value.int IntKind.i64 0), .v (Value.int IntKind.i64 0), .v (Value.int IntKind.i64 0)] := by kernel_rfl
theorem sz24 : szOf Try.prog 24 = some 1 := by kernel_rfl
theorem sz25 : szOf Try.prog 25 = some 1 := by kernel_rfl
theorem zc25 : zeroCells? Try.prog 25 = some [.v (Value.slice none 0 0)] := by kernel_rfl
theorem sz26 : szOf Try.prog 26 = some 5 := by kernel_rfl
theorem sz27 : szOf Try.prog 27 = some 5 := by kernel_rfl
theorem zc27 : zeroCells? Try.prog 27 = some [.v (Value.int IntKind.i64 0), .v (Value.int IntKind.i64 0), .v (Value.int IntKind.i64 0), .v (Value.slice none 0 0), .v (Value.slice none 0 0)] := by kernel_rfl
theorem sz28 : szOf Try.prog 28 = some 1 := by kernel_rfl
theorem sz29 : szOf Try.prog 29 = some 1 := by kernel_rfl
theorem sz30 : szOf Try.prog 30 = some 1 := by kernel_rfl
theorem in30 : Try.prog.info? 30 = some Try.t30 := by kernel_rfl
theorem ts30 : Try.t30.size = 1 := rfl
theorem tb30 : Try.t30.bytes = 24 := rfl
theorem zc30 : zeroCells? Try.prog 30 = some [.v (Value.slice none 0 0)] := by kernel_rfl
theorem sz31 : szOf Try.prog 31 = some 1 := by kernel_rfl
theorem sz32 : szOf Try.prog 32 = some 1 := by kernel_rfl
theorem sz33 : szOf Try.prog 33 = some 1 := by kernel_rfl
theorem sz34 : szOf Try.prog 34 = some 1 := by kernel_rfl
theorem sz35 : szOf Try.prog 35 = some 1 := by kernel_rfl
theorem sz36 : szOf Try.prog 36 = some 1 := by kernel_rfl
theorem sz37 : szOf Try.prog 37 = some 3 := by kernel_rfl
theorem sz38 : szOf Try.prog 38 = some 3 := by kernel_rfl
theorem in38 : Try.prog.info? 38 = some Try.t38 := by kernel_rfl
theorem ts38 : Try.t38.size = 3 := rfl
theorem tb38 : Try.t38.bytes = 24 := rfl
theorem tz38 : Try.t38.zero = some (Value.agg #[Value.int IntKind.i64 0, Value.int IntKind.i64 0, Value.int IntKind.i64 0]) := rfl
theorem zc38 : zeroCells? Try.prog 38 = some [.v (Value.int IntKind.i64 0), .v (Value.int IntKind.i64 0), .v (Value.int IntKind.i64 0)] := by kernel_rfl
theorem sz39 : szOf Try.prog 39 = some 1 := by kernel_rfl
theorem sz40 : szOf Try.prog 40 = some 1 := by kernel_rfl
theorem sz41 : szOf Try.prog 41 = some 1 := by kernel_rfl
theorem sz42 : szOf Try.prog 42 = some 1 := by kernel_rfl
theorem sz43 : szOf Try.prog 43 = some 1 := by kernel_rfl
theorem sz44 : szOf Try.prog 44 = some 1 := by kernel_rfl
theorem sz45 : szOf Try.prog 45 = some 1 := by kernel_rfl
theorem sz46 : szOf Try.prog 46 = some 1 := by kernel_rfl
theorem sz47 : szOf Try.prog 47 = some 1 := by kernel_rfl
theorem sz48 : szOf Try.prog 48 = some 1 := by kernel_rfl
theorem sz49 : szOf Try.prog 49 = some 1 := by kernel_rfl
theorem sz50 : szOf Try.prog 50 = some 1 := by kernel_rfl
theorem sz51 : szOf Try.prog 51 = some 1 := by kernel_rfl
theorem in51 : Try.prog.info? 51 = some Try.t51 := by kernel_rfl
theorem ts51 : Try.t51.size = 1 := rfl
theorem tb51 : Try.t51.bytes = 8 := rfl
theorem tz51 : Try.t51.zero = some (Value.int IntKind.u64 0) := rfl
theorem zc51 : zeroCells? Try.prog 51 = some [.v (Value.int IntKind.u64 0)] := by kernel_rfl
theorem sz52 : szOf Try.prog 52 = some 2 := by kernel_rfl
theorem sz53 : szOf Try.prog 53 = some 2 := by kernel_rfl
theorem in53 : Try.prog.info? 53 = some Try.t53 := by kernel_rfl
theorem ts53 : Try.t53.size = 2 := rfl
theorem tb53 : Try.t53.bytes = 16 := rfl
theorem tz53 : Try.t53.zero = some (Value.agg #[Value.int IntKind.u64 0, Value.int IntKind.u64 0]) := rfl
theorem zc53 : zeroCells? Try.prog 53 = some [.v (Value.int IntKind.u64 0), .v (Value.int IntKind.u64 0)] := by kernel_rfl
theorem sz54 : szOf Try.prog 54 = some 1 := by kernel_rfl
theorem sz55 : szOf Try.prog 55 = some 1 := by kernel_rfl
theorem sz56 : szOf Try.prog 56 = some 1 := by kernel_rfl
theorem sz57 : szOf Try.prog 57 = some 1 := by kernel_rfl
theorem sz58 : szOf Try.prog 58 = some 1 := by kernel_rfl
theorem sz59 : szOf Try.prog 59 = some 1 := by kernel_rfl
theorem sz60 : szOf Try.prog 60 = some 1 := by kernel_rfl
theorem sz61 : szOf Try.prog 61 = some 1 := by kernel_rfl
theorem sz62 : szOf Try.prog 62 = some 1 := by kernel_rfl
theorem sz63 : szOf Try.prog 63 = some 1 := by kernel_rfl
theorem sz64 : szOf Try.prog 64 = some 1 := by kernel_rfl
theorem sz65 : szOf Try.prog 65 = some 1 := by kernel_rfl
theorem sz66 : szOf Try.prog 66 = some 1 := by kernel_rfl
theorem sz67 : szOf Try.prog 67 = some 2 := by kernel_rfl
theorem sz68 : szOf Try.prog 68 = some 2 := by kernel_rfl
theorem sz69 : szOf Try.prog 69 = some 1 := by kernel_rfl
theorem sz70 : szOf Try.prog 70 = some 1 := by kernel_rfl
theorem sz71 : szOf Try.prog 71 = some 1 := by kernel_rfl
theorem sz72 : szOf Try.prog 72 = some 3 := by kernel_rfl
theorem sz73 : szOf Try.prog 73 = some 3 := by kernel_rfl
theorem sz74 : szOf Try.prog 74 = some 1 := by kernel_rfl
theorem sz75 : szOf Try.prog 75 = some 1 := by kernel_rfl
theorem sz76 : szOf Try.prog 76 = some 1 := by kernel_rfl
theorem sz77 : szOf Try.prog 77 = some 12 := by kernel_rfl
theorem zc77 : zeroCells? Try.prog 77 = some [.v (Value.int IntKind.i64 0), .v (Value.int IntKind.i64 0), .v (Value.int IntKind.i64 0), .v (Value.int IntKind.i64 0), .v (Value.int IntKind.i64 0), .v (Value.int IntKind.i64 0), .v (Value.int IntKind.i64 0), .v (Value.int IntKind.i64 0), .v (Value.int IntKind.i64 0), .v (Value.int IntKind.i64 0), .v (Value.int IntKind.i64 0), .v (Value.int IntKind.i64 0)] := by kernel_rfl
theorem sz78 : szOf Try.prog 78 = some 1 := by kernel_rfl
theorem sz79 : szOf Try.prog 79 = some 1 := by kernel_rfl
theorem sz80 : szOf Try.prog 80 = some 1 := by kernel_rfl
theorem sz81 : szOf Try.prog 81 = some 1 := by kernel_rfl
theorem sz82 : szOf Try.prog 82 = some 1 := by kernel_rfl
theorem sz83 : szOf Try.prog 83 = some 1 := by kernel_rfl
theorem sz84 : szOf Try.prog 84 = some 1 := by kernel_rfl
theorem sz85 : szOf Try.prog 85 = some 1 := by kernel_rfl
theorem sz86 : szOf Try.prog 86 = some 1 := by kernel_rfl
theorem sz87 : szOf Try.prog 87 = some 1 := by kernel_rfl
theorem sz88 : szOf Try.prog 88 = some 1 := by kernel_rfl
theorem sz89 : szOf Try.prog 89 = some 1 := by kernel_rfl
theorem sz90 : szOf Try.prog 90 = some 3 := by kernel_rfl
theorem sz91 : szOf Try.prog 91 = some 3 := by kernel_rfl
theorem zc91 : zeroCells? Try.prog 91 = some [.v (Value.int IntKind.i64 0), .v (Value.int IntKind.i64 0), .v (Value.slice none 0 0)] := by kernel_rfl
theorem sz92 : szOf Try.prog 92 = some 1 := by kernel_rfl
theorem sz93 : szOf Try.prog 93 = some 1 := by kernel_rfl
theorem sz94 : szOf Try.prog 94 = some 1 := by kernel_rfl
theorem sz95 : szOf Try.prog 95 = some 1 := by kernel_rfl
theorem sz96 : szOf Try.prog 96 = some 1 := by kernel_rfl
theorem sz97 : szOf Try.prog 97 = some 1 := by kernel_rfl
theorem sz98 : szOf Try.prog 98 = some 1 := by kernel_rfl
theorem sz99 : szOf Try.prog 99 = some 1 := by kernel_rfl
theorem sz100 : szOf Try.prog 100 = some 1 := by kernel_rfl
theorem sz101 : szOf Try.prog 101 = some 1 := by kernel_rfl
theorem sz102 : szOf Try.prog 102 = some 1 := by kernel_rfl
theorem sz103 : szOf Try.prog 103 = some 1 := by kernel_rfl
theorem sz104 : szOf Try.prog 104 = some 1 := by kernel_rfl
theorem sz105 : szOf Try.prog 105 = some 1 := by kernel_rfl
theorem sz106 : szOf Try.prog 106 = some 1 := by kernel_rfl
theorem sz107 : szOf Try.prog 107 = some 2 := by kernel_rfl
theorem sz108 : szOf Try.prog 108 = some 1 := by kernel_rfl
theorem sz109 : szOf Try.prog 109 = some 1 := by kernel_rfl
theorem sz110 : szOf Try.prog 110 = some 1 := by kernel_rfl
theorem sz111 : szOf Try.prog 111 = some 1 := by kernel_rfl
theorem sz112 : szOf Try.prog 112 = some 1 := by kernel_rfl
theorem sz113 : szOf Try.prog 113 = some 1 := by kernel_rfl
theorem sz114 : szOf Try.prog 114 = some 1 := by kernel_rfl
theorem sz115 : szOf Try.prog 115 = some 1 := by kernel_rfl
theorem sz116 : szOf Try.prog 116 = some 1 := by kernel_rfl
theorem sz117 : szOf Try.prog 117 = some 1 := by kernel_rfl
theorem sz118 : szOf Try.prog 118 = some 1 := by kernel_rfl
theorem sz119 : szOf Try.prog 119 = some 1 := by kernel_rfl
theorem sz120 : szOf Try.prog 120 = some 1 := by kernel_rfl
theorem sz121 : szOf Try.prog 121 = some 1 := by kernel_rfl
theorem sz122 : szOf Try.prog 122 = some 1 := by kernel_rfl
theorem sz123 : szOf Try.prog 123 = some 1 := by kernel_rfl
theorem sz124 : szOf Try.prog 124 = some 1 := by kernel_rfl
theorem sz125 : szOf Try.prog 125 = some 1 := by kernel_rfl
theorem sz126 : szOf Try.prog 126 = some 1 := by kernel_rfl
theorem sz127 : szOf Try.prog 127 = some 1 := by kernel_rfl
theorem sz128 : szOf Try.prog 128 = some 1 := by kernel_rfl
theorem sz129 : szOf Try.prog 129 = some 1 := by kernel_rfl
theorem sz130 : szOf Try.prog 130 = some 1 := by kernel_rfl
theorem sz131 : szOf Try.prog 131 = some 1 := by kernel_rfl
theorem sz132 : szOf Try.prog 132 = some 1 := by kernel_rfl
theorem sz133 : szOf Try.prog 133 = some 1 := by kernel_rfl
theorem sz134 : szOf Try.prog 134 = some 1 := by kernel_rfl
theorem sz135 : szOf Try.prog 135 = some 1 := by kernel_rfl
theorem sz136 : szOf Try.prog 136 = some 1 := by kernel_rfl
theorem sz137 : szOf Try.prog 137 = some 1 := by kernel_rfl
theorem sz138 : szOf Try.prog 138 = some 1 := by kernel_rfl
theorem sz139 : szOf Try.prog 139 = some 1 := by kernel_rfl
theorem sz140 : szOf Try.prog 140 = some 1 := by kernel_rfl
theorem sz141 : szOf Try.prog 141 = some 1 := by kernel_rfl
theorem sz142 : szOf Try.prog 142 = some 1 := by kernel_rfl
theorem sz143 : szOf Try.prog 143 = some 1 := by kernel_rfl
theorem sz144 : szOf Try.prog 144 = some 1 := by kernel_rfl
theorem sz145 : szOf Try.prog 145 = some 1 := by kernel_rfl
theorem sz146 : szOf Try.prog 146 = some 1 := by kernel_rfl
theorem sz147 : szOf Try.prog 147 = some 1 := by kernel_rfl
theorem sz148 : szOf Try.prog 148 = some 1 := by kernel_rfl
theorem sz149 : szOf Try.prog 149 = some 1 := by kernel_rfl
theorem sz150 : szOf Try.prog 150 = some 1 := by kernel_rfl
theorem sz151 : szOf Try.prog 151 = some 1 := by kernel_rfl
theorem sz152 : szOf Try.prog 152 = some 4 := by kernel_rfl
theorem sz153 : szOf Try.prog 153 = some 4 := by kernel_rfl
theorem sz154 : szOf Try.prog 154 = some 0 := by kernel_rfl
theorem sz155 : szOf Try.prog 155 = some 0 := by kernel_rfl
theorem sz156 : szOf Try.prog 156 = some 0 := by kernel_rfl
theorem sz157 : szOf Try.prog 157 = some 1 := by kernel_rfl
theorem sz158 : szOf Try.prog 158 = some 1 := by kernel_rfl
theorem sz159 : szOf Try.prog 159 = some 1 := by kernel_rfl
theorem sz160 : szOf Try.prog 160 = some 1 := by kernel_rfl
theorem sz161 : szOf Try.prog 161 = some 1 := by kernel_rfl
theorem sz162 : szOf Try.prog 162 = some 1 := by kernel_rfl
theorem sz163 : szOf Try.prog 163 = some 1 := by kernel_rfl
theorem sz164 : szOf Try.prog 164 = some 11 := by kernel_rfl
theorem sz165 : szOf Try.prog 165 = some 11 := by kernel_rfl
theorem sz166 : szOf Try.prog 166 = some 1 := by kernel_rfl
theorem fb34 : (Program.funcs Try.prog)[34]?.any (fun fn => fn.body.isSome && fn.name != "runtime.NumGoroutine") = true := by rw [Try.func34]; kernel_rfl
theorem fb36 : (Program.funcs Try.prog)[36]?.any (fun fn => fn.body.isSome && fn.name != "runtime.NumGoroutine") = true := by rw [Try.func36]; kernel_rfl
theorem fb39 : (Program.funcs Try.prog)[39]?.any (fun fn => fn.body.isSome && fn.name != "runtime.NumGoroutine") = true := by rw [Try.func39]; kernel_rfl
theorem fb42 : (Program.funcs Try.prog)[42]?.any (fun fn => fn.body.isSome && fn.name != "runtime.NumGoroutine") = true := by rw [Try.func42]; kernel_rfl
theorem fb44 : (Program.funcs Try.prog)[44]?.any (fun fn => fn.body.isSome && fn.name != "runtime.NumGoroutine") = true := by rw [Try.func44]; kernel_rfl
theorem fb45 : (Program.funcs Try.prog)[45]?.any (fun fn => fn.body.isSome && fn.name != "runtime.NumGoroutine") = true := by rw [Try.func45]; kernel_rfl
theorem fb65 : (Program.funcs Try.prog)[65]?.any (fun fn => fn.body.isSome && fn.name != "runtime.NumGoroutine") = true := by rw [Try.func65]; kernel_rfl
theorem fb66 : (Program.funcs Try.prog)[66]?.any (fun fn => fn.body.isSome && fn.name != "runtime.NumGoroutine") = true := by rw [Try.func66]; kernel_rfl
theorem fb67 : (Program.funcs Try.prog)[67]?.any (fun fn => fn.body.isSome && fn.name != "runtime.NumGoroutine") = true := by rw [Try.func67]; kernel_rfl
theorem fb68 : (Program.funcs Try.prog)[68]?.any (fun fn => fn.body.isSome && fn.name != "runtime.NumGoroutine") = true := by rw [Try.func68]; kernel_rfl
theorem fb69 : (Program.funcs Try.prog)[69]?.any (fun fn => fn.body.isSome && fn.name != "runtime.NumGoroutine") = true := by rw [Try.func69]; kernel_rfl
theorem fb71 : (Program.funcs Try.prog)[71]?.any (fun fn => fn.body.isSome && fn.name != "runtime.NumGoroutine") = true := by rw [Try.func71]; kernel_rfl
theorem fb75 : (Program.funcs Try.prog)[75]?.any (fun fn => fn.body.isSome && fn.name != "runtime.NumGoroutine") = true := by rw [Try.func75]; kernel_rfl
theorem fb79 : (Program.funcs Try.prog)[79]?.any (fun fn => fn.body.isSome && fn.name != "runtime.NumGoroutine") = true := by rw [Try.func79]; kernel_rfl
theorem fb80 : (Program.funcs Try.prog)[80]?.any (fun fn => fn.body.isSome && fn.name != "runtime.NumGoroutine") = true := by rw [Try.func80]; kernel_rfl
theorem fb81 : (Program.funcs Try.prog)[81]?.any (fun fn => fn.body.isSome && fn.name != "runtime.NumGoroutine") = true := by rw [Try.func81]; kernel_rfl
theorem fb82 : (Program.funcs Try.prog)[82]?.any (fun fn => fn.body.isSome && fn.name != "runtime.NumGoroutine") = true := by rw [Try.func82]; kernel_rfl
theorem fb83 : (Program.funcs Try.prog)[83]?.any (fun fn => fn.body.isSome && fn.name != "runtime.NumGoroutine") = true := by rw [Try.func83]; kernel_rfl
theorem fb84 : (Program.funcs Try.prog)[84]?.any (fun fn => fn.body.isSome && fn.name != "runtime.NumGoroutine") = true := by rw [Try.func84]; kernel_rfl
theorem fb85 : (Program.funcs Try.prog)[85]?.any (fun fn => fn.body.isSome && fn.name != "runtime.NumGoroutine") = true := by rw [Try.func85]; kernel_rfl
theorem fb86 : (Program.funcs Try.prog)[86]?.any (fun fn => fn.body.isSome && fn.name != "runtime.NumGoroutine") = true := by rw [Try.func86]; kernel_rfl
theorem fb87 : (Program.funcs Try.prog)[87]?.any (fun fn => fn.body.isSome && fn.name != "runtime.NumGoroutine") = true := by rw [Try.func87]; kernel_rfl
theorem fb88 : (Program.funcs Try.prog)[88]?.any (fun fn => fn.body.isSome && fn.name != "runtime.NumGoroutine") = true := by rw [Try.func88]; kernel_rfl
theorem fb89 : (Program.funcs Try.prog)[89]?.any (fun fn => fn.body.isSome && fn.name != "runtime.NumGoroutine") = true := by rw [Try.func89]; kernel_rfl
theorem fb90 : (Program.funcs Try.prog)[90]?.any (fun fn => fn.body.isSome && fn.name != "runtime.NumGoroutine") = true := by rw [Try.func90]; kernel_rfl
theorem fb91 : (Program.funcs Try.prog)[91]?.any (fun fn => fn.body.isSome && fn.name != "runtime.NumGoroutine") = true := by rw [Try.func91]; kernel_rfl
theorem fb100 : (Program.funcs Try.prog)[100]?.any (fun fn => fn.body.isSome && fn.name != "runtime.NumGoroutine") = true := by rw [Try.func100]; kernel_rfl
theorem fb101 : (Program.funcs Try.prog)[101]?.any (fun fn => fn.body.isSome && fn.name != "runtime.NumGoroutine") = true := by rw [Try.func101]; kernel_rfl
theorem fb102 : (Program.funcs Try.prog)[102]?.any (fun fn => fn.body.isSome && fn.name != "runtime.NumGoroutine") = true := by rw [Try.func102]; kernel_rfl
theorem fb103 : (Program.funcs Try.prog)[103]?.any (fun fn => fn.body.isSome && fn.name != "runtime.NumGoroutine") = true := by rw [Try.func103]; kernel_rfl
theorem fb104 : (Program.funcs Try.prog)[104]?.any (fun fn => fn.body.isSome && fn.name != "runtime.NumGoroutine") = true := by rw [Try.func104]; kernel_rfl
theorem fb107 : (Program.funcs Try.prog)[107]?.any (fun fn => fn.body.isSome && fn.name != "runtime.NumGoroutine") = true := by rw [Try.func107]; kernel_rfl
theorem fb108 : (Program.funcs Try.prog)[108]?.any (fun fn => fn.body.isSome && fn.name != "runtime.NumGoroutine") = true := by rw [Try.func108]; kernel_rfl
theorem fb109 : (Program.funcs Try.prog)[109]?.any (fun fn => fn.body.isSome && fn.name != "runtime.NumGoroutine") = true := by rw [Try.func109]; kernel_rfl
theorem fb110 : (Program.funcs Try.prog)[110]?.any (fun fn => fn.body.isSome && fn.name != "runtime.NumGoroutine") = true := by rw [Try.func110]; kernel_rfl
theorem fb111 : (Program.funcs Try.prog)[111]?.any (fun fn => fn.body.isSome && fn.name != "runtime.NumGoroutine") = true := by rw [Try.func111]; kernel_rfl
theorem fb112 : (Program.funcs Try.prog)[112]?.any (fun fn => fn.body.isSome && fn.name != "runtime.NumGoroutine") = true := by rw [Try.func112]; kernel_rfl
theorem fb113 : (Program.funcs Try.prog)[113]?.any (fun fn => fn.body.isSome && fn.name != "runtime.NumGoroutine") = true := by rw [Try.func113]; kernel_rfl
theorem fb114 : (Program.funcs Try.prog)[114]?.any (fun fn => fn.body.isSome && fn.name != "runtime.NumGoroutine") = true := by rw [Try.func114]; kernel_rfl
theorem fb115 : (Program.funcs Try.prog)[115]?.any (fun fn => fn.body.isSome && fn.name != "runtime.NumGoroutine") = true := by rw [Try.func115]; kernel_rfl
theorem fb116 : (Program.funcs Try.prog)[116]?.any (fun fn => fn.body.isSome && fn.name != "runtime.NumGoroutine") = true := by rw [Try.func116]; kernel_rfl
theorem fb117 : (Program.funcs Try.prog)[117]?.any (fun fn => fn.body.isSome && fn.name != "runtime.NumGoroutine") = true := by rw [Try.func117]; kernel_rfl
theorem fb118 : (Program.funcs Try.prog)[118]?.any (fun fn => fn.body.isSome && fn.name != "runtime.NumGoroutine") = true := by rw [Try.func118]; kernel_rfl
theorem fb121 : (Program.funcs Try.prog)[121]?.any (fun fn => fn.body.isSome && fn.name != "runtime.NumGoroutine") = true := by rw [Try.func121]; kernel_rfl
theorem fb122 : (Program.funcs Try.prog)[122]?.any (fun fn => fn.body.isSome && fn.name != "runtime.NumGoroutine") = true := by rw [Try.func122]; kernel_rfl
theorem fb123 : (Program.funcs Try.prog)[123]?.any (fun fn => fn.body.isSome && fn.name != "runtime.NumGoroutine") = true := by rw [Try.func123]; kernel_rfl
theorem fb124 : (Program.funcs Try.prog)[124]?.any (fun fn => fn.body.isSome && fn.name != "runtime.NumGoroutine") = true := by rw [Try.func124]; kernel_rfl
theorem fb125 : (Program.funcs Try.prog)[125]?.any (fun fn => fn.body.isSome && fn.name != "runtime.NumGoroutine") = true := by rw [Try.func125]; kernel_rfl
theorem fb126 : (Program.funcs Try.prog)[126]?.any (fun fn => fn.body.isSome && fn.name != "runtime.NumGoroutine") = true := by rw [Try.func126]; kernel_rfl
theorem fb127 : (Program.funcs Try.prog)[127]?.any (fun fn => fn.body.isSome && fn.name != "runtime.NumGoroutine") = true := by rw [Try.func127]; kernel_rfl
theorem fb128 : (Program.funcs Try.prog)[128]?.any (fun fn => fn.body.isSome && fn.name != "runtime.NumGoroutine") = true := by rw [Try.func128]; kernel_rfl
theorem fb129 : (Program.funcs Try.prog)[129]?.any (fun fn => fn.body.isSome && fn.name != "runtime.NumGoroutine") = true := by rw [Try.func129]; kernel_rfl
theorem fb130 : (Program.funcs Try.prog)[130]?.any (fun fn => fn.body.isSome && fn.name != "runtime.NumGoroutine") = true := by rw [Try.func130]; kernel_rfl
theorem fb131 : (Program.funcs Try.prog)[131]?.any (fun fn => fn.body.isSome && fn.name != "runtime.NumGoroutine") = true := by rw [Try.func131]; kernel_rfl
theorem fb134 : (Program.funcs Try.prog)[134]?.any (fun fn => fn.body.isSome && fn.name != "runtime.NumGoroutine") = true := by rw [Try.func134]; kernel_rfl
theorem fb135 : (Program.funcs Try.prog)[135]?.any (fun fn => fn.body.isSome && fn.name != "runtime.NumGoroutine") = true := by rw [Try.func135]; kernel_rfl
theorem fb136 : (Program.funcs Try.prog)[136]?.any (fun fn => fn.body.isSome && fn.name != "runtime.NumGoroutine") = true := by rw [Try.func136]; kernel_rfl
theorem fb137 : (Program.funcs Try.prog)[137]?.any (fun fn => fn.body.isSome && fn.name != "runtime.NumGoroutine") = true := by rw [Try.func137]; kernel_rfl
theorem fb139 : (Program.funcs Try.prog)[139]?.any (fun fn => fn.body.isSome && fn.name != "runtime.NumGoroutine") = true := by rw [Try.func139]; kernel_rfl
theorem fb140 : (Program.funcs Try.prog)[140]?.any (fun fn => fn.body.isSome && fn.name != "runtime.NumGoroutine") = true := by rw [Try.func140]; kernel_rfl
theorem fb141 : (Program.funcs Try.prog)[141]?.any (fun fn => fn.body.isSome && fn.name != "runtime.NumGoroutine") = true := by rw [Try.func141]; kernel_rfl
theorem fb142 : (Program.funcs Try.prog)[142]?.any (fun fn => fn.body.isSome && fn.name != "runtime.NumGoroutine") = true := by rw [Try.func142]; kernel_rfl
theorem fb143 : (Program.funcs Try.prog)[143]?.any (fun fn => fn.body.isSome && fn.name != "runtime.NumGoroutine") = true := by rw [Try.func143]; kernel_rfl
theorem fb144 : (Program.funcs Try.prog)[144]?.any (fun fn => fn.body.isSome && fn.name != "runtime.NumGoroutine") = true := by rw [Try.func144]; kernel_rfl
theorem fb145 : (Program.funcs Try.prog)[145]?.any (fun fn => fn.body.isSome && fn.name != "runtime.NumGoroutine") = true := by rw [Try.func145]; kernel_rfl
theorem fb146 : (Program.funcs Try.prog)[146]?.any (fun fn => fn.body.isSome && fn.name != "runtime.NumGoroutine") = true := by rw [Try.func146]; kernel_rfl
theorem fb147 : (Program.funcs Try.prog)[147]?.any (fun fn => fn.body.isSome && fn.name != "runtime.NumGoroutine") = true := by rw [Try.func147]; kernel_rfl
theorem fb148 : (Program.funcs Try.prog)[148]?.any (fun fn => fn.body.isSome && fn.name != "runtime.NumGoroutine") = true := by rw [Try.func148]; kernel_rfl
theorem fb149 : (Program.funcs Try.prog)[149]?.any (fun fn => fn.body.isSome && fn.name != "runtime.NumGoroutine") = true := by rw [Try.func149]; kernel_rfl
theorem fb150 : (Program.funcs Try.prog)[150]?.any (fun fn => fn.body.isSome && fn.name != "runtime.NumGoroutine") = true := by rw [Try.func150]; kernel_rfl
theorem fb151 : (Program.funcs Try.prog)[151]?.any (fun fn => fn.body.isSome && fn.name != "runtime.NumGoroutine") = true := by rw [Try.func151]; kernel_rfl
theorem fb152 : (Program.funcs Try.prog)[152]?.any (fun fn => fn.body.isSome && fn.name != "runtime.NumGoroutine") = true := by rw [Try.func152]; kernel_rfl
theorem fb153 : (Program.funcs Try.prog)[153]?.any (fun fn => fn.body.isSome && fn.name != "runtime.NumGoroutine") = true := by rw [Try.func153]; kernel_rfl
theorem mix : Try.prog.follows .mixedOrders = true := by kernel_rfl
theorem mi0 (H : Heap) (ρ : Operand → AV) (x : Operand) : apure Try.prog H ρ (.makeInterface 0 x) = some (.ifc 0 (ρ x)) := by simp only [apure, Try.underlying0]
attribute [go_sem] mi0
theorem mi1 (H : Heap) (ρ : Operand → AV) (x : Operand) : apure Try.prog H ρ (.makeInterface 1 x) = some (.ifc 1 (ρ x)) := by simp only [apure, Try.underlying1]
attribute [go_sem] mi1
theorem mi2 (H : Heap) (ρ : Operand → AV) (x : Operand) : apure Try.prog H ρ (.makeInterface 2 x) = some (.ifc 2 (ρ x)) := by simp only [apure, Try.underlying2]
attribute [go_sem] mi2
theorem mi3 (H : Heap) (ρ : Operand → AV) (x : Operand) : apure Try.prog H ρ (.makeInterface 3 x) = some (.ifc 3 (ρ x)) := by simp only [apure, Try.underlying3]
attribute [go_sem] mi3
theorem mi4 (H : Heap) (ρ : Operand → AV) (x : Operand) : apure Try.prog H ρ (.makeInterface 4 x) = some (.ifc 4 (ρ x)) := by simp only [apure, Try.underlying4]
attribute [go_sem] mi4
theorem mi5 (H : Heap) (ρ : Operand → AV) (x : Operand) : apure Try.prog H ρ (.makeInterface 5 x) = some (.ifc 5 (ρ x)) := by simp only [apure, Try.underlying5]
attribute [go_sem] mi5
theorem mi6 (H : Heap) (ρ : Operand → AV) (x : Operand) : apure Try.prog H ρ (.makeInterface 6 x) = some (.ifc 6 (ρ x)) := by simp only [apure, Try.underlying6]
attribute [go_sem] mi6
theorem mi7 (H : Heap) (ρ : Operand → AV) (x : Operand) : apure Try.prog H ρ (.makeInterface 7 x) = some (.ifc 7 (ρ x)) := by simp only [apure, Try.underlying7]
attribute [go_sem] mi7
theorem mi8 (H : Heap) (ρ : Operand → AV) (x : Operand) : apure Try.prog H ρ (.makeInterface 8 x) = some (.ifc 8 (ρ x)) := by simp only [apure, Try.underlying8]
attribute [go_sem] mi8
theorem ln9 (s : ByteArray) : abuiltin Try.prog .len [9] [.v (.string s)] = some (.v (.int .i64 s.size)) := abuiltin_len_str Try.underlying9
attribute [go_sem] ln9
theorem mi9 (H : Heap) (ρ : Operand → AV) (x : Operand) : apure Try.prog H ρ (.makeInterface 9 x) = some (.ifc 9 (ρ x)) := by simp only [apure, Try.underlying9]
attribute [go_sem] mi9
theorem ln10 (s : ByteArray) : abuiltin Try.prog .len [10] [.v (.string s)] = some (.v (.int .i64 s.size)) := abuiltin_len_str Try.underlying10
attribute [go_sem] ln10
theorem mi10 (H : Heap) (ρ : Operand → AV) (x : Operand) : apure Try.prog H ρ (.makeInterface 10 x) = some (.ifc 10 (ρ x)) := by simp only [apure, Try.underlying10]
attribute [go_sem] mi10
theorem ln11 (s : ByteArray) : abuiltin Try.prog .len [11] [.v (.string s)] = some (.v (.int .i64 s.size)) := abuiltin_len_str Try.underlying11
attribute [go_sem] ln11
theorem mi11 (H : Heap) (ρ : Operand → AV) (x : Operand) : apure Try.prog H ρ (.makeInterface 11 x) = some (.ifc 11 (ρ x)) := by simp only [apure, Try.underlying11]
attribute [go_sem] mi11
theorem mi12 (H : Heap) (ρ : Operand → AV) (x : Operand) : apure Try.prog H ρ (.makeInterface 12 x) = some (.ifc 12 (ρ x)) := by simp only [apure, Try.underlying12]
attribute [go_sem] mi12
theorem mi13 (H : Heap) (ρ : Operand → AV) (x : Operand) : apure Try.prog H ρ (.makeInterface 13 x) = some (.ifc 13 (ρ x)) := by simp only [apure, Try.underlying13]
attribute [go_sem] mi13
theorem mi14 (H : Heap) (ρ : Operand → AV) (x : Operand) : apure Try.prog H ρ (.makeInterface 14 x) = some (.ifc 14 (ρ x)) := by simp only [apure, Try.underlying14]
attribute [go_sem] mi14
theorem mi15 (H : Heap) (ρ : Operand → AV) (x : Operand) : apure Try.prog H ρ (.makeInterface 15 x) = some (.ifc 15 (ρ x)) := by simp only [apure, Try.underlying15]
attribute [go_sem] mi15
theorem mi16 (H : Heap) (ρ : Operand → AV) (x : Operand) : apure Try.prog H ρ (.makeInterface 16 x) = some (.ifc 16 (ρ x)) := by simp only [apure, Try.underlying16]
attribute [go_sem] mi16
theorem mi17 (H : Heap) (ρ : Operand → AV) (x : Operand) : apure Try.prog H ρ (.makeInterface 17 x) = some (.ifc 17 (ρ x)) := by simp only [apure, Try.underlying17]
attribute [go_sem] mi17
theorem mi18 (H : Heap) (ρ : Operand → AV) (x : Operand) : apure Try.prog H ρ (.makeInterface 18 x) = some (.ifc 18 (ρ x)) := by simp only [apure, Try.underlying18]
attribute [go_sem] mi18
theorem mi19 (H : Heap) (ρ : Operand → AV) (x : Operand) : apure Try.prog H ρ (.makeInterface 19 x) = some (.ifc 19 (ρ x)) := by simp only [apure, Try.underlying19]
attribute [go_sem] mi19
theorem mi21 (H : Heap) (ρ : Operand → AV) (x : Operand) : apure Try.prog H ρ (.makeInterface 21 x) = some (.ifc 21 (ρ x)) := by simp only [apure, Try.underlying21]
attribute [go_sem] mi21
theorem mi22 (H : Heap) (ρ : Operand → AV) (x : Operand) : apure Try.prog H ρ (.makeInterface 22 x) = some (.ifc 22 (ρ x)) := by simp only [apure, Try.underlying22]
attribute [go_sem] mi22
theorem mi23 (H : Heap) (ρ : Operand → AV) (x : Operand) : apure Try.prog H ρ (.makeInterface 23 x) = some (.ifc 23 (ρ x)) := by simp only [apure, Try.underlying23]
attribute [go_sem] mi23
theorem ln24 (xs : List AV) (n : Nat) (f : Bool) : abuiltin Try.prog .len [24] [.sl xs n f] = some (.v (.int .i64 n)) := abuiltin_len_sl Try.underlying24
theorem lo24 (j o n : Nat) : abuiltin Try.prog .len [24] [.own j o n] = some (.v (.int .i64 n)) := abuiltin_len_own Try.underlying24
theorem lz24 (n c : Nat) : abuiltin Try.prog .len [24] [.v (.slice none n c)] = some (.v (.int .i64 n)) := abuiltin_len_nil Try.underlying24
attribute [go_sem] ln24 lo24 lz24
theorem mi24 (H : Heap) (ρ : Operand → AV) (x : Operand) : apure Try.prog H ρ (.makeInterface 24 x) = some (.ifc 24 (ρ x)) := by simp only [apure, Try.underlying24]
attribute [go_sem] mi24
theorem ln25 (xs : List AV) (n : Nat) (f : Bool) : abuiltin Try.prog .len [25] [.sl xs n f] = some (.v (.int .i64 n)) := abuiltin_len_sl Try.underlying25
theorem lo25 (j o n : Nat) : abuiltin Try.prog .len [25] [.own j o n] = some (.v (.int .i64 n)) := abuiltin_len_own Try.underlying25
theorem lz25 (n c : Nat) : abuiltin Try.prog .len [25] [.v (.slice none n c)] = some (.v (.int .i64 n)) := abuiltin_len_nil Try.underlying25
attribute [go_sem] ln25 lo25 lz25
theorem mi25 (H : Heap) (ρ : Operand → AV) (x : Operand) : apure Try.prog H ρ (.makeInterface 25 x) = some (.ifc 25 (ρ x)) := by simp only [apure, Try.underlying25]
attribute [go_sem] mi25
theorem mi26 (H : Heap) (ρ : Operand → AV) (x : Operand) : apure Try.prog H ρ (.makeInterface 26 x) = some (.ifc 26 (ρ x)) := by simp only [apure, Try.underlying26]
attribute [go_sem] mi26
theorem mi27 (H : Heap) (ρ : Operand → AV) (x : Operand) : apure Try.prog H ρ (.makeInterface 27 x) = some (.ifc 27 (ρ x)) := by simp only [apure, Try.underlying27]
attribute [go_sem] mi27
theorem mi28 (H : Heap) (ρ : Operand → AV) (x : Operand) : apure Try.prog H ρ (.makeInterface 28 x) = some (.ifc 28 (ρ x)) := by simp only [apure, Try.underlying28]
attribute [go_sem] mi28
theorem mi29 (H : Heap) (ρ : Operand → AV) (x : Operand) : apure Try.prog H ρ (.makeInterface 29 x) = some (.ifc 29 (ρ x)) := by simp only [apure, Try.underlying29]
attribute [go_sem] mi29
theorem ln30 (xs : List AV) (n : Nat) (f : Bool) : abuiltin Try.prog .len [30] [.sl xs n f] = some (.v (.int .i64 n)) := abuiltin_len_sl Try.underlying30
theorem lo30 (j o n : Nat) : abuiltin Try.prog .len [30] [.own j o n] = some (.v (.int .i64 n)) := abuiltin_len_own Try.underlying30
theorem lz30 (n c : Nat) : abuiltin Try.prog .len [30] [.v (.slice none n c)] = some (.v (.int .i64 n)) := abuiltin_len_nil Try.underlying30
attribute [go_sem] ln30 lo30 lz30
theorem mi30 (H : Heap) (ρ : Operand → AV) (x : Operand) : apure Try.prog H ρ (.makeInterface 30 x) = some (.ifc 30 (ρ x)) := by simp only [apure, Try.underlying30]
attribute [go_sem] mi30
theorem mi31 (H : Heap) (ρ : Operand → AV) (x : Operand) : apure Try.prog H ρ (.makeInterface 31 x) = some (.ifc 31 (ρ x)) := by simp only [apure, Try.underlying31]
attribute [go_sem] mi31
theorem mi32 (H : Heap) (ρ : Operand → AV) (x : Operand) : apure Try.prog H ρ (.makeInterface 32 x) = some (.ifc 32 (ρ x)) := by simp only [apure, Try.underlying32]
attribute [go_sem] mi32
theorem mi33 (H : Heap) (ρ : Operand → AV) (x : Operand) : apure Try.prog H ρ (.makeInterface 33 x) = some (.ifc 33 (ρ x)) := by simp only [apure, Try.underlying33]
attribute [go_sem] mi33
theorem mi34 (H : Heap) (ρ : Operand → AV) (x : Operand) : apure Try.prog H ρ (.makeInterface 34 x) = some (.ifc 34 (ρ x)) := by simp only [apure, Try.underlying34]
attribute [go_sem] mi34
theorem mi35 (H : Heap) (ρ : Operand → AV) (x : Operand) : apure Try.prog H ρ (.makeInterface 35 x) = some (.ifc 35 (ρ x)) := by simp only [apure, Try.underlying35]
attribute [go_sem] mi35
theorem mi36 (H : Heap) (ρ : Operand → AV) (x : Operand) : apure Try.prog H ρ (.makeInterface 36 x) = some (.ifc 36 (ρ x)) := by simp only [apure, Try.underlying36]
attribute [go_sem] mi36
theorem mi37 (H : Heap) (ρ : Operand → AV) (x : Operand) : apure Try.prog H ρ (.makeInterface 37 x) = some (.ifc 37 (ρ x)) := by simp only [apure, Try.underlying37]
attribute [go_sem] mi37
theorem mi38 (H : Heap) (ρ : Operand → AV) (x : Operand) : apure Try.prog H ρ (.makeInterface 38 x) = some (.ifc 38 (ρ x)) := by simp only [apure, Try.underlying38]
attribute [go_sem] mi38
theorem mi39 (H : Heap) (ρ : Operand → AV) (x : Operand) : apure Try.prog H ρ (.makeInterface 39 x) = some (.ifc 39 (ρ x)) := by simp only [apure, Try.underlying39]
attribute [go_sem] mi39
theorem mi40 (H : Heap) (ρ : Operand → AV) (x : Operand) : apure Try.prog H ρ (.makeInterface 40 x) = some (.ifc 40 (ρ x)) := by simp only [apure, Try.underlying40]
attribute [go_sem] mi40
theorem ln41 (xs : List AV) (n : Nat) (f : Bool) : abuiltin Try.prog .len [41] [.sl xs n f] = some (.v (.int .i64 n)) := abuiltin_len_sl Try.underlying41
theorem lo41 (j o n : Nat) : abuiltin Try.prog .len [41] [.own j o n] = some (.v (.int .i64 n)) := abuiltin_len_own Try.underlying41
theorem lz41 (n c : Nat) : abuiltin Try.prog .len [41] [.v (.slice none n c)] = some (.v (.int .i64 n)) := abuiltin_len_nil Try.underlying41
attribute [go_sem] ln41 lo41 lz41
theorem mi41 (H : Heap) (ρ : Operand → AV) (x : Operand) : apure Try.prog H ρ (.makeInterface 41 x) = some (.ifc 41 (ρ x)) := by simp only [apure, Try.underlying41]
attribute [go_sem] mi41
theorem mi42 (H : Heap) (ρ : Operand → AV) (x : Operand) : apure Try.prog H ρ (.makeInterface 42 x) = some (.ifc 42 (ρ x)) := by simp only [apure, Try.underlying42]
attribute [go_sem] mi42
theorem mi43 (H : Heap) (ρ : Operand → AV) (x : Operand) : apure Try.prog H ρ (.makeInterface 43 x) = some (.ifc 43 (ρ x)) := by simp only [apure, Try.underlying43]
attribute [go_sem] mi43
theorem mi44 (H : Heap) (ρ : Operand → AV) (x : Operand) : apure Try.prog H ρ (.makeInterface 44 x) = some (.ifc 44 (ρ x)) := by simp only [apure, Try.underlying44]
attribute [go_sem] mi44
theorem mi45 (H : Heap) (ρ : Operand → AV) (x : Operand) : apure Try.prog H ρ (.makeInterface 45 x) = some (.ifc 45 (ρ x)) := by simp only [apure, Try.underlying45]
attribute [go_sem] mi45
theorem mi46 (H : Heap) (ρ : Operand → AV) (x : Operand) : apure Try.prog H ρ (.makeInterface 46 x) = some (.ifc 46 (ρ x)) := by simp only [apure, Try.underlying46]
attribute [go_sem] mi46
theorem mi47 (H : Heap) (ρ : Operand → AV) (x : Operand) : apure Try.prog H ρ (.makeInterface 47 x) = some (.ifc 47 (ρ x)) := by simp only [apure, Try.underlying47]
attribute [go_sem] mi47
theorem mi48 (H : Heap) (ρ : Operand → AV) (x : Operand) : apure Try.prog H ρ (.makeInterface 48 x) = some (.ifc 48 (ρ x)) := by simp only [apure, Try.underlying48]
attribute [go_sem] mi48
theorem mi49 (H : Heap) (ρ : Operand → AV) (x : Operand) : apure Try.prog H ρ (.makeInterface 49 x) = some (.ifc 49 (ρ x)) := by simp only [apure, Try.underlying49]
attribute [go_sem] mi49
theorem mi50 (H : Heap) (ρ : Operand → AV) (x : Operand) : apure Try.prog H ρ (.makeInterface 50 x) = some (.ifc 50 (ρ x)) := by simp only [apure, Try.underlying50]
attribute [go_sem] mi50
theorem mi51 (H : Heap) (ρ : Operand → AV) (x : Operand) : apure Try.prog H ρ (.makeInterface 51 x) = some (.ifc 51 (ρ x)) := by simp only [apure, Try.underlying51]
attribute [go_sem] mi51
theorem mi52 (H : Heap) (ρ : Operand → AV) (x : Operand) : apure Try.prog H ρ (.makeInterface 52 x) = some (.ifc 52 (ρ x)) := by simp only [apure, Try.underlying52]
attribute [go_sem] mi52
theorem mi53 (H : Heap) (ρ : Operand → AV) (x : Operand) : apure Try.prog H ρ (.makeInterface 53 x) = some (.ifc 53 (ρ x)) := by simp only [apure, Try.underlying53]
attribute [go_sem] mi53
theorem mi54 (H : Heap) (ρ : Operand → AV) (x : Operand) : apure Try.prog H ρ (.makeInterface 54 x) = some (.ifc 54 (ρ x)) := by simp only [apure, Try.underlying54]
attribute [go_sem] mi54
theorem mi55 (H : Heap) (ρ : Operand → AV) (x : Operand) : apure Try.prog H ρ (.makeInterface 55 x) = some (.ifc 55 (ρ x)) := by simp only [apure, Try.underlying55]
attribute [go_sem] mi55
theorem mi56 (H : Heap) (ρ : Operand → AV) (x : Operand) : apure Try.prog H ρ (.makeInterface 56 x) = some (.ifc 56 (ρ x)) := by simp only [apure, Try.underlying56]
attribute [go_sem] mi56
theorem mi57 (H : Heap) (ρ : Operand → AV) (x : Operand) : apure Try.prog H ρ (.makeInterface 57 x) = some (.ifc 57 (ρ x)) := by simp only [apure, Try.underlying57]
attribute [go_sem] mi57
theorem ln58 (xs : List AV) (n : Nat) (f : Bool) : abuiltin Try.prog .len [58] [.sl xs n f] = some (.v (.int .i64 n)) := abuiltin_len_sl Try.underlying58
theorem lo58 (j o n : Nat) : abuiltin Try.prog .len [58] [.own j o n] = some (.v (.int .i64 n)) := abuiltin_len_own Try.underlying58
theorem lz58 (n c : Nat) : abuiltin Try.prog .len [58] [.v (.slice none n c)] = some (.v (.int .i64 n)) := abuiltin_len_nil Try.underlying58
attribute [go_sem] ln58 lo58 lz58
theorem mi58 (H : Heap) (ρ : Operand → AV) (x : Operand) : apure Try.prog H ρ (.makeInterface 58 x) = some (.ifc 58 (ρ x)) := by simp only [apure, Try.underlying58]
attribute [go_sem] mi58
theorem mi59 (H : Heap) (ρ : Operand → AV) (x : Operand) : apure Try.prog H ρ (.makeInterface 59 x) = some (.ifc 59 (ρ x)) := by simp only [apure, Try.underlying59]
attribute [go_sem] mi59
theorem ln60 (xs : List AV) (n : Nat) (f : Bool) : abuiltin Try.prog .len [60] [.sl xs n f] = some (.v (.int .i64 n)) := abuiltin_len_sl Try.underlying60
theorem lo60 (j o n : Nat) : abuiltin Try.prog .len [60] [.own j o n] = some (.v (.int .i64 n)) := abuiltin_len_own Try.underlying60
theorem lz60 (n c : Nat) : abuiltin Try.prog .len [60] [.v (.slice none n c)] = some (.v (.int .i64 n)) := abuiltin_len_nil Try.underlying60
attribute [go_sem] ln60 lo60 lz60
theorem mi60 (H : Heap) (ρ : Operand → AV) (x : Operand) : apure Try.prog H ρ (.makeInterface 60 x) = some (.ifc 60 (ρ x)) := by simp only [apure, Try.underlying60]
attribute [go_sem] mi60
theorem mi61 (H : Heap) (ρ : Operand → AV) (x : Operand) : apure Try.prog H ρ (.makeInterface 61 x) = some (.ifc 61 (ρ x)) := by simp only [apure, Try.underlying61]
attribute [go_sem] mi61
theorem mi62 (H : Heap) (ρ : Operand → AV) (x : Operand) : apure Try.prog H ρ (.makeInterface 62 x) = some (.ifc 62 (ρ x)) := by simp only [apure, Try.underlying62]
attribute [go_sem] mi62
theorem mi63 (H : Heap) (ρ : Operand → AV) (x : Operand) : apure Try.prog H ρ (.makeInterface 63 x) = some (.ifc 63 (ρ x)) := by simp only [apure, Try.underlying63]
attribute [go_sem] mi63
theorem mi64 (H : Heap) (ρ : Operand → AV) (x : Operand) : apure Try.prog H ρ (.makeInterface 64 x) = some (.ifc 64 (ρ x)) := by simp only [apure, Try.underlying64]
attribute [go_sem] mi64
theorem mi65 (H : Heap) (ρ : Operand → AV) (x : Operand) : apure Try.prog H ρ (.makeInterface 65 x) = some (.ifc 65 (ρ x)) := by simp only [apure, Try.underlying65]
attribute [go_sem] mi65
theorem mi66 (H : Heap) (ρ : Operand → AV) (x : Operand) : apure Try.prog H ρ (.makeInterface 66 x) = some (.ifc 66 (ρ x)) := by simp only [apure, Try.underlying66]
attribute [go_sem] mi66
theorem mi67 (H : Heap) (ρ : Operand → AV) (x : Operand) : apure Try.prog H ρ (.makeInterface 67 x) = some (.ifc 67 (ρ x)) := by simp only [apure, Try.underlying67]
attribute [go_sem] mi67
theorem mi68 (H : Heap) (ρ : Operand → AV) (x : Operand) : apure Try.prog H ρ (.makeInterface 68 x) = some (.ifc 68 (ρ x)) := by simp only [apure, Try.underlying68]
attribute [go_sem] mi68
theorem ln69 (xs : List AV) (n : Nat) (f : Bool) : abuiltin Try.prog .len [69] [.sl xs n f] = some (.v (.int .i64 n)) := abuiltin_len_sl Try.underlying69
theorem lo69 (j o n : Nat) : abuiltin Try.prog .len [69] [.own j o n] = some (.v (.int .i64 n)) := abuiltin_len_own Try.underlying69
theorem lz69 (n c : Nat) : abuiltin Try.prog .len [69] [.v (.slice none n c)] = some (.v (.int .i64 n)) := abuiltin_len_nil Try.underlying69
attribute [go_sem] ln69 lo69 lz69
theorem mi69 (H : Heap) (ρ : Operand → AV) (x : Operand) : apure Try.prog H ρ (.makeInterface 69 x) = some (.ifc 69 (ρ x)) := by simp only [apure, Try.underlying69]
attribute [go_sem] mi69
theorem mi70 (H : Heap) (ρ : Operand → AV) (x : Operand) : apure Try.prog H ρ (.makeInterface 70 x) = some (.ifc 70 (ρ x)) := by simp only [apure, Try.underlying70]
attribute [go_sem] mi70
theorem mi71 (H : Heap) (ρ : Operand → AV) (x : Operand) : apure Try.prog H ρ (.makeInterface 71 x) = some (.ifc 71 (ρ x)) := by simp only [apure, Try.underlying71]
attribute [go_sem] mi71
theorem mi72 (H : Heap) (ρ : Operand → AV) (x : Operand) : apure Try.prog H ρ (.makeInterface 72 x) = some (.ifc 72 (ρ x)) := by simp only [apure, Try.underlying72]
attribute [go_sem] mi72
theorem mi73 (H : Heap) (ρ : Operand → AV) (x : Operand) : apure Try.prog H ρ (.makeInterface 73 x) = some (.ifc 73 (ρ x)) := by simp only [apure, Try.underlying73]
attribute [go_sem] mi73
theorem mi74 (H : Heap) (ρ : Operand → AV) (x : Operand) : apure Try.prog H ρ (.makeInterface 74 x) = some (.ifc 74 (ρ x)) := by simp only [apure, Try.underlying74]
attribute [go_sem] mi74
theorem mi75 (H : Heap) (ρ : Operand → AV) (x : Operand) : apure Try.prog H ρ (.makeInterface 75 x) = some (.ifc 75 (ρ x)) := by simp only [apure, Try.underlying75]
attribute [go_sem] mi75
theorem ln76 (xs : List AV) (n : Nat) (f : Bool) : abuiltin Try.prog .len [76] [.sl xs n f] = some (.v (.int .i64 n)) := abuiltin_len_sl Try.underlying76
theorem lo76 (j o n : Nat) : abuiltin Try.prog .len [76] [.own j o n] = some (.v (.int .i64 n)) := abuiltin_len_own Try.underlying76
theorem lz76 (n c : Nat) : abuiltin Try.prog .len [76] [.v (.slice none n c)] = some (.v (.int .i64 n)) := abuiltin_len_nil Try.underlying76
attribute [go_sem] ln76 lo76 lz76
theorem mi76 (H : Heap) (ρ : Operand → AV) (x : Operand) : apure Try.prog H ρ (.makeInterface 76 x) = some (.ifc 76 (ρ x)) := by simp only [apure, Try.underlying76]
attribute [go_sem] mi76
theorem mi77 (H : Heap) (ρ : Operand → AV) (x : Operand) : apure Try.prog H ρ (.makeInterface 77 x) = some (.ifc 77 (ρ x)) := by simp only [apure, Try.underlying77]
attribute [go_sem] mi77
theorem mi78 (H : Heap) (ρ : Operand → AV) (x : Operand) : apure Try.prog H ρ (.makeInterface 78 x) = some (.ifc 78 (ρ x)) := by simp only [apure, Try.underlying78]
attribute [go_sem] mi78
theorem mi79 (H : Heap) (ρ : Operand → AV) (x : Operand) : apure Try.prog H ρ (.makeInterface 79 x) = some (.ifc 79 (ρ x)) := by simp only [apure, Try.underlying79]
attribute [go_sem] mi79
theorem mi80 (H : Heap) (ρ : Operand → AV) (x : Operand) : apure Try.prog H ρ (.makeInterface 80 x) = some (.ifc 80 (ρ x)) := by simp only [apure, Try.underlying80]
attribute [go_sem] mi80
theorem mi81 (H : Heap) (ρ : Operand → AV) (x : Operand) : apure Try.prog H ρ (.makeInterface 81 x) = some (.ifc 81 (ρ x)) := by simp only [apure, Try.underlying81]
attribute [go_sem] mi81
theorem mi82 (H : Heap) (ρ : Operand → AV) (x : Operand) : apure Try.prog H ρ (.makeInterface 82 x) = some (.ifc 82 (ρ x)) := by simp only [apure, Try.underlying82]
attribute [go_sem] mi82
theorem mi83 (H : Heap) (ρ : Operand → AV) (x : Operand) : apure Try.prog H ρ (.makeInterface 83 x) = some (.ifc 83 (ρ x)) := by simp only [apure, Try.underlying83]
attribute [go_sem] mi83
theorem mi84 (H : Heap) (ρ : Operand → AV) (x : Operand) : apure Try.prog H ρ (.makeInterface 84 x) = some (.ifc 84 (ρ x)) := by simp only [apure, Try.underlying84]
attribute [go_sem] mi84
theorem mi85 (H : Heap) (ρ : Operand → AV) (x : Operand) : apure Try.prog H ρ (.makeInterface 85 x) = some (.ifc 85 (ρ x)) := by simp only [apure, Try.underlying85]
attribute [go_sem] mi85
theorem mi86 (H : Heap) (ρ : Operand → AV) (x : Operand) : apure Try.prog H ρ (.makeInterface 86 x) = some (.ifc 86 (ρ x)) := by simp only [apure, Try.underlying86]
attribute [go_sem] mi86
theorem mi87 (H : Heap) (ρ : Operand → AV) (x : Operand) : apure Try.prog H ρ (.makeInterface 87 x) = some (.ifc 87 (ρ x)) := by simp only [apure, Try.underlying87]
attribute [go_sem] mi87
theorem mi88 (H : Heap) (ρ : Operand → AV) (x : Operand) : apure Try.prog H ρ (.makeInterface 88 x) = some (.ifc 88 (ρ x)) := by simp only [apure, Try.underlying88]
attribute [go_sem] mi88
theorem mi89 (H : Heap) (ρ : Operand → AV) (x : Operand) : apure Try.prog H ρ (.makeInterface 89 x) = some (.ifc 89 (ρ x)) := by simp only [apure, Try.underlying89]
attribute [go_sem] mi89
theorem mi90 (H : Heap) (ρ : Operand → AV) (x : Operand) : apure Try.prog H ρ (.makeInterface 90 x) = some (.ifc 90 (ρ x)) := by simp only [apure, Try.underlying90]
attribute [go_sem] mi90
theorem mi91 (H : Heap) (ρ : Operand → AV) (x : Operand) : apure Try.prog H ρ (.makeInterface 91 x) = some (.ifc 91 (ρ x)) := by simp only [apure, Try.underlying91]
attribute [go_sem] mi91
theorem mi92 (H : Heap) (ρ : Operand → AV) (x : Operand) : apure Try.prog H ρ (.makeInterface 92 x) = some (.ifc 92 (ρ x)) := by simp only [apure, Try.underlying92]
attribute [go_sem] mi92
theorem mi93 (H : Heap) (ρ : Operand → AV) (x : Operand) : apure Try.prog H ρ (.makeInterface 93 x) = some (.ifc 93 (ρ x)) := by simp only [apure, Try.underlying93]
attribute [go_sem] mi93
theorem mi94 (H : Heap) (ρ : Operand → AV) (x : Operand) : apure Try.prog H ρ (.makeInterface 94 x) = some (.ifc 94 (ρ x)) := by simp only [apure, Try.underlying94]
attribute [go_sem] mi94
theorem mi95 (H : Heap) (ρ : Operand → AV) (x : Operand) : apure Try.prog H ρ (.makeInterface 95 x) = some (.ifc 95 (ρ x)) := by simp only [apure, Try.underlying95]
attribute [go_sem] mi95
theorem mi96 (H : Heap) (ρ : Operand → AV) (x : Operand) : apure Try.prog H ρ (.makeInterface 96 x) = some (.ifc 96 (ρ x)) := by simp only [apure, Try.underlying96]
attribute [go_sem] mi96
theorem mi97 (H : Heap) (ρ : Operand → AV) (x : Operand) : apure Try.prog H ρ (.makeInterface 97 x) = some (.ifc 97 (ρ x)) := by simp only [apure, Try.underlying97]
attribute [go_sem] mi97
theorem mi98 (H : Heap) (ρ : Operand → AV) (x : Operand) : apure Try.prog H ρ (.makeInterface 98 x) = some (.ifc 98 (ρ x)) := by simp only [apure, Try.underlying98]
attribute [go_sem] mi98
theorem mi99 (H : Heap) (ρ : Operand → AV) (x : Operand) : apure Try.prog H ρ (.makeInterface 99 x) = some (.ifc 99 (ρ x)) := by simp only [apure, Try.underlying99]
attribute [go_sem] mi99
theorem mi100 (H : Heap) (ρ : Operand → AV) (x : Operand) : apure Try.prog H ρ (.makeInterface 100 x) = some (.ifc 100 (ρ x)) := by simp only [apure, Try.underlying100]
attribute [go_sem] mi100
theorem mi101 (H : Heap) (ρ : Operand → AV) (x : Operand) : apure Try.prog H ρ (.makeInterface 101 x) = some (.ifc 101 (ρ x)) := by simp only [apure, Try.underlying101]
attribute [go_sem] mi101
theorem mi102 (H : Heap) (ρ : Operand → AV) (x : Operand) : apure Try.prog H ρ (.makeInterface 102 x) = some (.ifc 102 (ρ x)) := by simp only [apure, Try.underlying102]
attribute [go_sem] mi102
theorem mi103 (H : Heap) (ρ : Operand → AV) (x : Operand) : apure Try.prog H ρ (.makeInterface 103 x) = some (.ifc 103 (ρ x)) := by simp only [apure, Try.underlying103]
attribute [go_sem] mi103
theorem mi104 (H : Heap) (ρ : Operand → AV) (x : Operand) : apure Try.prog H ρ (.makeInterface 104 x) = some (.ifc 104 (ρ x)) := by simp only [apure, Try.underlying104]
attribute [go_sem] mi104
theorem mi105 (H : Heap) (ρ : Operand → AV) (x : Operand) : apure Try.prog H ρ (.makeInterface 105 x) = some (.ifc 105 (ρ x)) := by simp only [apure, Try.underlying105]
attribute [go_sem] mi105
theorem mi106 (H : Heap) (ρ : Operand → AV) (x : Operand) : apure Try.prog H ρ (.makeInterface 106 x) = some (.ifc 106 (ρ x)) := by simp only [apure, Try.underlying106]
attribute [go_sem] mi106
theorem mi107 (H : Heap) (ρ : Operand → AV) (x : Operand) : apure Try.prog H ρ (.makeInterface 107 x) = some (.ifc 107 (ρ x)) := by simp only [apure, Try.underlying107]
attribute [go_sem] mi107
theorem mi108 (H : Heap) (ρ : Operand → AV) (x : Operand) : apure Try.prog H ρ (.makeInterface 108 x) = some (.ifc 108 (ρ x)) := by simp only [apure, Try.underlying108]
attribute [go_sem] mi108
theorem mi109 (H : Heap) (ρ : Operand → AV) (x : Operand) : apure Try.prog H ρ (.makeInterface 109 x) = some (.ifc 109 (ρ x)) := by simp only [apure, Try.underlying109]
attribute [go_sem] mi109
theorem mi110 (H : Heap) (ρ : Operand → AV) (x : Operand) : apure Try.prog H ρ (.makeInterface 110 x) = some (.ifc 110 (ρ x)) := by simp only [apure, Try.underlying110]
attribute [go_sem] mi110
theorem mi111 (H : Heap) (ρ : Operand → AV) (x : Operand) : apure Try.prog H ρ (.makeInterface 111 x) = some (.ifc 111 (ρ x)) := by simp only [apure, Try.underlying111]
attribute [go_sem] mi111
theorem mi112 (H : Heap) (ρ : Operand → AV) (x : Operand) : apure Try.prog H ρ (.makeInterface 112 x) = some (.ifc 112 (ρ x)) := by simp only [apure, Try.underlying112]
attribute [go_sem] mi112
theorem mi113 (H : Heap) (ρ : Operand → AV) (x : Operand) : apure Try.prog H ρ (.makeInterface 113 x) = some (.ifc 113 (ρ x)) := by simp only [apure, Try.underlying113]
attribute [go_sem] mi113
theorem mi114 (H : Heap) (ρ : Operand → AV) (x : Operand) : apure Try.prog H ρ (.makeInterface 114 x) = some (.ifc 114 (ρ x)) := by simp only [apure, Try.underlying114]
attribute [go_sem] mi114
theorem mi115 (H : Heap) (ρ : Operand → AV) (x : Operand) : apure Try.prog H ρ (.makeInterface 115 x) = some (.ifc 115 (ρ x)) := by simp only [apure, Try.underlying115]
attribute [go_sem] mi115
theorem mi116 (H : Heap) (ρ : Operand → AV) (x : Operand) : apure Try.prog H ρ (.makeInterface 116 x) = some (.ifc 116 (ρ x)) := by simp only [apure, Try.underlying116]
attribute [go_sem] mi116
theorem mi117 (H : Heap) (ρ : Operand → AV) (x : Operand) : apure Try.prog H ρ (.makeInterface 117 x) = some (.ifc 117 (ρ x)) := by simp only [apure, Try.underlying117]
attribute [go_sem] mi117
theorem mi118 (H : Heap) (ρ : Operand → AV) (x : Operand) : apure Try.prog H ρ (.makeInterface 118 x) = some (.ifc 118 (ρ x)) := by simp only [apure, Try.underlying118]
attribute [go_sem] mi118
theorem mi119 (H : Heap) (ρ : Operand → AV) (x : Operand) : apure Try.prog H ρ (.makeInterface 119 x) = some (.ifc 119 (ρ x)) := by simp only [apure, Try.underlying119]
attribute [go_sem] mi119
theorem mi120 (H : Heap) (ρ : Operand → AV) (x : Operand) : apure Try.prog H ρ (.makeInterface 120 x) = some (.ifc 120 (ρ x)) := by simp only [apure, Try.underlying120]
attribute [go_sem] mi120
theorem mi121 (H : Heap) (ρ : Operand → AV) (x : Operand) : apure Try.prog H ρ (.makeInterface 121 x) = some (.ifc 121 (ρ x)) := by simp only [apure, Try.underlying121]
attribute [go_sem] mi121
theorem mi122 (H : Heap) (ρ : Operand → AV) (x : Operand) : apure Try.prog H ρ (.makeInterface 122 x) = some (.ifc 122 (ρ x)) := by simp only [apure, Try.underlying122]
attribute [go_sem] mi122
theorem mi123 (H : Heap) (ρ : Operand → AV) (x : Operand) : apure Try.prog H ρ (.makeInterface 123 x) = some (.ifc 123 (ρ x)) := by simp only [apure, Try.underlying123]
attribute [go_sem] mi123
theorem mi124 (H : Heap) (ρ : Operand → AV) (x : Operand) : apure Try.prog H ρ (.makeInterface 124 x) = some (.ifc 124 (ρ x)) := by simp only [apure, Try.underlying124]
attribute [go_sem] mi124
theorem mi125 (H : Heap) (ρ : Operand → AV) (x : Operand) : apure Try.prog H ρ (.makeInterface 125 x) = some (.ifc 125 (ρ x)) := by simp only [apure, Try.underlying125]
attribute [go_sem] mi125
theorem mi126 (H : Heap) (ρ : Operand → AV) (x : Operand) : apure Try.prog H ρ (.makeInterface 126 x) = some (.ifc 126 (ρ x)) := by simp only [apure, Try.underlying126]
attribute [go_sem] mi126
theorem mi127 (H : Heap) (ρ : Operand → AV) (x : Operand) : apure Try.prog H ρ (.makeInterface 127 x) = some (.ifc 127 (ρ x)) := by simp only [apure, Try.underlying127]
attribute [go_sem] mi127
theorem mi128 (H : Heap) (ρ : Operand → AV) (x : Operand) : apure Try.prog H ρ (.makeInterface 128 x) = some (.ifc 128 (ρ x)) := by simp only [apure, Try.underlying128]
attribute [go_sem] mi128
theorem mi129 (H : Heap) (ρ : Operand → AV) (x : Operand) : apure Try.prog H ρ (.makeInterface 129 x) = some (.ifc 129 (ρ x)) := by simp only [apure, Try.underlying129]
attribute [go_sem] mi129
theorem mi130 (H : Heap) (ρ : Operand → AV) (x : Operand) : apure Try.prog H ρ (.makeInterface 130 x) = some (.ifc 130 (ρ x)) := by simp only [apure, Try.underlying130]
attribute [go_sem] mi130
theorem mi131 (H : Heap) (ρ : Operand → AV) (x : Operand) : apure Try.prog H ρ (.makeInterface 131 x) = some (.ifc 131 (ρ x)) := by simp only [apure, Try.underlying131]
attribute [go_sem] mi131
theorem ln132 (xs : List AV) (n : Nat) (f : Bool) : abuiltin Try.prog .len [132] [.sl xs n f] = some (.v (.int .i64 n)) := abuiltin_len_sl Try.underlying132
theorem lo132 (j o n : Nat) : abuiltin Try.prog .len [132] [.own j o n] = some (.v (.int .i64 n)) := abuiltin_len_own Try.underlying132
theorem lz132 (n c : Nat) : abuiltin Try.prog .len [132] [.v (.slice none n c)] = some (.v (.int .i64 n)) := abuiltin_len_nil Try.underlying132
attribute [go_sem] ln132 lo132 lz132
theorem mi132 (H : Heap) (ρ : Operand → AV) (x : Operand) : apure Try.prog H ρ (.makeInterface 132 x) = some (.ifc 132 (ρ x)) := by simp only [apure, Try.underlying132]
attribute [go_sem] mi132
theorem mi133 (H : Heap) (ρ : Operand → AV) (x : Operand) : apure Try.prog H ρ (.makeInterface 133 x) = some (.ifc 133 (ρ x)) := by simp only [apure, Try.underlying133]
attribute [go_sem] mi133
theorem mi134 (H : Heap) (ρ : Operand → AV) (x : Operand) : apure Try.prog H ρ (.makeInterface 134 x) = some (.ifc 134 (ρ x)) := by simp only [apure, Try.underlying134]
attribute [go_sem] mi134
theorem mi135 (H : Heap) (ρ : Operand → AV) (x : Operand) : apure Try.prog H ρ (.makeInterface 135 x) = some (.ifc 135 (ρ x)) := by simp only [apure, Try.underlying135]
attribute [go_sem] mi135
theorem mi136 (H : Heap) (ρ : Operand → AV) (x : Operand) : apure Try.prog H ρ (.makeInterface 136 x) = some (.ifc 136 (ρ x)) := by simp only [apure, Try.underlying136]
attribute [go_sem] mi136
theorem ln137 (xs : List AV) (n : Nat) (f : Bool) : abuiltin Try.prog .len [137] [.sl xs n f] = some (.v (.int .i64 n)) := abuiltin_len_sl Try.underlying137
theorem lo137 (j o n : Nat) : abuiltin Try.prog .len [137] [.own j o n] = some (.v (.int .i64 n)) := abuiltin_len_own Try.underlying137
theorem lz137 (n c : Nat) : abuiltin Try.prog .len [137] [.v (.slice none n c)] = some (.v (.int .i64 n)) := abuiltin_len_nil Try.underlying137
attribute [go_sem] ln137 lo137 lz137
theorem mi137 (H : Heap) (ρ : Operand → AV) (x : Operand) : apure Try.prog H ρ (.makeInterface 137 x) = some (.ifc 137 (ρ x)) := by simp only [apure, Try.underlying137]
attribute [go_sem] mi137
theorem mi138 (H : Heap) (ρ : Operand → AV) (x : Operand) : apure Try.prog H ρ (.makeInterface 138 x) = some (.ifc 138 (ρ x)) := by simp only [apure, Try.underlying138]
attribute [go_sem] mi138
theorem mi139 (H : Heap) (ρ : Operand → AV) (x : Operand) : apure Try.prog H ρ (.makeInterface 139 x) = some (.ifc 139 (ρ x)) := by simp only [apure, Try.underlying139]
attribute [go_sem] mi139
theorem mi140 (H : Heap) (ρ : Operand → AV) (x : Operand) : apure Try.prog H ρ (.makeInterface 140 x) = some (.ifc 140 (ρ x)) := by simp only [apure, Try.underlying140]
attribute [go_sem] mi140
theorem mi141 (H : Heap) (ρ : Operand → AV) (x : Operand) : apure Try.prog H ρ (.makeInterface 141 x) = some (.ifc 141 (ρ x)) := by simp only [apure, Try.underlying141]
attribute [go_sem] mi141
theorem mi142 (H : Heap) (ρ : Operand → AV) (x : Operand) : apure Try.prog H ρ (.makeInterface 142 x) = some (.ifc 142 (ρ x)) := by simp only [apure, Try.underlying142]
attribute [go_sem] mi142
theorem ln143 (xs : List AV) (n : Nat) (f : Bool) : abuiltin Try.prog .len [143] [.sl xs n f] = some (.v (.int .i64 n)) := abuiltin_len_sl Try.underlying143
theorem lo143 (j o n : Nat) : abuiltin Try.prog .len [143] [.own j o n] = some (.v (.int .i64 n)) := abuiltin_len_own Try.underlying143
theorem lz143 (n c : Nat) : abuiltin Try.prog .len [143] [.v (.slice none n c)] = some (.v (.int .i64 n)) := abuiltin_len_nil Try.underlying143
attribute [go_sem] ln143 lo143 lz143
theorem mi143 (H : Heap) (ρ : Operand → AV) (x : Operand) : apure Try.prog H ρ (.makeInterface 143 x) = some (.ifc 143 (ρ x)) := by simp only [apure, Try.underlying143]
attribute [go_sem] mi143
theorem mi144 (H : Heap) (ρ : Operand → AV) (x : Operand) : apure Try.prog H ρ (.makeInterface 144 x) = some (.ifc 144 (ρ x)) := by simp only [apure, Try.underlying144]
attribute [go_sem] mi144
theorem mi145 (H : Heap) (ρ : Operand → AV) (x : Operand) : apure Try.prog H ρ (.makeInterface 145 x) = some (.ifc 145 (ρ x)) := by simp only [apure, Try.underlying145]
attribute [go_sem] mi145
theorem mi146 (H : Heap) (ρ : Operand → AV) (x : Operand) : apure Try.prog H ρ (.makeInterface 146 x) = some (.ifc 146 (ρ x)) := by simp only [apure, Try.underlying146]
attribute [go_sem] mi146
theorem mi147 (H : Heap) (ρ : Operand → AV) (x : Operand) : apure Try.prog H ρ (.makeInterface 147 x) = some (.ifc 147 (ρ x)) := by simp only [apure, Try.underlying147]
attribute [go_sem] mi147
theorem mi148 (H : Heap) (ρ : Operand → AV) (x : Operand) : apure Try.prog H ρ (.makeInterface 148 x) = some (.ifc 148 (ρ x)) := by simp only [apure, Try.underlying148]
attribute [go_sem] mi148
theorem mi151 (H : Heap) (ρ : Operand → AV) (x : Operand) : apure Try.prog H ρ (.makeInterface 151 x) = some (.ifc 151 (ρ x)) := by simp only [apure, Try.underlying151]
attribute [go_sem] mi151
theorem mi152 (H : Heap) (ρ : Operand → AV) (x : Operand) : apure Try.prog H ρ (.makeInterface 152 x) = some (.ifc 152 (ρ x)) := by simp only [apure, Try.underlying152]
attribute [go_sem] mi152
theorem mi153 (H : Heap) (ρ : Operand → AV) (x : Operand) : apure Try.prog H ρ (.makeInterface 153 x) = some (.ifc 153 (ρ x)) := by simp only [apure, Try.underlying153]
attribute [go_sem] mi153
theorem mi154 (H : Heap) (ρ : Operand → AV) (x : Operand) : apure Try.prog H ρ (.makeInterface 154 x) = some (.ifc 154 (ρ x)) := by simp only [apure, Try.underlying154]
attribute [go_sem] mi154
theorem mi155 (H : Heap) (ρ : Operand → AV) (x : Operand) : apure Try.prog H ρ (.makeInterface 155 x) = some (.ifc 155 (ρ x)) := by simp only [apure, Try.underlying155]
attribute [go_sem] mi155
theorem mi156 (H : Heap) (ρ : Operand → AV) (x : Operand) : apure Try.prog H ρ (.makeInterface 156 x) = some (.ifc 156 (ρ x)) := by simp only [apure, Try.underlying156]
attribute [go_sem] mi156
theorem mi157 (H : Heap) (ρ : Operand → AV) (x : Operand) : apure Try.prog H ρ (.makeInterface 157 x) = some (.ifc 157 (ρ x)) := by simp only [apure, Try.underlying157]
attribute [go_sem] mi157
theorem mi158 (H : Heap) (ρ : Operand → AV) (x : Operand) : apure Try.prog H ρ (.makeInterface 158 x) = some (.ifc 158 (ρ x)) := by simp only [apure, Try.underlying158]
attribute [go_sem] mi158
theorem mi159 (H : Heap) (ρ : Operand → AV) (x : Operand) : apure Try.prog H ρ (.makeInterface 159 x) = some (.ifc 159 (ρ x)) := by simp only [apure, Try.underlying159]
attribute [go_sem] mi159
theorem mi160 (H : Heap) (ρ : Operand → AV) (x : Operand) : apure Try.prog H ρ (.makeInterface 160 x) = some (.ifc 160 (ρ x)) := by simp only [apure, Try.underlying160]
attribute [go_sem] mi160
theorem mi161 (H : Heap) (ρ : Operand → AV) (x : Operand) : apure Try.prog H ρ (.makeInterface 161 x) = some (.ifc 161 (ρ x)) := by simp only [apure, Try.underlying161]
attribute [go_sem] mi161
theorem mi162 (H : Heap) (ρ : Operand → AV) (x : Operand) : apure Try.prog H ρ (.makeInterface 162 x) = some (.ifc 162 (ρ x)) := by simp only [apure, Try.underlying162]
attribute [go_sem] mi162
theorem mi163 (H : Heap) (ρ : Operand → AV) (x : Operand) : apure Try.prog H ρ (.makeInterface 163 x) = some (.ifc 163 (ρ x)) := by simp only [apure, Try.underlying163]
attribute [go_sem] mi163
theorem mi164 (H : Heap) (ρ : Operand → AV) (x : Operand) : apure Try.prog H ρ (.makeInterface 164 x) = some (.ifc 164 (ρ x)) := by simp only [apure, Try.underlying164]
attribute [go_sem] mi164
theorem mi165 (H : Heap) (ρ : Operand → AV) (x : Operand) : apure Try.prog H ρ (.makeInterface 165 x) = some (.ifc 165 (ρ x)) := by simp only [apure, Try.underlying165]
attribute [go_sem] mi165
theorem mi166 (H : Heap) (ρ : Operand → AV) (x : Operand) : apure Try.prog H ρ (.makeInterface 166 x) = some (.ifc 166 (ρ x)) := by simp only [apure, Try.underlying166]
attribute [go_sem] mi166
attribute [go_sem] Try.underlying0 sz0 Try.underlying1 sz1 Try.underlying2 sz2 Try.underlying3 sz3 Try.underlying4 sz4 Try.underlying5 sz5 Try.underlying6 sz6 Try.underlying7 sz7 Try.underlying8 sz8 Try.underlying9 sz9 Try.underlying10 sz10 Try.underlying11 sz11 Try.underlying12 sz12 Try.underlying13 sz13 Try.underlying14 sz14 Try.underlying15 sz15 Try.underlying16 sz16 Try.underlying17 sz17 Try.underlying18 sz18 Try.underlying19 sz19 Try.underlying20 sz20 Try.underlying21 sz21 Try.underlying22 sz22 Try.underlying23 sz23 Try.underlying24 sz24 Try.underlying25 sz25 Try.underlying26 sz26 Try.underlying27 sz27 Try.underlying28 sz28 Try.underlying29 sz29 Try.underlying30 sz30 Try.underlying31 sz31 Try.underlying32 sz32 Try.underlying33 sz33 Try.underlying34 sz34 Try.underlying35 sz35 Try.underlying36 sz36 Try.underlying37 sz37 Try.underlying38 sz38 Try.underlying39 sz39 Try.underlying40 sz40 Try.underlying41 sz41 Try.underlying42 sz42 Try.underlying43 sz43 Try.underlying44 sz44 Try.underlying45 sz45 Try.underlying46 sz46 Try.underlying47 sz47 Try.underlying48 sz48 Try.underlying49 sz49 Try.underlying50 sz50 Try.underlying51 sz51 Try.underlying52 sz52 Try.underlying53 sz53 Try.underlying54 sz54 Try.underlying55 sz55 Try.underlying56 sz56 Try.underlying57 sz57 Try.underlying58 sz58 Try.underlying59 sz59 Try.underlying60 sz60 Try.underlying61 sz61 Try.underlying62 sz62 Try.underlying63 sz63 Try.underlying64 sz64 Try.underlying65 sz65 Try.underlying66 sz66 Try.underlying67 sz67 Try.underlying68 sz68 Try.underlying69 sz69 Try.underlying70 sz70 Try.underlying71 sz71 Try.underlying72 sz72 Try.underlying73 sz73 Try.underlying74 sz74 Try.underlying75 sz75 Try.underlying76 sz76 Try.underlying77 sz77 Try.underlying78 sz78 Try.underlying79 sz79 Try.underlying80 sz80 Try.underlying81 sz81 Try.underlying82 sz82 Try.underlying83 sz83 Try.underlying84 sz84 Try.underlying85 sz85 Try.underlying86 sz86 Try.underlying87 sz87 Try.underlying88 sz88 Try.underlying89 sz89 Try.underlying90 sz90 Try.underlying91 sz91 Try.underlying92 sz92 Try.underlying93 sz93 Try.underlying94 sz94 Try.underlying95 sz95 Try.underlying96 sz96 Try.underlying97 sz97 Try.underlying98 sz98 Try.underlying99 sz99 Try.underlying100 sz100 Try.underlying101 sz101 Try.underlying102 sz102 Try.underlying103 sz103 Try.underlying104 sz104 Try.underlying105 sz105 Try.underlying106 sz106 Try.underlying107 sz107 Try.underlying108 sz108 Try.underlying109 sz109 Try.underlying110 sz110 Try.underlying111 sz111 Try.underlying112 sz112 Try.underlying113 sz113 Try.underlying114 sz114 Try.underlying115 sz115 Try.underlying116 sz116 Try.underlying117 sz117 Try.underlying118 sz118 Try.underlying119 sz119 Try.underlying120 sz120 Try.underlying121 sz121 Try.underlying122 sz122 Try.underlying123 sz123 Try.underlying124 sz124 Try.underlying125 sz125 Try.underlying126 sz126 Try.underlying127 sz127 Try.underlying128 sz128 Try.underlying129 sz129 Try.underlying130 sz130 Try.underlying131 sz131 Try.underlying132 sz132 Try.underlying133 sz133 Try.underlying134 sz134 Try.underlying135 sz135 Try.underlying136 sz136 Try.underlying137 sz137 Try.underlying138 sz138 Try.underlying139 sz139 Try.underlying140 sz140 Try.underlying141 sz141 Try.underlying142 sz142 Try.underlying143 sz143 Try.underlying144 sz144 Try.underlying145 sz145 Try.underlying146 sz146 Try.underlying147 sz147 Try.underlying148 sz148 Try.underlying149 sz149 Try.underlying150 sz150 Try.underlying151 sz151 Try.underlying152 sz152 Try.underlying153 sz153 Try.underlying154 sz154 Try.underlying155 sz155 Try.underlying156 sz156 Try.underlying157 sz157 Try.underlying158 sz158 Try.underlying159 sz159 Try.underlying160 sz160 Try.underlying161 sz161 Try.underlying162 sz162 Try.underlying163 sz163 Try.underlying164 sz164 Try.underlying165 sz165 Try.underlying166 sz166
end Go.Proofs.Ytibnmlbjahcjmaa
