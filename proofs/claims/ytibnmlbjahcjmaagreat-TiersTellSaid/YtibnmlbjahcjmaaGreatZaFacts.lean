/- Facts that the statement's proof is made of. No condition. -/
import Derived.Test.YtibnmlbjahcjmaaGreatRows
import Derived.Test.YtibnmlbjahcjmaaGreatZaAmB
set_option linter.unusedSimpArgs false
set_option linter.unusedVariables false
namespace Go.Proofs.YtibnmlbjahcjmaaGreat
open Go Go.AM
theorem sz0 : szOf Tryz.prog 0 = some 1 := by kernel_rfl
theorem sz1 : szOf Tryz.prog 1 = some 1 := by kernel_rfl
theorem tb1 : Tryz.t1.bytes = 8 := rfl
theorem sz2 : szOf Tryz.prog 2 = some 1 := by kernel_rfl
theorem sz3 : szOf Tryz.prog 3 = some 1 := by kernel_rfl
theorem in3 : Tryz.prog.info? 3 = some Tryz.t3 := by kernel_rfl
theorem ts3 : Tryz.t3.size = 1 := rfl
theorem tb3 : Tryz.t3.bytes = 8 := rfl
theorem tz3 : Tryz.t3.zero = some (Value.int IntKind.i64 0) := rfl
theorem zc3 : zeroCells? Tryz.prog 3 = some [.v (Value.int IntKind.i64 0)] := by kernel_rfl
theorem sz4 : szOf Tryz.prog 4 = some 1 := by kernel_rfl
theorem in4 : Tryz.prog.info? 4 = some Tryz.t4 := by kernel_rfl
theorem ts4 : Tryz.t4.size = 1 := rfl
theorem tb4 : Tryz.t4.bytes = 1 := rfl
theorem zc4 : zeroCells? Tryz.prog 4 = some [.v (Value.bool false)] := by kernel_rfl
theorem sz5 : szOf Tryz.prog 5 = some 1 := by kernel_rfl
theorem sz6 : szOf Tryz.prog 6 = some 1 := by kernel_rfl
theorem sz7 : szOf Tryz.prog 7 = some 4 := by kernel_rfl
theorem sz8 : szOf Tryz.prog 8 = some 4 := by kernel_rfl
theorem sz9 : szOf Tryz.prog 9 = some 1 := by kernel_rfl
theorem sz10 : szOf Tryz.prog 10 = some 1 := by kernel_rfl
theorem sz11 : szOf Tryz.prog 11 = some 1 := by kernel_rfl
theorem sz12 : szOf Tryz.prog 12 = some 1 := by kernel_rfl
theorem sz13 : szOf Tryz.prog 13 = some 2 := by kernel_rfl
theorem sz14 : szOf Tryz.prog 14 = some 2 := by kernel_rfl
theorem sz15 : szOf Tryz.prog 15 = some 1 := by kernel_rfl
theorem sz16 : szOf Tryz.prog 16 = some 1 := by kernel_rfl
theorem sz17 : szOf Tryz.prog 17 = some 1 := by kernel_rfl
theorem sz18 : szOf Tryz.prog 18 = some 1 := by kernel_rfl
theorem sz19 : szOf Tryz.prog 19 = some 1 := by kernel_rfl
theorem sz20 : szOf Tryz.prog 20 = some 1 := by kernel_rfl
theorem sz21 : szOf Tryz.prog 21 = some 1 := by kernel_rfl
theorem sz22 : szOf Tryz.prog 22 = some 3 := by kernel_rfl
theorem sz23 : szOf Tryz.prog 23 = some 3 := by kernel_rfl
theorem zc23 : zeroCells? Tryz.prog 23 = some [.v (Value.int IntKind.i64 0), .v (Value.int IntKind.i64 0), .v (Value.int IntKind.i64 0)] := by kernel_rfl
theorem sz24 : szOf Tryz.prog 24 = some 1 := by kernel_rfl
theorem sz25 : szOf Tryz.prog 25 = some 1 := by kernel_rfl
theorem zc25 : zeroCells? Tryz.prog 25 = some [.v (Value.slice none 0 0)] := by kernel_rfl
theorem sz26 : szOf Tryz.prog 26 = some 5 := by kernel_rfl
theorem sz27 : szOf Tryz.prog 27 = some 5 := by kernel_rfl
theorem zc27 : zeroCells? Tryz.prog 27 = some [.v (Value.int IntKind.i64 0), .v (Value.int IntKind.i64 0), .v (Value.int IntKind.i64 0), .v (Value.slice none 0 0), .v (Value.slice none 0 0)] := by kernel_rfl
theorem sz28 : szOf Tryz.prog 28 = some 1 := by kernel_rfl
theorem sz29 : szOf Tryz.prog 29 = some 1 := by kernel_rfl
theorem sz30 : szOf Tryz.prog 30 = some 1 := by kernel_rfl
theorem sz31 : szOf Tryz.prog 31 = some 1 := by kernel_rfl
theorem sz32 : szOf Tryz.prog 32 = some 1 := by kernel_rfl
theorem sz33 : szOf Tryz.prog 33 = some 1 := by kernel_rfl
theorem sz34 : szOf Tryz.prog 34 = some 1 := by kernel_rfl
theorem sz35 : szOf Tryz.prog 35 = some 1 := by kernel_rfl
theorem sz36 : szOf Tryz.prog 36 = some 1 := by kernel_rfl
theorem in36 : Tryz.prog.info? 36 = some Tryz.t36 := by kernel_rfl
theorem ts36 : Tryz.t36.size = 1 := rfl
theorem tb36 : Tryz.t36.bytes = 24 := rfl
theorem zc36 : zeroCells? Tryz.prog 36 = some [.v (Value.slice none 0 0)] := by kernel_rfl
theorem sz37 : szOf Tryz.prog 37 = some 1 := by kernel_rfl
theorem sz38 : szOf Tryz.prog 38 = some 1 := by kernel_rfl
theorem sz39 : szOf Tryz.prog 39 = some 1 := by kernel_rfl
theorem sz40 : szOf Tryz.prog 40 = some 1 := by kernel_rfl
theorem sz41 : szOf Tryz.prog 41 = some 1 := by kernel_rfl
theorem sz42 : szOf Tryz.prog 42 = some 1 := by kernel_rfl
theorem in42 : Tryz.prog.info? 42 = some Tryz.t42 := by kernel_rfl
theorem ts42 : Tryz.t42.size = 1 := rfl
theorem tb42 : Tryz.t42.bytes = 8 := rfl
theorem tz42 : Tryz.t42.zero = some (Value.int IntKind.u64 0) := rfl
theorem zc42 : zeroCells? Tryz.prog 42 = some [.v (Value.int IntKind.u64 0)] := by kernel_rfl
theorem sz43 : szOf Tryz.prog 43 = some 2 := by kernel_rfl
theorem sz44 : szOf Tryz.prog 44 = some 2 := by kernel_rfl
theorem in44 : Tryz.prog.info? 44 = some Tryz.t44 := by kernel_rfl
theorem ts44 : Tryz.t44.size = 2 := rfl
theorem tb44 : Tryz.t44.bytes = 16 := rfl
theorem tz44 : Tryz.t44.zero = some (Value.agg #[Value.int IntKind.u64 0, Value.int IntKind.u64 0]) := rfl
theorem zc44 : zeroCells? Tryz.prog 44 = some [.v (Value.int IntKind.u64 0), .v (Value.int IntKind.u64 0)] := by kernel_rfl
theorem sz45 : szOf Tryz.prog 45 = some 1 := by kernel_rfl
theorem sz46 : szOf Tryz.prog 46 = some 3 := by kernel_rfl
theorem sz47 : szOf Tryz.prog 47 = some 3 := by kernel_rfl
theorem in47 : Tryz.prog.info? 47 = some Tryz.t47 := by kernel_rfl
theorem ts47 : Tryz.t47.size = 3 := rfl
theorem tb47 : Tryz.t47.bytes = 24 := rfl
theorem tz47 : Tryz.t47.zero = some (Value.agg #[Value.int IntKind.i64 0, Value.int IntKind.i64 0, Value.int IntKind.i64 0]) := rfl
theorem zc47 : zeroCells? Tryz.prog 47 = some [.v (Value.int IntKind.i64 0), .v (Value.int IntKind.i64 0), .v (Value.int IntKind.i64 0)] := by kernel_rfl
theorem sz48 : szOf Tryz.prog 48 = some 1 := by kernel_rfl
theorem sz49 : szOf Tryz.prog 49 = some 1 := by kernel_rfl
theorem sz50 : szOf Tryz.prog 50 = some 1 := by kernel_rfl
theorem sz51 : szOf Tryz.prog 51 = some 1 := by kernel_rfl
theorem sz52 : szOf Tryz.prog 52 = some 1 := by kernel_rfl
theorem sz53 : szOf Tryz.prog 53 = some 1 := by kernel_rfl
theorem sz54 : szOf Tryz.prog 54 = some 1 := by kernel_rfl
theorem sz55 : szOf Tryz.prog 55 = some 1 := by kernel_rfl
theorem sz56 : szOf Tryz.prog 56 = some 1 := by kernel_rfl
theorem sz57 : szOf Tryz.prog 57 = some 1 := by kernel_rfl
theorem sz58 : szOf Tryz.prog 58 = some 1 := by kernel_rfl
theorem sz59 : szOf Tryz.prog 59 = some 1 := by kernel_rfl
theorem sz60 : szOf Tryz.prog 60 = some 1 := by kernel_rfl
theorem sz61 : szOf Tryz.prog 61 = some 1 := by kernel_rfl
theorem sz62 : szOf Tryz.prog 62 = some 1 := by kernel_rfl
theorem sz63 : szOf Tryz.prog 63 = some 1 := by kernel_rfl
theorem sz64 : szOf Tryz.prog 64 = some 1 := by kernel_rfl
theorem sz65 : szOf Tryz.prog 65 = some 1 := by kernel_rfl
theorem sz66 : szOf Tryz.prog 66 = some 1 := by kernel_rfl
theorem sz67 : szOf Tryz.prog 67 = some 1 := by kernel_rfl
theorem sz68 : szOf Tryz.prog 68 = some 1 := by kernel_rfl
theorem sz69 : szOf Tryz.prog 69 = some 1 := by kernel_rfl
theorem sz70 : szOf Tryz.prog 70 = some 1 := by kernel_rfl
theorem sz71 : szOf Tryz.prog 71 = some 1 := by kernel_rfl
theorem sz72 : szOf Tryz.prog 72 = some 1 := by kernel_rfl
theorem sz73 : szOf Tryz.prog 73 = some 1 := by kernel_rfl
theorem sz74 : szOf Tryz.prog 74 = some 1 := by kernel_rfl
theorem sz75 : szOf Tryz.prog 75 = some 1 := by kernel_rfl
theorem sz76 : szOf Tryz.prog 76 = some 1 := by kernel_rfl
theorem sz77 : szOf Tryz.prog 77 = some 1 := by kernel_rfl
theorem sz78 : szOf Tryz.prog 78 = some 1 := by kernel_rfl
theorem sz79 : szOf Tryz.prog 79 = some 1 := by kernel_rfl
theorem sz80 : szOf Tryz.prog 80 = some 1 := by kernel_rfl
theorem sz81 : szOf Tryz.prog 81 = some 1 := by kernel_rfl
theorem sz82 : szOf Tryz.prog 82 = some 1 := by kernel_rfl
theorem sz83 : szOf Tryz.prog 83 = some 1 := by kernel_rfl
theorem sz84 : szOf Tryz.prog 84 = some 1 := by kernel_rfl
theorem sz85 : szOf Tryz.prog 85 = some 1 := by kernel_rfl
theorem sz86 : szOf Tryz.prog 86 = some 1 := by kernel_rfl
theorem sz87 : szOf Tryz.prog 87 = some 3 := by kernel_rfl
theorem sz88 : szOf Tryz.prog 88 = some 3 := by kernel_rfl
theorem zc88 : zeroCells? Tryz.prog 88 = some [.v (Value.int IntKind.i64 0), .v (Value.int IntKind.i64 0), .v (Value.slice none 0 0)] := by kernel_rfl
theorem sz89 : szOf Tryz.prog 89 = some 1 := by kernel_rfl
theorem sz90 : szOf Tryz.prog 90 = some 1 := by kernel_rfl
theorem sz91 : szOf Tryz.prog 91 = some 1 := by kernel_rfl
theorem sz92 : szOf Tryz.prog 92 = some 1 := by kernel_rfl
theorem sz93 : szOf Tryz.prog 93 = some 1 := by kernel_rfl
theorem sz94 : szOf Tryz.prog 94 = some 1 := by kernel_rfl
theorem sz95 : szOf Tryz.prog 95 = some 1 := by kernel_rfl
theorem sz96 : szOf Tryz.prog 96 = some 1 := by kernel_rfl
theorem sz97 : szOf Tryz.prog 97 = some 1 := by kernel_rfl
theorem sz98 : szOf Tryz.prog 98 = some 1 := by kernel_rfl
theorem sz99 : szOf Tryz.prog 99 = some 1 := by kernel_rfl
theorem sz100 : szOf Tryz.prog 100 = some 1 := by kernel_rfl
theorem sz101 : szOf Tryz.prog 101 = some 1 := by kernel_rfl
theorem sz102 : szOf Tryz.prog 102 = some 1 := by kernel_rfl
theorem sz103 : szOf Tryz.prog 103 = some 1 := by kernel_rfl
theorem sz104 : szOf Tryz.prog 104 = some 1 := by kernel_rfl
theorem sz105 : szOf Tryz.prog 105 = some 1 := by kernel_rfl
theorem sz106 : szOf Tryz.prog 106 = some 1 := by kernel_rfl
theorem sz107 : szOf Tryz.prog 107 = some 1 := by kernel_rfl
theorem sz108 : szOf Tryz.prog 108 = some 1 := by kernel_rfl
theorem sz109 : szOf Tryz.prog 109 = some 1 := by kernel_rfl
theorem sz110 : szOf Tryz.prog 110 = some 1 := by kernel_rfl
theorem sz111 : szOf Tryz.prog 111 = some 1 := by kernel_rfl
theorem sz112 : szOf Tryz.prog 112 = some 1 := by kernel_rfl
theorem sz113 : szOf Tryz.prog 113 = some 1 := by kernel_rfl
theorem sz114 : szOf Tryz.prog 114 = some 1 := by kernel_rfl
theorem sz115 : szOf Tryz.prog 115 = some 1 := by kernel_rfl
theorem sz116 : szOf Tryz.prog 116 = some 1 := by kernel_rfl
theorem sz117 : szOf Tryz.prog 117 = some 1 := by kernel_rfl
theorem sz118 : szOf Tryz.prog 118 = some 1 := by kernel_rfl
theorem sz119 : szOf Tryz.prog 119 = some 1 := by kernel_rfl
theorem sz120 : szOf Tryz.prog 120 = some 1 := by kernel_rfl
theorem sz121 : szOf Tryz.prog 121 = some 1 := by kernel_rfl
theorem sz122 : szOf Tryz.prog 122 = some 1 := by kernel_rfl
theorem sz123 : szOf Tryz.prog 123 = some 1 := by kernel_rfl
theorem sz124 : szOf Tryz.prog 124 = some 1 := by kernel_rfl
theorem sz125 : szOf Tryz.prog 125 = some 1 := by kernel_rfl
theorem sz126 : szOf Tryz.prog 126 = some 1 := by kernel_rfl
theorem sz127 : szOf Tryz.prog 127 = some 1 := by kernel_rfl
theorem sz128 : szOf Tryz.prog 128 = some 1 := by kernel_rfl
theorem sz129 : szOf Tryz.prog 129 = some 1 := by kernel_rfl
theorem sz130 : szOf Tryz.prog 130 = some 4 := by kernel_rfl
theorem sz131 : szOf Tryz.prog 131 = some 4 := by kernel_rfl
theorem sz132 : szOf Tryz.prog 132 = some 0 := by kernel_rfl
theorem sz133 : szOf Tryz.prog 133 = some 0 := by kernel_rfl
theorem sz134 : szOf Tryz.prog 134 = some 0 := by kernel_rfl
theorem sz135 : szOf Tryz.prog 135 = some 1 := by kernel_rfl
theorem sz136 : szOf Tryz.prog 136 = some 1 := by kernel_rfl
theorem sz137 : szOf Tryz.prog 137 = some 1 := by kernel_rfl
theorem sz138 : szOf Tryz.prog 138 = some 1 := by kernel_rfl
theorem sz139 : szOf Tryz.prog 139 = some 1 := by kernel_rfl
theorem sz140 : szOf Tryz.prog 140 = some 1 := by kernel_rfl
theorem sz141 : szOf Tryz.prog 141 = some 1 := by kernel_rfl
theorem sz142 : szOf Tryz.prog 142 = some 11 := by kernel_rfl
theorem sz143 : szOf Tryz.prog 143 = some 11 := by kernel_rfl
theorem sz144 : szOf Tryz.prog 144 = some 1 := by kernel_rfl
theorem fb4 : (Program.funcs Tryz.prog)[4]?.any (fun fn => fn.body.isSome && fn.name != "runtime.NumGoroutine") = true := by rw [Tryz.func4]; kernel_rfl
theorem fb5 : (Program.funcs Tryz.prog)[5]?.any (fun fn => fn.body.isSome && fn.name != "runtime.NumGoroutine") = true := by rw [Tryz.func5]; kernel_rfl
theorem fb6 : (Program.funcs Tryz.prog)[6]?.any (fun fn => fn.body.isSome && fn.name != "runtime.NumGoroutine") = true := by rw [Tryz.func6]; kernel_rfl
theorem fb7 : (Program.funcs Tryz.prog)[7]?.any (fun fn => fn.body.isSome && fn.name != "runtime.NumGoroutine") = true := by rw [Tryz.func7]; kernel_rfl
theorem fb8 : (Program.funcs Tryz.prog)[8]?.any (fun fn => fn.body.isSome && fn.name != "runtime.NumGoroutine") = true := by rw [Tryz.func8]; kernel_rfl
theorem fb9 : (Program.funcs Tryz.prog)[9]?.any (fun fn => fn.body.isSome && fn.name != "runtime.NumGoroutine") = true := by rw [Tryz.func9]; kernel_rfl
theorem fb10 : (Program.funcs Tryz.prog)[10]?.any (fun fn => fn.body.isSome && fn.name != "runtime.NumGoroutine") = true := by rw [Tryz.func10]; kernel_rfl
theorem fb11 : (Program.funcs Tryz.prog)[11]?.any (fun fn => fn.body.isSome && fn.name != "runtime.NumGoroutine") = true := by rw [Tryz.func11]; kernel_rfl
theorem fb12 : (Program.funcs Tryz.prog)[12]?.any (fun fn => fn.body.isSome && fn.name != "runtime.NumGoroutine") = true := by rw [Tryz.func12]; kernel_rfl
theorem fb13 : (Program.funcs Tryz.prog)[13]?.any (fun fn => fn.body.isSome && fn.name != "runtime.NumGoroutine") = true := by rw [Tryz.func13]; kernel_rfl
theorem fb14 : (Program.funcs Tryz.prog)[14]?.any (fun fn => fn.body.isSome && fn.name != "runtime.NumGoroutine") = true := by rw [Tryz.func14]; kernel_rfl
theorem fb15 : (Program.funcs Tryz.prog)[15]?.any (fun fn => fn.body.isSome && fn.name != "runtime.NumGoroutine") = true := by rw [Tryz.func15]; kernel_rfl
theorem fb16 : (Program.funcs Tryz.prog)[16]?.any (fun fn => fn.body.isSome && fn.name != "runtime.NumGoroutine") = true := by rw [Tryz.func16]; kernel_rfl
theorem fb17 : (Program.funcs Tryz.prog)[17]?.any (fun fn => fn.body.isSome && fn.name != "runtime.NumGoroutine") = true := by rw [Tryz.func17]; kernel_rfl
theorem fb18 : (Program.funcs Tryz.prog)[18]?.any (fun fn => fn.body.isSome && fn.name != "runtime.NumGoroutine") = true := by rw [Tryz.func18]; kernel_rfl
theorem fb19 : (Program.funcs Tryz.prog)[19]?.any (fun fn => fn.body.isSome && fn.name != "runtime.NumGoroutine") = true := by rw [Tryz.func19]; kernel_rfl
theorem fb20 : (Program.funcs Tryz.prog)[20]?.any (fun fn => fn.body.isSome && fn.name != "runtime.NumGoroutine") = true := by rw [Tryz.func20]; kernel_rfl
theorem fb21 : (Program.funcs Tryz.prog)[21]?.any (fun fn => fn.body.isSome && fn.name != "runtime.NumGoroutine") = true := by rw [Tryz.func21]; kernel_rfl
theorem fb22 : (Program.funcs Tryz.prog)[22]?.any (fun fn => fn.body.isSome && fn.name != "runtime.NumGoroutine") = true := by rw [Tryz.func22]; kernel_rfl
theorem fb23 : (Program.funcs Tryz.prog)[23]?.any (fun fn => fn.body.isSome && fn.name != "runtime.NumGoroutine") = true := by rw [Tryz.func23]; kernel_rfl
theorem fb24 : (Program.funcs Tryz.prog)[24]?.any (fun fn => fn.body.isSome && fn.name != "runtime.NumGoroutine") = true := by rw [Tryz.func24]; kernel_rfl
theorem fb25 : (Program.funcs Tryz.prog)[25]?.any (fun fn => fn.body.isSome && fn.name != "runtime.NumGoroutine") = true := by rw [Tryz.func25]; kernel_rfl
theorem fb26 : (Program.funcs Tryz.prog)[26]?.any (fun fn => fn.body.isSome && fn.name != "runtime.NumGoroutine") = true := by rw [Tryz.func26]; kernel_rfl
theorem fb27 : (Program.funcs Tryz.prog)[27]?.any (fun fn => fn.body.isSome && fn.name != "runtime.NumGoroutine") = true := by rw [Tryz.func27]; kernel_rfl
theorem fb28 : (Program.funcs Tryz.prog)[28]?.any (fun fn => fn.body.isSome && fn.name != "runtime.NumGoroutine") = true := by rw [Tryz.func28]; kernel_rfl
theorem fb29 : (Program.funcs Tryz.prog)[29]?.any (fun fn => fn.body.isSome && fn.name != "runtime.NumGoroutine") = true := by rw [Tryz.func29]; kernel_rfl
theorem fb30 : (Program.funcs Tryz.prog)[30]?.any (fun fn => fn.body.isSome && fn.name != "runtime.NumGoroutine") = true := by rw [Tryz.func30]; kernel_rfl
theorem fb31 : (Program.funcs Tryz.prog)[31]?.any (fun fn => fn.body.isSome && fn.name != "runtime.NumGoroutine") = true := by rw [Tryz.func31]; kernel_rfl
theorem fb32 : (Program.funcs Tryz.prog)[32]?.any (fun fn => fn.body.isSome && fn.name != "runtime.NumGoroutine") = true := by rw [Tryz.func32]; kernel_rfl
theorem fb33 : (Program.funcs Tryz.prog)[33]?.any (fun fn => fn.body.isSome && fn.name != "runtime.NumGoroutine") = true := by rw [Tryz.func33]; kernel_rfl
theorem fb34 : (Program.funcs Tryz.prog)[34]?.any (fun fn => fn.body.isSome && fn.name != "runtime.NumGoroutine") = true := by rw [Tryz.func34]; kernel_rfl
theorem fb35 : (Program.funcs Tryz.prog)[35]?.any (fun fn => fn.body.isSome && fn.name != "runtime.NumGoroutine") = true := by rw [Tryz.func35]; kernel_rfl
theorem fb36 : (Program.funcs Tryz.prog)[36]?.any (fun fn => fn.body.isSome && fn.name != "runtime.NumGoroutine") = true := by rw [Tryz.func36]; kernel_rfl
theorem fb37 : (Program.funcs Tryz.prog)[37]?.any (fun fn => fn.body.isSome && fn.name != "runtime.NumGoroutine") = true := by rw [Tryz.func37]; kernel_rfl
theorem fb38 : (Program.funcs Tryz.prog)[38]?.any (fun fn => fn.body.isSome && fn.name != "runtime.NumGoroutine") = true := by rw [Tryz.func38]; kernel_rfl
theorem fb39 : (Program.funcs Tryz.prog)[39]?.any (fun fn => fn.body.isSome && fn.name != "runtime.NumGoroutine") = true := by rw [Tryz.func39]; kernel_rfl
theorem fb40 : (Program.funcs Tryz.prog)[40]?.any (fun fn => fn.body.isSome && fn.name != "runtime.NumGoroutine") = true := by rw [Tryz.func40]; kernel_rfl
theorem fb41 : (Program.funcs Tryz.prog)[41]?.any (fun fn => fn.body.isSome && fn.name != "runtime.NumGoroutine") = true := by rw [Tryz.func41]; kernel_rfl
theorem fb42 : (Program.funcs Tryz.prog)[42]?.any (fun fn => fn.body.isSome && fn.name != "runtime.NumGoroutine") = true := by rw [Tryz.func42]; kernel_rfl
theorem fb43 : (Program.funcs Tryz.prog)[43]?.any (fun fn => fn.body.isSome && fn.name != "runtime.NumGoroutine") = true := by rw [Tryz.func43]; kernel_rfl
theorem fb44 : (Program.funcs Tryz.prog)[44]?.any (fun fn => fn.body.isSome && fn.name != "runtime.NumGoroutine") = true := by rw [Tryz.func44]; kernel_rfl
theorem fb45 : (Program.funcs Tryz.prog)[45]?.any (fun fn => fn.body.isSome && fn.name != "runtime.NumGoroutine") = true := by rw [Tryz.func45]; kernel_rfl
theorem fb46 : (Program.funcs Tryz.prog)[46]?.any (fun fn => fn.body.isSome && fn.name != "runtime.NumGoroutine") = true := by rw [Tryz.func46]; kernel_rfl
theorem fb47 : (Program.funcs Tryz.prog)[47]?.any (fun fn => fn.body.isSome && fn.name != "runtime.NumGoroutine") = true := by rw [Tryz.func47]; kernel_rfl
theorem fb48 : (Program.funcs Tryz.prog)[48]?.any (fun fn => fn.body.isSome && fn.name != "runtime.NumGoroutine") = true := by rw [Tryz.func48]; kernel_rfl
theorem fb49 : (Program.funcs Tryz.prog)[49]?.any (fun fn => fn.body.isSome && fn.name != "runtime.NumGoroutine") = true := by rw [Tryz.func49]; kernel_rfl
theorem fb50 : (Program.funcs Tryz.prog)[50]?.any (fun fn => fn.body.isSome && fn.name != "runtime.NumGoroutine") = true := by rw [Tryz.func50]; kernel_rfl
theorem fb51 : (Program.funcs Tryz.prog)[51]?.any (fun fn => fn.body.isSome && fn.name != "runtime.NumGoroutine") = true := by rw [Tryz.func51]; kernel_rfl
theorem fb52 : (Program.funcs Tryz.prog)[52]?.any (fun fn => fn.body.isSome && fn.name != "runtime.NumGoroutine") = true := by rw [Tryz.func52]; kernel_rfl
theorem fb53 : (Program.funcs Tryz.prog)[53]?.any (fun fn => fn.body.isSome && fn.name != "runtime.NumGoroutine") = true := by rw [Tryz.func53]; kernel_rfl
theorem fb54 : (Program.funcs Tryz.prog)[54]?.any (fun fn => fn.body.isSome && fn.name != "runtime.NumGoroutine") = true := by rw [Tryz.func54]; kernel_rfl
theorem fb55 : (Program.funcs Tryz.prog)[55]?.any (fun fn => fn.body.isSome && fn.name != "runtime.NumGoroutine") = true := by rw [Tryz.func55]; kernel_rfl
theorem fb56 : (Program.funcs Tryz.prog)[56]?.any (fun fn => fn.body.isSome && fn.name != "runtime.NumGoroutine") = true := by rw [Tryz.func56]; kernel_rfl
theorem fb57 : (Program.funcs Tryz.prog)[57]?.any (fun fn => fn.body.isSome && fn.name != "runtime.NumGoroutine") = true := by rw [Tryz.func57]; kernel_rfl
theorem fb58 : (Program.funcs Tryz.prog)[58]?.any (fun fn => fn.body.isSome && fn.name != "runtime.NumGoroutine") = true := by rw [Tryz.func58]; kernel_rfl
theorem fb59 : (Program.funcs Tryz.prog)[59]?.any (fun fn => fn.body.isSome && fn.name != "runtime.NumGoroutine") = true := by rw [Tryz.func59]; kernel_rfl
theorem fb60 : (Program.funcs Tryz.prog)[60]?.any (fun fn => fn.body.isSome && fn.name != "runtime.NumGoroutine") = true := by rw [Tryz.func60]; kernel_rfl
theorem fb61 : (Program.funcs Tryz.prog)[61]?.any (fun fn => fn.body.isSome && fn.name != "runtime.NumGoroutine") = true := by rw [Tryz.func61]; kernel_rfl
theorem fb62 : (Program.funcs Tryz.prog)[62]?.any (fun fn => fn.body.isSome && fn.name != "runtime.NumGoroutine") = true := by rw [Tryz.func62]; kernel_rfl
theorem fb63 : (Program.funcs Tryz.prog)[63]?.any (fun fn => fn.body.isSome && fn.name != "runtime.NumGoroutine") = true := by rw [Tryz.func63]; kernel_rfl
theorem fb64 : (Program.funcs Tryz.prog)[64]?.any (fun fn => fn.body.isSome && fn.name != "runtime.NumGoroutine") = true := by rw [Tryz.func64]; kernel_rfl
theorem fb65 : (Program.funcs Tryz.prog)[65]?.any (fun fn => fn.body.isSome && fn.name != "runtime.NumGoroutine") = true := by rw [Tryz.func65]; kernel_rfl
theorem fb66 : (Program.funcs Tryz.prog)[66]?.any (fun fn => fn.body.isSome && fn.name != "runtime.NumGoroutine") = true := by rw [Tryz.func66]; kernel_rfl
theorem fb67 : (Program.funcs Tryz.prog)[67]?.any (fun fn => fn.body.isSome && fn.name != "runtime.NumGoroutine") = true := by rw [Tryz.func67]; kernel_rfl
theorem fb68 : (Program.funcs Tryz.prog)[68]?.any (fun fn => fn.body.isSome && fn.name != "runtime.NumGoroutine") = true := by rw [Tryz.func68]; kernel_rfl
theorem fb69 : (Program.funcs Tryz.prog)[69]?.any (fun fn => fn.body.isSome && fn.name != "runtime.NumGoroutine") = true := by rw [Tryz.func69]; kernel_rfl
theorem fb70 : (Program.funcs Tryz.prog)[70]?.any (fun fn => fn.body.isSome && fn.name != "runtime.NumGoroutine") = true := by rw [Tryz.func70]; kernel_rfl
theorem fb71 : (Program.funcs Tryz.prog)[71]?.any (fun fn => fn.body.isSome && fn.name != "runtime.NumGoroutine") = true := by rw [Tryz.func71]; kernel_rfl
theorem fb72 : (Program.funcs Tryz.prog)[72]?.any (fun fn => fn.body.isSome && fn.name != "runtime.NumGoroutine") = true := by rw [Tryz.func72]; kernel_rfl
theorem fb73 : (Program.funcs Tryz.prog)[73]?.any (fun fn => fn.body.isSome && fn.name != "runtime.NumGoroutine") = true := by rw [Tryz.func73]; kernel_rfl
theorem fb74 : (Program.funcs Tryz.prog)[74]?.any (fun fn => fn.body.isSome && fn.name != "runtime.NumGoroutine") = true := by rw [Tryz.func74]; kernel_rfl
theorem fb75 : (Program.funcs Tryz.prog)[75]?.any (fun fn => fn.body.isSome && fn.name != "runtime.NumGoroutine") = true := by rw [Tryz.func75]; kernel_rfl
theorem fb76 : (Program.funcs Tryz.prog)[76]?.any (fun fn => fn.body.isSome && fn.name != "runtime.NumGoroutine") = true := by rw [Tryz.func76]; kernel_rfl
theorem fb77 : (Program.funcs Tryz.prog)[77]?.any (fun fn => fn.body.isSome && fn.name != "runtime.NumGoroutine") = true := by rw [Tryz.func77]; kernel_rfl
theorem fb78 : (Program.funcs Tryz.prog)[78]?.any (fun fn => fn.body.isSome && fn.name != "runtime.NumGoroutine") = true := by rw [Tryz.func78]; kernel_rfl
theorem fb79 : (Program.funcs Tryz.prog)[79]?.any (fun fn => fn.body.isSome && fn.name != "runtime.NumGoroutine") = true := by rw [Tryz.func79]; kernel_rfl
theorem fb80 : (Program.funcs Tryz.prog)[80]?.any (fun fn => fn.body.isSome && fn.name != "runtime.NumGoroutine") = true := by rw [Tryz.func80]; kernel_rfl
theorem fb81 : (Program.funcs Tryz.prog)[81]?.any (fun fn => fn.body.isSome && fn.name != "runtime.NumGoroutine") = true := by rw [Tryz.func81]; kernel_rfl
theorem fb82 : (Program.funcs Tryz.prog)[82]?.any (fun fn => fn.body.isSome && fn.name != "runtime.NumGoroutine") = true := by rw [Tryz.func82]; kernel_rfl
theorem fb83 : (Program.funcs Tryz.prog)[83]?.any (fun fn => fn.body.isSome && fn.name != "runtime.NumGoroutine") = true := by rw [Tryz.func83]; kernel_rfl
theorem fb84 : (Program.funcs Tryz.prog)[84]?.any (fun fn => fn.body.isSome && fn.name != "runtime.NumGoroutine") = true := by rw [Tryz.func84]; kernel_rfl
theorem fb85 : (Program.funcs Tryz.prog)[85]?.any (fun fn => fn.body.isSome && fn.name != "runtime.NumGoroutine") = true := by rw [Tryz.func85]; kernel_rfl
theorem fb86 : (Program.funcs Tryz.prog)[86]?.any (fun fn => fn.body.isSome && fn.name != "runtime.NumGoroutine") = true := by rw [Tryz.func86]; kernel_rfl
theorem fb87 : (Program.funcs Tryz.prog)[87]?.any (fun fn => fn.body.isSome && fn.name != "runtime.NumGoroutine") = true := by rw [Tryz.func87]; kernel_rfl
theorem fb88 : (Program.funcs Tryz.prog)[88]?.any (fun fn => fn.body.isSome && fn.name != "runtime.NumGoroutine") = true := by rw [Tryz.func88]; kernel_rfl
theorem fb89 : (Program.funcs Tryz.prog)[89]?.any (fun fn => fn.body.isSome && fn.name != "runtime.NumGoroutine") = true := by rw [Tryz.func89]; kernel_rfl
theorem fb90 : (Program.funcs Tryz.prog)[90]?.any (fun fn => fn.body.isSome && fn.name != "runtime.NumGoroutine") = true := by rw [Tryz.func90]; kernel_rfl
theorem fb91 : (Program.funcs Tryz.prog)[91]?.any (fun fn => fn.body.isSome && fn.name != "runtime.NumGoroutine") = true := by rw [Tryz.func91]; kernel_rfl
theorem fb92 : (Program.funcs Tryz.prog)[92]?.any (fun fn => fn.body.isSome && fn.name != "runtime.NumGoroutine") = true := by rw [Tryz.func92]; kernel_rfl
theorem fb93 : (Program.funcs Tryz.prog)[93]?.any (fun fn => fn.body.isSome && fn.name != "runtime.NumGoroutine") = true := by rw [Tryz.func93]; kernel_rfl
theorem fb94 : (Program.funcs Tryz.prog)[94]?.any (fun fn => fn.body.isSome && fn.name != "runtime.NumGoroutine") = true := by rw [Tryz.func94]; kernel_rfl
theorem fb95 : (Program.funcs Tryz.prog)[95]?.any (fun fn => fn.body.isSome && fn.name != "runtime.NumGoroutine") = true := by rw [Tryz.func95]; kernel_rfl
theorem fb96 : (Program.funcs Tryz.prog)[96]?.any (fun fn => fn.body.isSome && fn.name != "runtime.NumGoroutine") = true := by rw [Tryz.func96]; kernel_rfl
theorem fb97 : (Program.funcs Tryz.prog)[97]?.any (fun fn => fn.body.isSome && fn.name != "runtime.NumGoroutine") = true := by rw [Tryz.func97]; kernel_rfl
theorem fb98 : (Program.funcs Tryz.prog)[98]?.any (fun fn => fn.body.isSome && fn.name != "runtime.NumGoroutine") = true := by rw [Tryz.func98]; kernel_rfl
theorem fb99 : (Program.funcs Tryz.prog)[99]?.any (fun fn => fn.body.isSome && fn.name != "runtime.NumGoroutine") = true := by rw [Tryz.func99]; kernel_rfl
theorem fb100 : (Program.funcs Tryz.prog)[100]?.any (fun fn => fn.body.isSome && fn.name != "runtime.NumGoroutine") = true := by rw [Tryz.func100]; kernel_rfl
theorem fb101 : (Program.funcs Tryz.prog)[101]?.any (fun fn => fn.body.isSome && fn.name != "runtime.NumGoroutine") = true := by rw [Tryz.func101]; kernel_rfl
theorem fb102 : (Program.funcs Tryz.prog)[102]?.any (fun fn => fn.body.isSome && fn.name != "runtime.NumGoroutine") = true := by rw [Tryz.func102]; kernel_rfl
theorem fb104 : (Program.funcs Tryz.prog)[104]?.any (fun fn => fn.body.isSome && fn.name != "runtime.NumGoroutine") = true := by rw [Tryz.func104]; kernel_rfl
theorem fb105 : (Program.funcs Tryz.prog)[105]?.any (fun fn => fn.body.isSome && fn.name != "runtime.NumGoroutine") = true := by rw [Tryz.func105]; kernel_rfl
theorem fb106 : (Program.funcs Tryz.prog)[106]?.any (fun fn => fn.body.isSome && fn.name != "runtime.NumGoroutine") = true := by rw [Tryz.func106]; kernel_rfl
theorem fb107 : (Program.funcs Tryz.prog)[107]?.any (fun fn => fn.body.isSome && fn.name != "runtime.NumGoroutine") = true := by rw [Tryz.func107]; kernel_rfl
theorem fb108 : (Program.funcs Tryz.prog)[108]?.any (fun fn => fn.body.isSome && fn.name != "runtime.NumGoroutine") = true := by rw [Tryz.func108]; kernel_rfl
theorem fb109 : (Program.funcs Tryz.prog)[109]?.any (fun fn => fn.body.isSome && fn.name != "runtime.NumGoroutine") = true := by rw [Tryz.func109]; kernel_rfl
theorem fb110 : (Program.funcs Tryz.prog)[110]?.any (fun fn => fn.body.isSome && fn.name != "runtime.NumGoroutine") = true := by rw [Tryz.func110]; kernel_rfl
theorem fb111 : (Program.funcs Tryz.prog)[111]?.any (fun fn => fn.body.isSome && fn.name != "runtime.NumGoroutine") = true := by rw [Tryz.func111]; kernel_rfl
theorem fb112 : (Program.funcs Tryz.prog)[112]?.any (fun fn => fn.body.isSome && fn.name != "runtime.NumGoroutine") = true := by rw [Tryz.func112]; kernel_rfl
theorem fb113 : (Program.funcs Tryz.prog)[113]?.any (fun fn => fn.body.isSome && fn.name != "runtime.NumGoroutine") = true := by rw [Tryz.func113]; kernel_rfl
theorem fb114 : (Program.funcs Tryz.prog)[114]?.any (fun fn => fn.body.isSome && fn.name != "runtime.NumGoroutine") = true := by rw [Tryz.func114]; kernel_rfl
theorem mix : Tryz.prog.follows .mixedOrders = true := by kernel_rfl
theorem mi0 (H : Heap) (ρ : Operand → AV) (x : Operand) : apure Tryz.prog H ρ (.makeInterface 0 x) = some (.ifc 0 (ρ x)) := by simp only [apure, Tryz.underlying0]
attribute [go_sem] mi0
theorem mi1 (H : Heap) (ρ : Operand → AV) (x : Operand) : apure Tryz.prog H ρ (.makeInterface 1 x) = some (.ifc 1 (ρ x)) := by simp only [apure, Tryz.underlying1]
attribute [go_sem] mi1
theorem mi2 (H : Heap) (ρ : Operand → AV) (x : Operand) : apure Tryz.prog H ρ (.makeInterface 2 x) = some (.ifc 2 (ρ x)) := by simp only [apure, Tryz.underlying2]
attribute [go_sem] mi2
theorem mi3 (H : Heap) (ρ : Operand → AV) (x : Operand) : apure Tryz.prog H ρ (.makeInterface 3 x) = some (.ifc 3 (ρ x)) := by simp only [apure, Tryz.underlying3]
attribute [go_sem] mi3
theorem mi4 (H : Heap) (ρ : Operand → AV) (x : Operand) : apure Tryz.prog H ρ (.makeInterface 4 x) = some (.ifc 4 (ρ x)) := by simp only [apure, Tryz.underlying4]
attribute [go_sem] mi4
theorem mi5 (H : Heap) (ρ : Operand → AV) (x : Operand) : apure Tryz.prog H ρ (.makeInterface 5 x) = some (.ifc 5 (ρ x)) := by simp only [apure, Tryz.underlying5]
attribute [go_sem] mi5
theorem mi6 (H : Heap) (ρ : Operand → AV) (x : Operand) : apure Tryz.prog H ρ (.makeInterface 6 x) = some (.ifc 6 (ρ x)) := by simp only [apure, Tryz.underlying6]
attribute [go_sem] mi6
theorem mi7 (H : Heap) (ρ : Operand → AV) (x : Operand) : apure Tryz.prog H ρ (.makeInterface 7 x) = some (.ifc 7 (ρ x)) := by simp only [apure, Tryz.underlying7]
attribute [go_sem] mi7
theorem mi8 (H : Heap) (ρ : Operand → AV) (x : Operand) : apure Tryz.prog H ρ (.makeInterface 8 x) = some (.ifc 8 (ρ x)) := by simp only [apure, Tryz.underlying8]
attribute [go_sem] mi8
theorem ln9 (s : ByteArray) : abuiltin Tryz.prog .len [9] [.v (.string s)] = some (.v (.int .i64 s.size)) := abuiltin_len_str Tryz.underlying9
attribute [go_sem] ln9
theorem mi9 (H : Heap) (ρ : Operand → AV) (x : Operand) : apure Tryz.prog H ρ (.makeInterface 9 x) = some (.ifc 9 (ρ x)) := by simp only [apure, Tryz.underlying9]
attribute [go_sem] mi9
theorem ln10 (s : ByteArray) : abuiltin Tryz.prog .len [10] [.v (.string s)] = some (.v (.int .i64 s.size)) := abuiltin_len_str Tryz.underlying10
attribute [go_sem] ln10
theorem mi10 (H : Heap) (ρ : Operand → AV) (x : Operand) : apure Tryz.prog H ρ (.makeInterface 10 x) = some (.ifc 10 (ρ x)) := by simp only [apure, Tryz.underlying10]
attribute [go_sem] mi10
theorem ln11 (s : ByteArray) : abuiltin Tryz.prog .len [11] [.v (.string s)] = some (.v (.int .i64 s.size)) := abuiltin_len_str Tryz.underlying11
attribute [go_sem] ln11
theorem mi11 (H : Heap) (ρ : Operand → AV) (x : Operand) : apure Tryz.prog H ρ (.makeInterface 11 x) = some (.ifc 11 (ρ x)) := by simp only [apure, Tryz.underlying11]
attribute [go_sem] mi11
theorem mi12 (H : Heap) (ρ : Operand → AV) (x : Operand) : apure Tryz.prog H ρ (.makeInterface 12 x) = some (.ifc 12 (ρ x)) := by simp only [apure, Tryz.underlying12]
attribute [go_sem] mi12
theorem mi13 (H : Heap) (ρ : Operand → AV) (x : Operand) : apure Tryz.prog H ρ (.makeInterface 13 x) = some (.ifc 13 (ρ x)) := by simp only [apure, Tryz.underlying13]
attribute [go_sem] mi13
theorem mi14 (H : Heap) (ρ : Operand → AV) (x : Operand) : apure Tryz.prog H ρ (.makeInterface 14 x) = some (.ifc 14 (ρ x)) := by simp only [apure, Tryz.underlying14]
attribute [go_sem] mi14
theorem mi15 (H : Heap) (ρ : Operand → AV) (x : Operand) : apure Tryz.prog H ρ (.makeInterface 15 x) = some (.ifc 15 (ρ x)) := by simp only [apure, Tryz.underlying15]
attribute [go_sem] mi15
theorem mi16 (H : Heap) (ρ : Operand → AV) (x : Operand) : apure Tryz.prog H ρ (.makeInterface 16 x) = some (.ifc 16 (ρ x)) := by simp only [apure, Tryz.underlying16]
attribute [go_sem] mi16
theorem mi17 (H : Heap) (ρ : Operand → AV) (x : Operand) : apure Tryz.prog H ρ (.makeInterface 17 x) = some (.ifc 17 (ρ x)) := by simp only [apure, Tryz.underlying17]
attribute [go_sem] mi17
theorem mi18 (H : Heap) (ρ : Operand → AV) (x : Operand) : apure Tryz.prog H ρ (.makeInterface 18 x) = some (.ifc 18 (ρ x)) := by simp only [apure, Tryz.underlying18]
attribute [go_sem] mi18
theorem mi19 (H : Heap) (ρ : Operand → AV) (x : Operand) : apure Tryz.prog H ρ (.makeInterface 19 x) = some (.ifc 19 (ρ x)) := by simp only [apure, Tryz.underlying19]
attribute [go_sem] mi19
theorem mi21 (H : Heap) (ρ : Operand → AV) (x : Operand) : apure Tryz.prog H ρ (.makeInterface 21 x) = some (.ifc 21 (ρ x)) := by simp only [apure, Tryz.underlying21]
attribute [go_sem] mi21
theorem mi22 (H : Heap) (ρ : Operand → AV) (x : Operand) : apure Tryz.prog H ρ (.makeInterface 22 x) = some (.ifc 22 (ρ x)) := by simp only [apure, Tryz.underlying22]
attribute [go_sem] mi22
theorem mi23 (H : Heap) (ρ : Operand → AV) (x : Operand) : apure Tryz.prog H ρ (.makeInterface 23 x) = some (.ifc 23 (ρ x)) := by simp only [apure, Tryz.underlying23]
attribute [go_sem] mi23
theorem ln24 (xs : List AV) (n : Nat) (f : Bool) : abuiltin Tryz.prog .len [24] [.sl xs n f] = some (.v (.int .i64 n)) := abuiltin_len_sl Tryz.underlying24
theorem lo24 (j o n : Nat) : abuiltin Tryz.prog .len [24] [.own j o n] = some (.v (.int .i64 n)) := abuiltin_len_own Tryz.underlying24
theorem lz24 (n c : Nat) : abuiltin Tryz.prog .len [24] [.v (.slice none n c)] = some (.v (.int .i64 n)) := abuiltin_len_nil Tryz.underlying24
attribute [go_sem] ln24 lo24 lz24
theorem mi24 (H : Heap) (ρ : Operand → AV) (x : Operand) : apure Tryz.prog H ρ (.makeInterface 24 x) = some (.ifc 24 (ρ x)) := by simp only [apure, Tryz.underlying24]
attribute [go_sem] mi24
theorem ln25 (xs : List AV) (n : Nat) (f : Bool) : abuiltin Tryz.prog .len [25] [.sl xs n f] = some (.v (.int .i64 n)) := abuiltin_len_sl Tryz.underlying25
theorem lo25 (j o n : Nat) : abuiltin Tryz.prog .len [25] [.own j o n] = some (.v (.int .i64 n)) := abuiltin_len_own Tryz.underlying25
theorem lz25 (n c : Nat) : abuiltin Tryz.prog .len [25] [.v (.slice none n c)] = some (.v (.int .i64 n)) := abuiltin_len_nil Tryz.underlying25
attribute [go_sem] ln25 lo25 lz25
theorem mi25 (H : Heap) (ρ : Operand → AV) (x : Operand) : apure Tryz.prog H ρ (.makeInterface 25 x) = some (.ifc 25 (ρ x)) := by simp only [apure, Tryz.underlying25]
attribute [go_sem] mi25
theorem mi26 (H : Heap) (ρ : Operand → AV) (x : Operand) : apure Tryz.prog H ρ (.makeInterface 26 x) = some (.ifc 26 (ρ x)) := by simp only [apure, Tryz.underlying26]
attribute [go_sem] mi26
theorem mi27 (H : Heap) (ρ : Operand → AV) (x : Operand) : apure Tryz.prog H ρ (.makeInterface 27 x) = some (.ifc 27 (ρ x)) := by simp only [apure, Tryz.underlying27]
attribute [go_sem] mi27
theorem mi28 (H : Heap) (ρ : Operand → AV) (x : Operand) : apure Tryz.prog H ρ (.makeInterface 28 x) = some (.ifc 28 (ρ x)) := by simp only [apure, Tryz.underlying28]
attribute [go_sem] mi28
theorem mi29 (H : Heap) (ρ : Operand → AV) (x : Operand) : apure Tryz.prog H ρ (.makeInterface 29 x) = some (.ifc 29 (ρ x)) := by simp only [apure, Tryz.underlying29]
attribute [go_sem] mi29
theorem mi30 (H : Heap) (ρ : Operand → AV) (x : Operand) : apure Tryz.prog H ρ (.makeInterface 30 x) = some (.ifc 30 (ρ x)) := by simp only [apure, Tryz.underlying30]
attribute [go_sem] mi30
theorem mi31 (H : Heap) (ρ : Operand → AV) (x : Operand) : apure Tryz.prog H ρ (.makeInterface 31 x) = some (.ifc 31 (ρ x)) := by simp only [apure, Tryz.underlying31]
attribute [go_sem] mi31
theorem mi32 (H : Heap) (ρ : Operand → AV) (x : Operand) : apure Tryz.prog H ρ (.makeInterface 32 x) = some (.ifc 32 (ρ x)) := by simp only [apure, Tryz.underlying32]
attribute [go_sem] mi32
theorem mi33 (H : Heap) (ρ : Operand → AV) (x : Operand) : apure Tryz.prog H ρ (.makeInterface 33 x) = some (.ifc 33 (ρ x)) := by simp only [apure, Tryz.underlying33]
attribute [go_sem] mi33
theorem mi34 (H : Heap) (ρ : Operand → AV) (x : Operand) : apure Tryz.prog H ρ (.makeInterface 34 x) = some (.ifc 34 (ρ x)) := by simp only [apure, Tryz.underlying34]
attribute [go_sem] mi34
theorem mi35 (H : Heap) (ρ : Operand → AV) (x : Operand) : apure Tryz.prog H ρ (.makeInterface 35 x) = some (.ifc 35 (ρ x)) := by simp only [apure, Tryz.underlying35]
attribute [go_sem] mi35
theorem ln36 (xs : List AV) (n : Nat) (f : Bool) : abuiltin Tryz.prog .len [36] [.sl xs n f] = some (.v (.int .i64 n)) := abuiltin_len_sl Tryz.underlying36
theorem lo36 (j o n : Nat) : abuiltin Tryz.prog .len [36] [.own j o n] = some (.v (.int .i64 n)) := abuiltin_len_own Tryz.underlying36
theorem lz36 (n c : Nat) : abuiltin Tryz.prog .len [36] [.v (.slice none n c)] = some (.v (.int .i64 n)) := abuiltin_len_nil Tryz.underlying36
attribute [go_sem] ln36 lo36 lz36
theorem mi36 (H : Heap) (ρ : Operand → AV) (x : Operand) : apure Tryz.prog H ρ (.makeInterface 36 x) = some (.ifc 36 (ρ x)) := by simp only [apure, Tryz.underlying36]
attribute [go_sem] mi36
theorem mi37 (H : Heap) (ρ : Operand → AV) (x : Operand) : apure Tryz.prog H ρ (.makeInterface 37 x) = some (.ifc 37 (ρ x)) := by simp only [apure, Tryz.underlying37]
attribute [go_sem] mi37
theorem mi38 (H : Heap) (ρ : Operand → AV) (x : Operand) : apure Tryz.prog H ρ (.makeInterface 38 x) = some (.ifc 38 (ρ x)) := by simp only [apure, Tryz.underlying38]
attribute [go_sem] mi38
theorem mi39 (H : Heap) (ρ : Operand → AV) (x : Operand) : apure Tryz.prog H ρ (.makeInterface 39 x) = some (.ifc 39 (ρ x)) := by simp only [apure, Tryz.underlying39]
attribute [go_sem] mi39
theorem mi40 (H : Heap) (ρ : Operand → AV) (x : Operand) : apure Tryz.prog H ρ (.makeInterface 40 x) = some (.ifc 40 (ρ x)) := by simp only [apure, Tryz.underlying40]
attribute [go_sem] mi40
theorem mi41 (H : Heap) (ρ : Operand → AV) (x : Operand) : apure Tryz.prog H ρ (.makeInterface 41 x) = some (.ifc 41 (ρ x)) := by simp only [apure, Tryz.underlying41]
attribute [go_sem] mi41
theorem mi42 (H : Heap) (ρ : Operand → AV) (x : Operand) : apure Tryz.prog H ρ (.makeInterface 42 x) = some (.ifc 42 (ρ x)) := by simp only [apure, Tryz.underlying42]
attribute [go_sem] mi42
theorem mi43 (H : Heap) (ρ : Operand → AV) (x : Operand) : apure Tryz.prog H ρ (.makeInterface 43 x) = some (.ifc 43 (ρ x)) := by simp only [apure, Tryz.underlying43]
attribute [go_sem] mi43
theorem mi44 (H : Heap) (ρ : Operand → AV) (x : Operand) : apure Tryz.prog H ρ (.makeInterface 44 x) = some (.ifc 44 (ρ x)) := by simp only [apure, Tryz.underlying44]
attribute [go_sem] mi44
theorem mi45 (H : Heap) (ρ : Operand → AV) (x : Operand) : apure Tryz.prog H ρ (.makeInterface 45 x) = some (.ifc 45 (ρ x)) := by simp only [apure, Tryz.underlying45]
attribute [go_sem] mi45
theorem mi46 (H : Heap) (ρ : Operand → AV) (x : Operand) : apure Tryz.prog H ρ (.makeInterface 46 x) = some (.ifc 46 (ρ x)) := by simp only [apure, Tryz.underlying46]
attribute [go_sem] mi46
theorem mi47 (H : Heap) (ρ : Operand → AV) (x : Operand) : apure Tryz.prog H ρ (.makeInterface 47 x) = some (.ifc 47 (ρ x)) := by simp only [apure, Tryz.underlying47]
attribute [go_sem] mi47
theorem mi48 (H : Heap) (ρ : Operand → AV) (x : Operand) : apure Tryz.prog H ρ (.makeInterface 48 x) = some (.ifc 48 (ρ x)) := by simp only [apure, Tryz.underlying48]
attribute [go_sem] mi48
theorem mi49 (H : Heap) (ρ : Operand → AV) (x : Operand) : apure Tryz.prog H ρ (.makeInterface 49 x) = some (.ifc 49 (ρ x)) := by simp only [apure, Tryz.underlying49]
attribute [go_sem] mi49
theorem mi50 (H : Heap) (ρ : Operand → AV) (x : Operand) : apure Tryz.prog H ρ (.makeInterface 50 x) = some (.ifc 50 (ρ x)) := by simp only [apure, Tryz.underlying50]
attribute [go_sem] mi50
theorem mi51 (H : Heap) (ρ : Operand → AV) (x : Operand) : apure Tryz.prog H ρ (.makeInterface 51 x) = some (.ifc 51 (ρ x)) := by simp only [apure, Tryz.underlying51]
attribute [go_sem] mi51
theorem mi52 (H : Heap) (ρ : Operand → AV) (x : Operand) : apure Tryz.prog H ρ (.makeInterface 52 x) = some (.ifc 52 (ρ x)) := by simp only [apure, Tryz.underlying52]
attribute [go_sem] mi52
theorem mi53 (H : Heap) (ρ : Operand → AV) (x : Operand) : apure Tryz.prog H ρ (.makeInterface 53 x) = some (.ifc 53 (ρ x)) := by simp only [apure, Tryz.underlying53]
attribute [go_sem] mi53
theorem mi54 (H : Heap) (ρ : Operand → AV) (x : Operand) : apure Tryz.prog H ρ (.makeInterface 54 x) = some (.ifc 54 (ρ x)) := by simp only [apure, Tryz.underlying54]
attribute [go_sem] mi54
theorem mi55 (H : Heap) (ρ : Operand → AV) (x : Operand) : apure Tryz.prog H ρ (.makeInterface 55 x) = some (.ifc 55 (ρ x)) := by simp only [apure, Tryz.underlying55]
attribute [go_sem] mi55
theorem mi56 (H : Heap) (ρ : Operand → AV) (x : Operand) : apure Tryz.prog H ρ (.makeInterface 56 x) = some (.ifc 56 (ρ x)) := by simp only [apure, Tryz.underlying56]
attribute [go_sem] mi56
theorem mi57 (H : Heap) (ρ : Operand → AV) (x : Operand) : apure Tryz.prog H ρ (.makeInterface 57 x) = some (.ifc 57 (ρ x)) := by simp only [apure, Tryz.underlying57]
attribute [go_sem] mi57
theorem mi58 (H : Heap) (ρ : Operand → AV) (x : Operand) : apure Tryz.prog H ρ (.makeInterface 58 x) = some (.ifc 58 (ρ x)) := by simp only [apure, Tryz.underlying58]
attribute [go_sem] mi58
theorem mi59 (H : Heap) (ρ : Operand → AV) (x : Operand) : apure Tryz.prog H ρ (.makeInterface 59 x) = some (.ifc 59 (ρ x)) := by simp only [apure, Tryz.underlying59]
attribute [go_sem] mi59
theorem mi60 (H : Heap) (ρ : Operand → AV) (x : Operand) : apure Tryz.prog H ρ (.makeInterface 60 x) = some (.ifc 60 (ρ x)) := by simp only [apure, Tryz.underlying60]
attribute [go_sem] mi60
theorem mi61 (H : Heap) (ρ : Operand → AV) (x : Operand) : apure Tryz.prog H ρ (.makeInterface 61 x) = some (.ifc 61 (ρ x)) := by simp only [apure, Tryz.underlying61]
attribute [go_sem] mi61
theorem mi62 (H : Heap) (ρ : Operand → AV) (x : Operand) : apure Tryz.prog H ρ (.makeInterface 62 x) = some (.ifc 62 (ρ x)) := by simp only [apure, Tryz.underlying62]
attribute [go_sem] mi62
theorem mi63 (H : Heap) (ρ : Operand → AV) (x : Operand) : apure Tryz.prog H ρ (.makeInterface 63 x) = some (.ifc 63 (ρ x)) := by simp only [apure, Tryz.underlying63]
attribute [go_sem] mi63
theorem mi64 (H : Heap) (ρ : Operand → AV) (x : Operand) : apure Tryz.prog H ρ (.makeInterface 64 x) = some (.ifc 64 (ρ x)) := by simp only [apure, Tryz.underlying64]
attribute [go_sem] mi64
theorem mi65 (H : Heap) (ρ : Operand → AV) (x : Operand) : apure Tryz.prog H ρ (.makeInterface 65 x) = some (.ifc 65 (ρ x)) := by simp only [apure, Tryz.underlying65]
attribute [go_sem] mi65
theorem mi66 (H : Heap) (ρ : Operand → AV) (x : Operand) : apure Tryz.prog H ρ (.makeInterface 66 x) = some (.ifc 66 (ρ x)) := by simp only [apure, Tryz.underlying66]
attribute [go_sem] mi66
theorem mi67 (H : Heap) (ρ : Operand → AV) (x : Operand) : apure Tryz.prog H ρ (.makeInterface 67 x) = some (.ifc 67 (ρ x)) := by simp only [apure, Tryz.underlying67]
attribute [go_sem] mi67
theorem mi68 (H : Heap) (ρ : Operand → AV) (x : Operand) : apure Tryz.prog H ρ (.makeInterface 68 x) = some (.ifc 68 (ρ x)) := by simp only [apure, Tryz.underlying68]
attribute [go_sem] mi68
theorem mi69 (H : Heap) (ρ : Operand → AV) (x : Operand) : apure Tryz.prog H ρ (.makeInterface 69 x) = some (.ifc 69 (ρ x)) := by simp only [apure, Tryz.underlying69]
attribute [go_sem] mi69
theorem mi70 (H : Heap) (ρ : Operand → AV) (x : Operand) : apure Tryz.prog H ρ (.makeInterface 70 x) = some (.ifc 70 (ρ x)) := by simp only [apure, Tryz.underlying70]
attribute [go_sem] mi70
theorem mi71 (H : Heap) (ρ : Operand → AV) (x : Operand) : apure Tryz.prog H ρ (.makeInterface 71 x) = some (.ifc 71 (ρ x)) := by simp only [apure, Tryz.underlying71]
attribute [go_sem] mi71
theorem mi72 (H : Heap) (ρ : Operand → AV) (x : Operand) : apure Tryz.prog H ρ (.makeInterface 72 x) = some (.ifc 72 (ρ x)) := by simp only [apure, Tryz.underlying72]
attribute [go_sem] mi72
theorem mi73 (H : Heap) (ρ : Operand → AV) (x : Operand) : apure Tryz.prog H ρ (.makeInterface 73 x) = some (.ifc 73 (ρ x)) := by simp only [apure, Tryz.underlying73]
attribute [go_sem] mi73
theorem mi74 (H : Heap) (ρ : Operand → AV) (x : Operand) : apure Tryz.prog H ρ (.makeInterface 74 x) = some (.ifc 74 (ρ x)) := by simp only [apure, Tryz.underlying74]
attribute [go_sem] mi74
theorem mi75 (H : Heap) (ρ : Operand → AV) (x : Operand) : apure Tryz.prog H ρ (.makeInterface 75 x) = some (.ifc 75 (ρ x)) := by simp only [apure, Tryz.underlying75]
attribute [go_sem] mi75
theorem mi76 (H : Heap) (ρ : Operand → AV) (x : Operand) : apure Tryz.prog H ρ (.makeInterface 76 x) = some (.ifc 76 (ρ x)) := by simp only [apure, Tryz.underlying76]
attribute [go_sem] mi76
theorem ln77 (xs : List AV) (n : Nat) (f : Bool) : abuiltin Tryz.prog .len [77] [.sl xs n f] = some (.v (.int .i64 n)) := abuiltin_len_sl Tryz.underlying77
theorem lo77 (j o n : Nat) : abuiltin Tryz.prog .len [77] [.own j o n] = some (.v (.int .i64 n)) := abuiltin_len_own Tryz.underlying77
theorem lz77 (n c : Nat) : abuiltin Tryz.prog .len [77] [.v (.slice none n c)] = some (.v (.int .i64 n)) := abuiltin_len_nil Tryz.underlying77
attribute [go_sem] ln77 lo77 lz77
theorem mi77 (H : Heap) (ρ : Operand → AV) (x : Operand) : apure Tryz.prog H ρ (.makeInterface 77 x) = some (.ifc 77 (ρ x)) := by simp only [apure, Tryz.underlying77]
attribute [go_sem] mi77
theorem mi78 (H : Heap) (ρ : Operand → AV) (x : Operand) : apure Tryz.prog H ρ (.makeInterface 78 x) = some (.ifc 78 (ρ x)) := by simp only [apure, Tryz.underlying78]
attribute [go_sem] mi78
theorem mi79 (H : Heap) (ρ : Operand → AV) (x : Operand) : apure Tryz.prog H ρ (.makeInterface 79 x) = some (.ifc 79 (ρ x)) := by simp only [apure, Tryz.underlying79]
attribute [go_sem] mi79
theorem mi80 (H : Heap) (ρ : Operand → AV) (x : Operand) : apure Tryz.prog H ρ (.makeInterface 80 x) = some (.ifc 80 (ρ x)) := by simp only [apure, Tryz.underlying80]
attribute [go_sem] mi80
theorem mi81 (H : Heap) (ρ : Operand → AV) (x : Operand) : apure Tryz.prog H ρ (.makeInterface 81 x) = some (.ifc 81 (ρ x)) := by simp only [apure, Tryz.underlying81]
attribute [go_sem] mi81
theorem ln82 (xs : List AV) (n : Nat) (f : Bool) : abuiltin Tryz.prog .len [82] [.sl xs n f] = some (.v (.int .i64 n)) := abuiltin_len_sl Tryz.underlying82
theorem lo82 (j o n : Nat) : abuiltin Tryz.prog .len [82] [.own j o n] = some (.v (.int .i64 n)) := abuiltin_len_own Tryz.underlying82
theorem lz82 (n c : Nat) : abuiltin Tryz.prog .len [82] [.v (.slice none n c)] = some (.v (.int .i64 n)) := abuiltin_len_nil Tryz.underlying82
attribute [go_sem] ln82 lo82 lz82
theorem mi82 (H : Heap) (ρ : Operand → AV) (x : Operand) : apure Tryz.prog H ρ (.makeInterface 82 x) = some (.ifc 82 (ρ x)) := by simp only [apure, Tryz.underlying82]
attribute [go_sem] mi82
theorem mi83 (H : Heap) (ρ : Operand → AV) (x : Operand) : apure Tryz.prog H ρ (.makeInterface 83 x) = some (.ifc 83 (ρ x)) := by simp only [apure, Tryz.underlying83]
attribute [go_sem] mi83
theorem mi84 (H : Heap) (ρ : Operand → AV) (x : Operand) : apure Tryz.prog H ρ (.makeInterface 84 x) = some (.ifc 84 (ρ x)) := by simp only [apure, Tryz.underlying84]
attribute [go_sem] mi84
theorem mi85 (H : Heap) (ρ : Operand → AV) (x : Operand) : apure Tryz.prog H ρ (.makeInterface 85 x) = some (.ifc 85 (ρ x)) := by simp only [apure, Tryz.underlying85]
attribute [go_sem] mi85
theorem mi86 (H : Heap) (ρ : Operand → AV) (x : Operand) : apure Tryz.prog H ρ (.makeInterface 86 x) = some (.ifc 86 (ρ x)) := by simp only [apure, Tryz.underlying86]
attribute [go_sem] mi86
theorem mi87 (H : Heap) (ρ : Operand → AV) (x : Operand) : apure Tryz.prog H ρ (.makeInterface 87 x) = some (.ifc 87 (ρ x)) := by simp only [apure, Tryz.underlying87]
attribute [go_sem] mi87
theorem mi88 (H : Heap) (ρ : Operand → AV) (x : Operand) : apure Tryz.prog H ρ (.makeInterface 88 x) = some (.ifc 88 (ρ x)) := by simp only [apure, Tryz.underlying88]
attribute [go_sem] mi88
theorem mi89 (H : Heap) (ρ : Operand → AV) (x : Operand) : apure Tryz.prog H ρ (.makeInterface 89 x) = some (.ifc 89 (ρ x)) := by simp only [apure, Tryz.underlying89]
attribute [go_sem] mi89
theorem mi90 (H : Heap) (ρ : Operand → AV) (x : Operand) : apure Tryz.prog H ρ (.makeInterface 90 x) = some (.ifc 90 (ρ x)) := by simp only [apure, Tryz.underlying90]
attribute [go_sem] mi90
theorem mi91 (H : Heap) (ρ : Operand → AV) (x : Operand) : apure Tryz.prog H ρ (.makeInterface 91 x) = some (.ifc 91 (ρ x)) := by simp only [apure, Tryz.underlying91]
attribute [go_sem] mi91
theorem mi92 (H : Heap) (ρ : Operand → AV) (x : Operand) : apure Tryz.prog H ρ (.makeInterface 92 x) = some (.ifc 92 (ρ x)) := by simp only [apure, Tryz.underlying92]
attribute [go_sem] mi92
theorem mi93 (H : Heap) (ρ : Operand → AV) (x : Operand) : apure Tryz.prog H ρ (.makeInterface 93 x) = some (.ifc 93 (ρ x)) := by simp only [apure, Tryz.underlying93]
attribute [go_sem] mi93
theorem mi94 (H : Heap) (ρ : Operand → AV) (x : Operand) : apure Tryz.prog H ρ (.makeInterface 94 x) = some (.ifc 94 (ρ x)) := by simp only [apure, Tryz.underlying94]
attribute [go_sem] mi94
theorem mi95 (H : Heap) (ρ : Operand → AV) (x : Operand) : apure Tryz.prog H ρ (.makeInterface 95 x) = some (.ifc 95 (ρ x)) := by simp only [apure, Tryz.underlying95]
attribute [go_sem] mi95
theorem mi96 (H : Heap) (ρ : Operand → AV) (x : Operand) : apure Tryz.prog H ρ (.makeInterface 96 x) = some (.ifc 96 (ρ x)) := by simp only [apure, Tryz.underlying96]
attribute [go_sem] mi96
theorem mi97 (H : Heap) (ρ : Operand → AV) (x : Operand) : apure Tryz.prog H ρ (.makeInterface 97 x) = some (.ifc 97 (ρ x)) := by simp only [apure, Tryz.underlying97]
attribute [go_sem] mi97
theorem mi98 (H : Heap) (ρ : Operand → AV) (x : Operand) : apure Tryz.prog H ρ (.makeInterface 98 x) = some (.ifc 98 (ρ x)) := by simp only [apure, Tryz.underlying98]
attribute [go_sem] mi98
theorem mi99 (H : Heap) (ρ : Operand → AV) (x : Operand) : apure Tryz.prog H ρ (.makeInterface 99 x) = some (.ifc 99 (ρ x)) := by simp only [apure, Tryz.underlying99]
attribute [go_sem] mi99
theorem mi100 (H : Heap) (ρ : Operand → AV) (x : Operand) : apure Tryz.prog H ρ (.makeInterface 100 x) = some (.ifc 100 (ρ x)) := by simp only [apure, Tryz.underlying100]
attribute [go_sem] mi100
theorem mi101 (H : Heap) (ρ : Operand → AV) (x : Operand) : apure Tryz.prog H ρ (.makeInterface 101 x) = some (.ifc 101 (ρ x)) := by simp only [apure, Tryz.underlying101]
attribute [go_sem] mi101
theorem mi102 (H : Heap) (ρ : Operand → AV) (x : Operand) : apure Tryz.prog H ρ (.makeInterface 102 x) = some (.ifc 102 (ρ x)) := by simp only [apure, Tryz.underlying102]
attribute [go_sem] mi102
theorem mi103 (H : Heap) (ρ : Operand → AV) (x : Operand) : apure Tryz.prog H ρ (.makeInterface 103 x) = some (.ifc 103 (ρ x)) := by simp only [apure, Tryz.underlying103]
attribute [go_sem] mi103
theorem mi104 (H : Heap) (ρ : Operand → AV) (x : Operand) : apure Tryz.prog H ρ (.makeInterface 104 x) = some (.ifc 104 (ρ x)) := by simp only [apure, Tryz.underlying104]
attribute [go_sem] mi104
theorem mi105 (H : Heap) (ρ : Operand → AV) (x : Operand) : apure Tryz.prog H ρ (.makeInterface 105 x) = some (.ifc 105 (ρ x)) := by simp only [apure, Tryz.underlying105]
attribute [go_sem] mi105
theorem ln106 (xs : List AV) (n : Nat) (f : Bool) : abuiltin Tryz.prog .len [106] [.sl xs n f] = some (.v (.int .i64 n)) := abuiltin_len_sl Tryz.underlying106
theorem lo106 (j o n : Nat) : abuiltin Tryz.prog .len [106] [.own j o n] = some (.v (.int .i64 n)) := abuiltin_len_own Tryz.underlying106
theorem lz106 (n c : Nat) : abuiltin Tryz.prog .len [106] [.v (.slice none n c)] = some (.v (.int .i64 n)) := abuiltin_len_nil Tryz.underlying106
attribute [go_sem] ln106 lo106 lz106
theorem mi106 (H : Heap) (ρ : Operand → AV) (x : Operand) : apure Tryz.prog H ρ (.makeInterface 106 x) = some (.ifc 106 (ρ x)) := by simp only [apure, Tryz.underlying106]
attribute [go_sem] mi106
theorem mi107 (H : Heap) (ρ : Operand → AV) (x : Operand) : apure Tryz.prog H ρ (.makeInterface 107 x) = some (.ifc 107 (ρ x)) := by simp only [apure, Tryz.underlying107]
attribute [go_sem] mi107
theorem mi108 (H : Heap) (ρ : Operand → AV) (x : Operand) : apure Tryz.prog H ρ (.makeInterface 108 x) = some (.ifc 108 (ρ x)) := by simp only [apure, Tryz.underlying108]
attribute [go_sem] mi108
theorem mi109 (H : Heap) (ρ : Operand → AV) (x : Operand) : apure Tryz.prog H ρ (.makeInterface 109 x) = some (.ifc 109 (ρ x)) := by simp only [apure, Tryz.underlying109]
attribute [go_sem] mi109
theorem mi110 (H : Heap) (ρ : Operand → AV) (x : Operand) : apure Tryz.prog H ρ (.makeInterface 110 x) = some (.ifc 110 (ρ x)) := by simp only [apure, Tryz.underlying110]
attribute [go_sem] mi110
theorem ln111 (xs : List AV) (n : Nat) (f : Bool) : abuiltin Tryz.prog .len [111] [.sl xs n f] = some (.v (.int .i64 n)) := abuiltin_len_sl Tryz.underlying111
theorem lo111 (j o n : Nat) : abuiltin Tryz.prog .len [111] [.own j o n] = some (.v (.int .i64 n)) := abuiltin_len_own Tryz.underlying111
theorem lz111 (n c : Nat) : abuiltin Tryz.prog .len [111] [.v (.slice none n c)] = some (.v (.int .i64 n)) := abuiltin_len_nil Tryz.underlying111
attribute [go_sem] ln111 lo111 lz111
theorem mi111 (H : Heap) (ρ : Operand → AV) (x : Operand) : apure Tryz.prog H ρ (.makeInterface 111 x) = some (.ifc 111 (ρ x)) := by simp only [apure, Tryz.underlying111]
attribute [go_sem] mi111
theorem mi112 (H : Heap) (ρ : Operand → AV) (x : Operand) : apure Tryz.prog H ρ (.makeInterface 112 x) = some (.ifc 112 (ρ x)) := by simp only [apure, Tryz.underlying112]
attribute [go_sem] mi112
theorem mi113 (H : Heap) (ρ : Operand → AV) (x : Operand) : apure Tryz.prog H ρ (.makeInterface 113 x) = some (.ifc 113 (ρ x)) := by simp only [apure, Tryz.underlying113]
attribute [go_sem] mi113
theorem mi114 (H : Heap) (ρ : Operand → AV) (x : Operand) : apure Tryz.prog H ρ (.makeInterface 114 x) = some (.ifc 114 (ρ x)) := by simp only [apure, Tryz.underlying114]
attribute [go_sem] mi114
theorem mi115 (H : Heap) (ρ : Operand → AV) (x : Operand) : apure Tryz.prog H ρ (.makeInterface 115 x) = some (.ifc 115 (ρ x)) := by simp only [apure, Tryz.underlying115]
attribute [go_sem] mi115
theorem mi116 (H : Heap) (ρ : Operand → AV) (x : Operand) : apure Tryz.prog H ρ (.makeInterface 116 x) = some (.ifc 116 (ρ x)) := by simp only [apure, Tryz.underlying116]
attribute [go_sem] mi116
theorem mi117 (H : Heap) (ρ : Operand → AV) (x : Operand) : apure Tryz.prog H ρ (.makeInterface 117 x) = some (.ifc 117 (ρ x)) := by simp only [apure, Tryz.underlying117]
attribute [go_sem] mi117
theorem mi118 (H : Heap) (ρ : Operand → AV) (x : Operand) : apure Tryz.prog H ρ (.makeInterface 118 x) = some (.ifc 118 (ρ x)) := by simp only [apure, Tryz.underlying118]
attribute [go_sem] mi118
theorem mi119 (H : Heap) (ρ : Operand → AV) (x : Operand) : apure Tryz.prog H ρ (.makeInterface 119 x) = some (.ifc 119 (ρ x)) := by simp only [apure, Tryz.underlying119]
attribute [go_sem] mi119
theorem mi120 (H : Heap) (ρ : Operand → AV) (x : Operand) : apure Tryz.prog H ρ (.makeInterface 120 x) = some (.ifc 120 (ρ x)) := by simp only [apure, Tryz.underlying120]
attribute [go_sem] mi120
theorem mi121 (H : Heap) (ρ : Operand → AV) (x : Operand) : apure Tryz.prog H ρ (.makeInterface 121 x) = some (.ifc 121 (ρ x)) := by simp only [apure, Tryz.underlying121]
attribute [go_sem] mi121
theorem mi122 (H : Heap) (ρ : Operand → AV) (x : Operand) : apure Tryz.prog H ρ (.makeInterface 122 x) = some (.ifc 122 (ρ x)) := by simp only [apure, Tryz.underlying122]
attribute [go_sem] mi122
theorem mi123 (H : Heap) (ρ : Operand → AV) (x : Operand) : apure Tryz.prog H ρ (.makeInterface 123 x) = some (.ifc 123 (ρ x)) := by simp only [apure, Tryz.underlying123]
attribute [go_sem] mi123
theorem mi124 (H : Heap) (ρ : Operand → AV) (x : Operand) : apure Tryz.prog H ρ (.makeInterface 124 x) = some (.ifc 124 (ρ x)) := by simp only [apure, Tryz.underlying124]
attribute [go_sem] mi124
theorem mi125 (H : Heap) (ρ : Operand → AV) (x : Operand) : apure Tryz.prog H ρ (.makeInterface 125 x) = some (.ifc 125 (ρ x)) := by simp only [apure, Tryz.underlying125]
attribute [go_sem] mi125
theorem mi126 (H : Heap) (ρ : Operand → AV) (x : Operand) : apure Tryz.prog H ρ (.makeInterface 126 x) = some (.ifc 126 (ρ x)) := by simp only [apure, Tryz.underlying126]
attribute [go_sem] mi126
theorem mi129 (H : Heap) (ρ : Operand → AV) (x : Operand) : apure Tryz.prog H ρ (.makeInterface 129 x) = some (.ifc 129 (ρ x)) := by simp only [apure, Tryz.underlying129]
attribute [go_sem] mi129
theorem mi130 (H : Heap) (ρ : Operand → AV) (x : Operand) : apure Tryz.prog H ρ (.makeInterface 130 x) = some (.ifc 130 (ρ x)) := by simp only [apure, Tryz.underlying130]
attribute [go_sem] mi130
theorem mi131 (H : Heap) (ρ : Operand → AV) (x : Operand) : apure Tryz.prog H ρ (.makeInterface 131 x) = some (.ifc 131 (ρ x)) := by simp only [apure, Tryz.underlying131]
attribute [go_sem] mi131
theorem mi132 (H : Heap) (ρ : Operand → AV) (x : Operand) : apure Tryz.prog H ρ (.makeInterface 132 x) = some (.ifc 132 (ρ x)) := by simp only [apure, Tryz.underlying132]
attribute [go_sem] mi132
theorem mi133 (H : Heap) (ρ : Operand → AV) (x : Operand) : apure Tryz.prog H ρ (.makeInterface 133 x) = some (.ifc 133 (ρ x)) := by simp only [apure, Tryz.underlying133]
attribute [go_sem] mi133
theorem mi134 (H : Heap) (ρ : Operand → AV) (x : Operand) : apure Tryz.prog H ρ (.makeInterface 134 x) = some (.ifc 134 (ρ x)) := by simp only [apure, Tryz.underlying134]
attribute [go_sem] mi134
theorem mi135 (H : Heap) (ρ : Operand → AV) (x : Operand) : apure Tryz.prog H ρ (.makeInterface 135 x) = some (.ifc 135 (ρ x)) := by simp only [apure, Tryz.underlying135]
attribute [go_sem] mi135
theorem mi136 (H : Heap) (ρ : Operand → AV) (x : Operand) : apure Tryz.prog H ρ (.makeInterface 136 x) = some (.ifc 136 (ρ x)) := by simp only [apure, Tryz.underlying136]
attribute [go_sem] mi136
theorem mi137 (H : Heap) (ρ : Operand → AV) (x : Operand) : apure Tryz.prog H ρ (.makeInterface 137 x) = some (.ifc 137 (ρ x)) := by simp only [apure, Tryz.underlying137]
attribute [go_sem] mi137
theorem mi138 (H : Heap) (ρ : Operand → AV) (x : Operand) : apure Tryz.prog H ρ (.makeInterface 138 x) = some (.ifc 138 (ρ x)) := by simp only [apure, Tryz.underlying138]
attribute [go_sem] mi138
theorem mi139 (H : Heap) (ρ : Operand → AV) (x : Operand) : apure Tryz.prog H ρ (.makeInterface 139 x) = some (.ifc 139 (ρ x)) := by simp only [apure, Tryz.underlying139]
attribute [go_sem] mi139
theorem mi140 (H : Heap) (ρ : Operand → AV) (x : Operand) : apure Tryz.prog H ρ (.makeInterface 140 x) = some (.ifc 140 (ρ x)) := by simp only [apure, Tryz.underlying140]
attribute [go_sem] mi140
theorem mi141 (H : Heap) (ρ : Operand → AV) (x : Operand) : apure Tryz.prog H ρ (.makeInterface 141 x) = some (.ifc 141 (ρ x)) := by simp only [apure, Tryz.underlying141]
attribute [go_sem] mi141
theorem mi142 (H : Heap) (ρ : Operand → AV) (x : Operand) : apure Tryz.prog H ρ (.makeInterface 142 x) = some (.ifc 142 (ρ x)) := by simp only [apure, Tryz.underlying142]
attribute [go_sem] mi142
theorem mi143 (H : Heap) (ρ : Operand → AV) (x : Operand) : apure Tryz.prog H ρ (.makeInterface 143 x) = some (.ifc 143 (ρ x)) := by simp only [apure, Tryz.underlying143]
attribute [go_sem] mi143
theorem mi144 (H : Heap) (ρ : Operand → AV) (x : Operand) : apure Tryz.prog H ρ (.makeInterface 144 x) = some (.ifc 144 (ρ x)) := by simp only [apure, Tryz.underlying144]
attribute [go_sem] mi144
attribute [go_sem] Tryz.underlying0 sz0 Tryz.underlying1 sz1 Tryz.underlying2 sz2 Tryz.underlying3 sz3 Tryz.underlying4 sz4 Tryz.underlying5 sz5 Tryz.underlying6 sz6 Tryz.underlying7 sz7 Tryz.underlying8 sz8 Tryz.underlying9 sz9 Tryz.underlying10 sz10 Tryz.underlying11 sz11 Tryz.underlying12 sz12 Tryz.underlying13 sz13 Tryz.underlying14 sz14 Tryz.underlying15 sz15 Tryz.underlying16 sz16 Tryz.underlying17 sz17 Tryz.underlying18 sz18 Tryz.underlying19 sz19 Tryz.underlying20 sz20 Tryz.underlying21 sz21 Tryz.underlying22 sz22 Tryz.underlying23 sz23 Tryz.underlying24 sz24 Tryz.underlying25 sz25 Tryz.underlying26 sz26 Tryz.underlying27 sz27 Tryz.underlying28 sz28 Tryz.underlying29 sz29 Tryz.underlying30 sz30 Tryz.underlying31 sz31 Tryz.underlying32 sz32 Tryz.underlying33 sz33 Tryz.underlying34 sz34 Tryz.underlying35 sz35 Tryz.underlying36 sz36 Tryz.underlying37 sz37 Tryz.underlying38 sz38 Tryz.underlying39 sz39 Tryz.underlying40 sz40 Tryz.underlying41 sz41 Tryz.underlying42 sz42 Tryz.underlying43 sz43 Tryz.underlying44 sz44 Tryz.underlying45 sz45 Tryz.underlying46 sz46 Tryz.underlying47 sz47 Tryz.underlying48 sz48 Tryz.underlying49 sz49 Tryz.underlying50 sz50 Tryz.underlying51 sz51 Tryz.underlying52 sz52 Tryz.underlying53 sz53 Tryz.underlying54 sz54 Tryz.underlying55 sz55 Tryz.underlying56 sz56 Tryz.underlying57 sz57 Tryz.underlying58 sz58 Tryz.underlying59 sz59 Tryz.underlying60 sz60 Tryz.underlying61 sz61 Tryz.underlying62 sz62 Tryz.underlying63 sz63 Tryz.underlying64 sz64 Tryz.underlying65 sz65 Tryz.underlying66 sz66 Tryz.underlying67 sz67 Tryz.underlying68 sz68 Tryz.underlying69 sz69 Tryz.underlying70 sz70 Tryz.underlying71 sz71 Tryz.underlying72 sz72 Tryz.underlying73 sz73 Tryz.underlying74 sz74 Tryz.underlying75 sz75 Tryz.underlying76 sz76 Tryz.underlying77 sz77 Tryz.underlying78 sz78 Tryz.underlying79 sz79 Tryz.underlying80 sz80 Tryz.underlying81 sz81 Tryz.underlying82 sz82 Tryz.underlying83 sz83 Tryz.underlying84 sz84 Tryz.underlying85 sz85 Tryz.underlying86 sz86 Tryz.underlying87 sz87 Tryz.underlying88 sz88 Tryz.underlying89 sz89 Tryz.underlying90 sz90 Tryz.underlying91 sz91 Tryz.underlying92 sz92 Tryz.underlying93 sz93 Tryz.underlying94 sz94 Tryz.underlying95 sz95 Tryz.underlying96 sz96 Tryz.underlying97 sz97 Tryz.underlying98 sz98 Tryz.underlying99 sz99 Tryz.underlying100 sz100 Tryz.underlying101 sz101 Tryz.underlying102 sz102 Tryz.underlying103 sz103 Tryz.underlying104 sz104 Tryz.underlying105 sz105 Tryz.underlying106 sz106 Tryz.underlying107 sz107 Tryz.underlying108 sz108 Tryz.underlying109 sz109 Tryz.underlying110 sz110 Tryz.underlying111 sz111 Tryz.underlying112 sz112 Tryz.underlying113 sz113 Tryz.underlying114 sz114 Tryz.underlying115 sz115 Tryz.underlying116 sz116 Tryz.underlying117 sz117 Tryz.underlying118 sz118 Tryz.underlying119 sz119 Tryz.underlying120 sz120 Tryz.underlying121 sz121 Tryz.underlying122 sz122 Tryz.underlying123 sz123 Tryz.underlying124 sz124 Tryz.underlying125 sz125 Tryz.underlying126 sz126 Tryz.underlying127 sz127 Tryz.underlying128 sz128 Tryz.underlying129 sz129 Tryz.underlying130 sz130 Tryz.underlying131 sz131 Tryz.underlying132 sz132 Tryz.underlying133 sz133 Tryz.underlying134 sz134 Tryz.underlying135 sz135 Tryz.underlying136 sz136 Tryz.underlying137 sz137 Tryz.underlying138 sz138 Tryz.underlying139 sz139 Tryz.underlying140 sz140 Tryz.underlying141 sz141 Tryz.underlying142 sz142 Tryz.underlying143 sz143 Tryz.underlying144 sz144
end Go.Proofs.YtibnmlbjahcjmaaGreat
