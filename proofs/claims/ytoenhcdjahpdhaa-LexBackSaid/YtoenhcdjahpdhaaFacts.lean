/- Facts on the tables of types and functions of the translation, each by the kernel. -/
import Derived.Test.YtoenhcdjahpdhaaRows
import Derived.Test.YtoenhcdjahpdhaaAmB
set_option linter.unusedSimpArgs false
set_option linter.unusedVariables false
namespace Go.Proofs.Ytoenhcdjahpdhaa
open Go Go.AM
theorem sz0 : szOf Try.prog 0 = some 1 := by kernel_rfl
theorem in0 : Try.prog.info? 0 = some Try.t0 := by kernel_rfl
theorem ts0 : Try.t0.size = 1 := rfl
theorem tb0 : Try.t0.bytes = 0 := rfl
theorem tz0 : Try.t0.zero = some (Value.tuple #[]) := rfl
theorem zc0 : zeroCells? Try.prog 0 = some [.v (Value.tuple #[])] := by kernel_rfl
theorem sz1 : szOf Try.prog 1 = some 1 := by kernel_rfl
theorem in1 : Try.prog.info? 1 = some Try.t1 := by kernel_rfl
theorem ts1 : Try.t1.size = 1 := rfl
theorem tb1 : Try.t1.bytes = 8 := rfl
theorem tz1 : Try.t1.zero = some Value.nilFunc := rfl
theorem zc1 : zeroCells? Try.prog 1 = some [.v (Value.nilFunc)] := by kernel_rfl
theorem sz2 : szOf Try.prog 2 = some 1 := by kernel_rfl
theorem in2 : Try.prog.info? 2 = some Try.t2 := by kernel_rfl
theorem ts2 : Try.t2.size = 1 := rfl
theorem tb2 : Try.t2.bytes = 8 := rfl
theorem tz2 : Try.t2.zero = some (Value.int IntKind.i64 0) := rfl
theorem zc2 : zeroCells? Try.prog 2 = some [.v (Value.int IntKind.i64 0)] := by kernel_rfl
theorem sz3 : szOf Try.prog 3 = some 1 := by kernel_rfl
theorem in3 : Try.prog.info? 3 = some Try.t3 := by kernel_rfl
theorem ts3 : Try.t3.size = 1 := rfl
theorem tb3 : Try.t3.bytes = 8 := rfl
theorem tz3 : Try.t3.zero = some (Value.int IntKind.i64 0) := rfl
theorem zc3 : zeroCells? Try.prog 3 = some [.v (Value.int IntKind.i64 0)] := by kernel_rfl
theorem sz4 : szOf Try.prog 4 = some 1 := by kernel_rfl
theorem in4 : Try.prog.info? 4 = some Try.t4 := by kernel_rfl
theorem ts4 : Try.t4.size = 1 := rfl
theorem tb4 : Try.t4.bytes = 1 := rfl
theorem tz4 : Try.t4.zero = some (Value.bool false) := rfl
theorem zc4 : zeroCells? Try.prog 4 = some [.v (Value.bool false)] := by kernel_rfl
theorem sz5 : szOf Try.prog 5 = some 1 := by kernel_rfl
theorem in5 : Try.prog.info? 5 = some Try.t5 := by kernel_rfl
theorem ts5 : Try.t5.size = 1 := rfl
theorem tb5 : Try.t5.bytes = 1 := rfl
theorem tz5 : Try.t5.zero = some (Value.int IntKind.u8 0) := rfl
theorem zc5 : zeroCells? Try.prog 5 = some [.v (Value.int IntKind.u8 0)] := by kernel_rfl
theorem sz6 : szOf Try.prog 6 = some 1 := by kernel_rfl
theorem in6 : Try.prog.info? 6 = some Try.t6 := by kernel_rfl
theorem ts6 : Try.t6.size = 1 := rfl
theorem tb6 : Try.t6.bytes = 1 := rfl
theorem tz6 : Try.t6.zero = some (Value.int IntKind.u8 0) := rfl
theorem zc6 : zeroCells? Try.prog 6 = some [.v (Value.int IntKind.u8 0)] := by kernel_rfl
theorem sz7 : szOf Try.prog 7 = some 4 := by kernel_rfl
theorem in7 : Try.prog.info? 7 = some Try.t7 := by kernel_rfl
theorem ts7 : Try.t7.size = 4 := rfl
theorem tb7 : Try.t7.bytes = 24 := rfl
theorem tz7 : Try.t7.zero = some (Value.agg #[Value.int IntKind.i64 0, Value.int IntKind.i64 0, Value.bool false, Value.int IntKind.u8 0]) := rfl
theorem zc7 : zeroCells? Try.prog 7 = some [.v (Value.int IntKind.i64 0), .v (Value.int IntKind.i64 0), .v (Value.bool false), .v (Value.int IntKind.u8 0)] := by kernel_rfl
theorem pl7 : ∀ fs, Try.prog.underlying 7 = some (.struct fs) → placesOf Try.prog fs = some [(0, 1), (1, 1), (2, 1), (3, 1)] := by
  intro fs h
  rw [Try.underlying7] at h
  cases h
  kernel_rfl
theorem sz8 : szOf Try.prog 8 = some 4 := by kernel_rfl
theorem in8 : Try.prog.info? 8 = some Try.t8 := by kernel_rfl
theorem ts8 : Try.t8.size = 4 := rfl
theorem tb8 : Try.t8.bytes = 24 := rfl
theorem tz8 : Try.t8.zero = some (Value.agg #[Value.int IntKind.i64 0, Value.int IntKind.i64 0, Value.bool false, Value.int IntKind.u8 0]) := rfl
theorem zc8 : zeroCells? Try.prog 8 = some [.v (Value.int IntKind.i64 0), .v (Value.int IntKind.i64 0), .v (Value.bool false), .v (Value.int IntKind.u8 0)] := by kernel_rfl
theorem sz9 : szOf Try.prog 9 = some 1 := by kernel_rfl
theorem in9 : Try.prog.info? 9 = some Try.t9 := by kernel_rfl
theorem ts9 : Try.t9.size = 1 := rfl
theorem tb9 : Try.t9.bytes = 16 := rfl
theorem tz9 : Try.t9.zero = some (Value.string { data := #[] }) := rfl
theorem zc9 : zeroCells? Try.prog 9 = some [.v (Value.string { data := #[] })] := by kernel_rfl
theorem sz10 : szOf Try.prog 10 = some 1 := by kernel_rfl
theorem in10 : Try.prog.info? 10 = some Try.t10 := by kernel_rfl
theorem ts10 : Try.t10.size = 1 := rfl
theorem tb10 : Try.t10.bytes = 16 := rfl
theorem tz10 : Try.t10.zero = some (Value.string { data := #[] }) := rfl
theorem zc10 : zeroCells? Try.prog 10 = some [.v (Value.string { data := #[] })] := by kernel_rfl
theorem sz11 : szOf Try.prog 11 = some 1 := by kernel_rfl
theorem in11 : Try.prog.info? 11 = some Try.t11 := by kernel_rfl
theorem ts11 : Try.t11.size = 1 := rfl
theorem tb11 : Try.t11.bytes = 16 := rfl
theorem tz11 : Try.t11.zero = some (Value.string { data := #[] }) := rfl
theorem zc11 : zeroCells? Try.prog 11 = some [.v (Value.string { data := #[] })] := by kernel_rfl
theorem sz12 : szOf Try.prog 12 = some 1 := by kernel_rfl
theorem in12 : Try.prog.info? 12 = some Try.t12 := by kernel_rfl
theorem ts12 : Try.t12.size = 1 := rfl
theorem tb12 : Try.t12.bytes = 8 := rfl
theorem tz12 : Try.t12.zero = some (Value.int IntKind.u64 0) := rfl
theorem zc12 : zeroCells? Try.prog 12 = some [.v (Value.int IntKind.u64 0)] := by kernel_rfl
theorem sz13 : szOf Try.prog 13 = some 2 := by kernel_rfl
theorem in13 : Try.prog.info? 13 = some Try.t13 := by kernel_rfl
theorem ts13 : Try.t13.size = 2 := rfl
theorem tb13 : Try.t13.bytes = 24 := rfl
theorem tz13 : Try.t13.zero = some (Value.agg #[Value.string { data := #[] }, Value.int IntKind.u64 0]) := rfl
theorem zc13 : zeroCells? Try.prog 13 = some [.v (Value.string { data := #[] }), .v (Value.int IntKind.u64 0)] := by kernel_rfl
theorem pl13 : ∀ fs, Try.prog.underlying 13 = some (.struct fs) → placesOf Try.prog fs = some [(0, 1), (1, 1)] := by
  intro fs h
  rw [Try.underlying13] at h
  cases h
  kernel_rfl
theorem sz14 : szOf Try.prog 14 = some 2 := by kernel_rfl
theorem in14 : Try.prog.info? 14 = some Try.t14 := by kernel_rfl
theorem ts14 : Try.t14.size = 2 := rfl
theorem tb14 : Try.t14.bytes = 24 := rfl
theorem tz14 : Try.t14.zero = some (Value.agg #[Value.string { data := #[] }, Value.int IntKind.u64 0]) := rfl
theorem zc14 : zeroCells? Try.prog 14 = some [.v (Value.string { data := #[] }), .v (Value.int IntKind.u64 0)] := by kernel_rfl
theorem sz15 : szOf Try.prog 15 = some 1 := by kernel_rfl
theorem in15 : Try.prog.info? 15 = some Try.t15 := by kernel_rfl
theorem ts15 : Try.t15.size = 1 := rfl
theorem tb15 : Try.t15.bytes = 8 := rfl
theorem tz15 : Try.t15.zero = some (Value.pointer none) := rfl
theorem zc15 : zeroCells? Try.prog 15 = some [.v (Value.pointer none)] := by kernel_rfl
theorem sz16 : szOf Try.prog 16 = some 1 := by kernel_rfl
theorem in16 : Try.prog.info? 16 = some Try.t16 := by kernel_rfl
theorem ts16 : Try.t16.size = 1 := rfl
theorem tb16 : Try.t16.bytes = 8 := rfl
theorem tz16 : Try.t16.zero = some (Value.pointer none) := rfl
theorem zc16 : zeroCells? Try.prog 16 = some [.v (Value.pointer none)] := by kernel_rfl
theorem sz17 : szOf Try.prog 17 = some 1 := by kernel_rfl
theorem in17 : Try.prog.info? 17 = some Try.t17 := by kernel_rfl
theorem ts17 : Try.t17.size = 1 := rfl
theorem tb17 : Try.t17.bytes = 8 := rfl
theorem tz17 : Try.t17.zero = some (Value.pointer none) := rfl
theorem zc17 : zeroCells? Try.prog 17 = some [.v (Value.pointer none)] := by kernel_rfl
theorem sz18 : szOf Try.prog 18 = some 1 := by kernel_rfl
theorem in18 : Try.prog.info? 18 = some Try.t18 := by kernel_rfl
theorem ts18 : Try.t18.size = 1 := rfl
theorem tb18 : Try.t18.bytes = 8 := rfl
theorem tz18 : Try.t18.zero = some (Value.agg #[Value.pointer none]) := rfl
theorem zc18 : zeroCells? Try.prog 18 = some [.v (Value.pointer none)] := by kernel_rfl
theorem pl18 : ∀ fs, Try.prog.underlying 18 = some (.struct fs) → placesOf Try.prog fs = some [(0, 1)] := by
  intro fs h
  rw [Try.underlying18] at h
  cases h
  kernel_rfl
theorem sz19 : szOf Try.prog 19 = some 1 := by kernel_rfl
theorem in19 : Try.prog.info? 19 = some Try.t19 := by kernel_rfl
theorem ts19 : Try.t19.size = 1 := rfl
theorem tb19 : Try.t19.bytes = 8 := rfl
theorem tz19 : Try.t19.zero = some (Value.agg #[Value.pointer none]) := rfl
theorem zc19 : zeroCells? Try.prog 19 = some [.v (Value.pointer none)] := by kernel_rfl
theorem sz20 : szOf Try.prog 20 = some 1 := by kernel_rfl
theorem in20 : Try.prog.info? 20 = some Try.t20 := by kernel_rfl
theorem ts20 : Try.t20.size = 1 := rfl
theorem tb20 : Try.t20.bytes = 16 := rfl
theorem tz20 : Try.t20.zero = some Value.nilIface := rfl
theorem zc20 : zeroCells? Try.prog 20 = some [.v (Value.nilIface)] := by kernel_rfl
theorem sz21 : szOf Try.prog 21 = some 1 := by kernel_rfl
theorem in21 : Try.prog.info? 21 = some Try.t21 := by kernel_rfl
theorem ts21 : Try.t21.size = 1 := rfl
theorem tb21 : Try.t21.bytes = 4 := rfl
theorem tz21 : Try.t21.zero = some (Value.int IntKind.i32 0) := rfl
theorem zc21 : zeroCells? Try.prog 21 = some [.v (Value.int IntKind.i32 0)] := by kernel_rfl
theorem sz22 : szOf Try.prog 22 = some 1 := by kernel_rfl
theorem in22 : Try.prog.info? 22 = some Try.t22 := by kernel_rfl
theorem ts22 : Try.t22.size = 1 := rfl
theorem tb22 : Try.t22.bytes = 8 := rfl
theorem tz22 : Try.t22.zero = some Value.nilFunc := rfl
theorem zc22 : zeroCells? Try.prog 22 = some [.v (Value.nilFunc)] := by kernel_rfl
theorem sz23 : szOf Try.prog 23 = some 1 := by kernel_rfl
theorem in23 : Try.prog.info? 23 = some Try.t23 := by kernel_rfl
theorem ts23 : Try.t23.size = 1 := rfl
theorem tb23 : Try.t23.bytes = 24 := rfl
theorem tz23 : Try.t23.zero = some (Value.slice none 0 0) := rfl
theorem zc23 : zeroCells? Try.prog 23 = some [.v (Value.slice none 0 0)] := by kernel_rfl
theorem sz24 : szOf Try.prog 24 = some 1 := by kernel_rfl
theorem in24 : Try.prog.info? 24 = some Try.t24 := by kernel_rfl
theorem ts24 : Try.t24.size = 1 := rfl
theorem tb24 : Try.t24.bytes = 8 := rfl
theorem tz24 : Try.t24.zero = some (Value.int IntKind.i64 0) := rfl
theorem zc24 : zeroCells? Try.prog 24 = some [.v (Value.int IntKind.i64 0)] := by kernel_rfl
theorem sz25 : szOf Try.prog 25 = some 1 := by kernel_rfl
theorem in25 : Try.prog.info? 25 = some Try.t25 := by kernel_rfl
theorem ts25 : Try.t25.size = 1 := rfl
theorem tb25 : Try.t25.bytes = 0 := rfl
theorem tz25 : Try.t25.zero = some (Value.tuple #[Value.slice none 0 0, Value.int IntKind.i64 0, Value.int IntKind.i64 0]) := rfl
theorem zc25 : zeroCells? Try.prog 25 = some [.v (Value.tuple #[Value.slice none 0 0, Value.int IntKind.i64 0, Value.int IntKind.i64 0])] := by kernel_rfl
theorem sz26 : szOf Try.prog 26 = some 1 := by kernel_rfl
theorem in26 : Try.prog.info? 26 = some Try.t26 := by kernel_rfl
theorem ts26 : Try.t26.size = 1 := rfl
theorem tb26 : Try.t26.bytes = 8 := rfl
theorem tz26 : Try.t26.zero = some Value.nilFunc := rfl
theorem zc26 : zeroCells? Try.prog 26 = some [.v (Value.nilFunc)] := by kernel_rfl
theorem sz27 : szOf Try.prog 27 = some 1 := by kernel_rfl
theorem in27 : Try.prog.info? 27 = some Try.t27 := by kernel_rfl
theorem ts27 : Try.t27.size = 1 := rfl
theorem tb27 : Try.t27.bytes = 8 := rfl
theorem tz27 : Try.t27.zero = some Value.nilFunc := rfl
theorem zc27 : zeroCells? Try.prog 27 = some [.v (Value.nilFunc)] := by kernel_rfl
theorem sz28 : szOf Try.prog 28 = some 1 := by kernel_rfl
theorem in28 : Try.prog.info? 28 = some Try.t28 := by kernel_rfl
theorem ts28 : Try.t28.size = 1 := rfl
theorem tb28 : Try.t28.bytes = 8 := rfl
theorem tz28 : Try.t28.zero = some Value.nilFunc := rfl
theorem zc28 : zeroCells? Try.prog 28 = some [.v (Value.nilFunc)] := by kernel_rfl
theorem sz29 : szOf Try.prog 29 = some 1 := by kernel_rfl
theorem in29 : Try.prog.info? 29 = some Try.t29 := by kernel_rfl
theorem ts29 : Try.t29.size = 1 := rfl
theorem tb29 : Try.t29.bytes = 8 := rfl
theorem tz29 : Try.t29.zero = some Value.nilFunc := rfl
theorem zc29 : zeroCells? Try.prog 29 = some [.v (Value.nilFunc)] := by kernel_rfl
theorem sz30 : szOf Try.prog 30 = some 1 := by kernel_rfl
theorem in30 : Try.prog.info? 30 = some Try.t30 := by kernel_rfl
theorem ts30 : Try.t30.size = 1 := rfl
theorem tb30 : Try.t30.bytes = 8 := rfl
theorem tz30 : Try.t30.zero = some Value.nilFunc := rfl
theorem zc30 : zeroCells? Try.prog 30 = some [.v (Value.nilFunc)] := by kernel_rfl
theorem sz31 : szOf Try.prog 31 = some 1 := by kernel_rfl
theorem in31 : Try.prog.info? 31 = some Try.t31 := by kernel_rfl
theorem ts31 : Try.t31.size = 1 := rfl
theorem tb31 : Try.t31.bytes = 8 := rfl
theorem tz31 : Try.t31.zero = some (Value.int IntKind.u64 0) := rfl
theorem zc31 : zeroCells? Try.prog 31 = some [.v (Value.int IntKind.u64 0)] := by kernel_rfl
theorem sz32 : szOf Try.prog 32 = some 1 := by kernel_rfl
theorem in32 : Try.prog.info? 32 = some Try.t32 := by kernel_rfl
theorem ts32 : Try.t32.size = 1 := rfl
theorem tb32 : Try.t32.bytes = 0 := rfl
theorem tz32 : Try.t32.zero = some (Value.tuple #[Value.int IntKind.u64 0, Value.int IntKind.i64 0]) := rfl
theorem zc32 : zeroCells? Try.prog 32 = some [.v (Value.tuple #[Value.int IntKind.u64 0, Value.int IntKind.i64 0])] := by kernel_rfl
theorem sz33 : szOf Try.prog 33 = some 1 := by kernel_rfl
theorem in33 : Try.prog.info? 33 = some Try.t33 := by kernel_rfl
theorem ts33 : Try.t33.size = 1 := rfl
theorem tb33 : Try.t33.bytes = 8 := rfl
theorem tz33 : Try.t33.zero = some Value.nilFunc := rfl
theorem zc33 : zeroCells? Try.prog 33 = some [.v (Value.nilFunc)] := by kernel_rfl
theorem sz34 : szOf Try.prog 34 = some 1 := by kernel_rfl
theorem in34 : Try.prog.info? 34 = some Try.t34 := by kernel_rfl
theorem ts34 : Try.t34.size = 1 := rfl
theorem tb34 : Try.t34.bytes = 0 := rfl
theorem tz34 : Try.t34.zero = some (Value.tuple #[Value.int IntKind.u64 0, Value.int IntKind.i64 0]) := rfl
theorem zc34 : zeroCells? Try.prog 34 = some [.v (Value.tuple #[Value.int IntKind.u64 0, Value.int IntKind.i64 0])] := by kernel_rfl
theorem sz35 : szOf Try.prog 35 = some 1 := by kernel_rfl
theorem in35 : Try.prog.info? 35 = some Try.t35 := by kernel_rfl
theorem ts35 : Try.t35.size = 1 := rfl
theorem tb35 : Try.t35.bytes = 8 := rfl
theorem tz35 : Try.t35.zero = some Value.nilFunc := rfl
theorem zc35 : zeroCells? Try.prog 35 = some [.v (Value.nilFunc)] := by kernel_rfl
theorem sz36 : szOf Try.prog 36 = some 1 := by kernel_rfl
theorem in36 : Try.prog.info? 36 = some Try.t36 := by kernel_rfl
theorem ts36 : Try.t36.size = 1 := rfl
theorem tb36 : Try.t36.bytes = 0 := rfl
theorem tz36 : Try.t36.zero = some (Value.tuple #[Value.int IntKind.u64 0, Value.bool false]) := rfl
theorem zc36 : zeroCells? Try.prog 36 = some [.v (Value.tuple #[Value.int IntKind.u64 0, Value.bool false])] := by kernel_rfl
theorem sz37 : szOf Try.prog 37 = some 1 := by kernel_rfl
theorem in37 : Try.prog.info? 37 = some Try.t37 := by kernel_rfl
theorem ts37 : Try.t37.size = 1 := rfl
theorem tb37 : Try.t37.bytes = 8 := rfl
theorem tz37 : Try.t37.zero = some Value.nilFunc := rfl
theorem zc37 : zeroCells? Try.prog 37 = some [.v (Value.nilFunc)] := by kernel_rfl
theorem sz38 : szOf Try.prog 38 = some 1 := by kernel_rfl
theorem in38 : Try.prog.info? 38 = some Try.t38 := by kernel_rfl
theorem ts38 : Try.t38.size = 1 := rfl
theorem tb38 : Try.t38.bytes = 8 := rfl
theorem tz38 : Try.t38.zero = some Value.nilFunc := rfl
theorem zc38 : zeroCells? Try.prog 38 = some [.v (Value.nilFunc)] := by kernel_rfl
theorem sz39 : szOf Try.prog 39 = some 1 := by kernel_rfl
theorem in39 : Try.prog.info? 39 = some Try.t39 := by kernel_rfl
theorem ts39 : Try.t39.size = 1 := rfl
theorem tb39 : Try.t39.bytes = 0 := rfl
theorem tz39 : Try.t39.zero = some (Value.tuple #[Value.string { data := #[] }, Value.bool false]) := rfl
theorem zc39 : zeroCells? Try.prog 39 = some [.v (Value.tuple #[Value.string { data := #[] }, Value.bool false])] := by kernel_rfl
theorem sz40 : szOf Try.prog 40 = some 1 := by kernel_rfl
theorem in40 : Try.prog.info? 40 = some Try.t40 := by kernel_rfl
theorem ts40 : Try.t40.size = 1 := rfl
theorem tb40 : Try.t40.bytes = 0 := rfl
theorem tz40 : Try.t40.zero = some (Value.tuple #[Value.string { data := #[] }, Value.int IntKind.i64 0]) := rfl
theorem zc40 : zeroCells? Try.prog 40 = some [.v (Value.tuple #[Value.string { data := #[] }, Value.int IntKind.i64 0])] := by kernel_rfl
theorem sz41 : szOf Try.prog 41 = some 1 := by kernel_rfl
theorem in41 : Try.prog.info? 41 = some Try.t41 := by kernel_rfl
theorem ts41 : Try.t41.size = 1 := rfl
theorem tb41 : Try.t41.bytes = 8 := rfl
theorem tz41 : Try.t41.zero = some Value.nilFunc := rfl
theorem zc41 : zeroCells? Try.prog 41 = some [.v (Value.nilFunc)] := by kernel_rfl
theorem sz42 : szOf Try.prog 42 = some 1 := by kernel_rfl
theorem in42 : Try.prog.info? 42 = some Try.t42 := by kernel_rfl
theorem ts42 : Try.t42.size = 1 := rfl
theorem tb42 : Try.t42.bytes = 8 := rfl
theorem tz42 : Try.t42.zero = some Value.nilFunc := rfl
theorem zc42 : zeroCells? Try.prog 42 = some [.v (Value.nilFunc)] := by kernel_rfl
theorem sz43 : szOf Try.prog 43 = some 1 := by kernel_rfl
theorem in43 : Try.prog.info? 43 = some Try.t43 := by kernel_rfl
theorem ts43 : Try.t43.size = 1 := rfl
theorem tb43 : Try.t43.bytes = 8 := rfl
theorem tz43 : Try.t43.zero = some Value.nilFunc := rfl
theorem zc43 : zeroCells? Try.prog 43 = some [.v (Value.nilFunc)] := by kernel_rfl
theorem sz44 : szOf Try.prog 44 = some 1 := by kernel_rfl
theorem in44 : Try.prog.info? 44 = some Try.t44 := by kernel_rfl
theorem ts44 : Try.t44.size = 1 := rfl
theorem tb44 : Try.t44.bytes = 8 := rfl
theorem tz44 : Try.t44.zero = some Value.nilFunc := rfl
theorem zc44 : zeroCells? Try.prog 44 = some [.v (Value.nilFunc)] := by kernel_rfl
theorem sz45 : szOf Try.prog 45 = some 1 := by kernel_rfl
theorem in45 : Try.prog.info? 45 = some Try.t45 := by kernel_rfl
theorem ts45 : Try.t45.size = 1 := rfl
theorem tb45 : Try.t45.bytes = 24 := rfl
theorem tz45 : Try.t45.zero = some (Value.slice none 0 0) := rfl
theorem zc45 : zeroCells? Try.prog 45 = some [.v (Value.slice none 0 0)] := by kernel_rfl
theorem sz46 : szOf Try.prog 46 = some 1 := by kernel_rfl
theorem in46 : Try.prog.info? 46 = some Try.t46 := by kernel_rfl
theorem ts46 : Try.t46.size = 1 := rfl
theorem tb46 : Try.t46.bytes = 8 := rfl
theorem tz46 : Try.t46.zero = some Value.nilFunc := rfl
theorem zc46 : zeroCells? Try.prog 46 = some [.v (Value.nilFunc)] := by kernel_rfl
theorem sz47 : szOf Try.prog 47 = some 1 := by kernel_rfl
theorem in47 : Try.prog.info? 47 = some Try.t47 := by kernel_rfl
theorem ts47 : Try.t47.size = 1 := rfl
theorem tb47 : Try.t47.bytes = 8 := rfl
theorem tz47 : Try.t47.zero = some Value.nilFunc := rfl
theorem zc47 : zeroCells? Try.prog 47 = some [.v (Value.nilFunc)] := by kernel_rfl
theorem sz48 : szOf Try.prog 48 = some 1 := by kernel_rfl
theorem in48 : Try.prog.info? 48 = some Try.t48 := by kernel_rfl
theorem ts48 : Try.t48.size = 1 := rfl
theorem tb48 : Try.t48.bytes = 24 := rfl
theorem tz48 : Try.t48.zero = some (Value.slice none 0 0) := rfl
theorem zc48 : zeroCells? Try.prog 48 = some [.v (Value.slice none 0 0)] := by kernel_rfl
theorem sz49 : szOf Try.prog 49 = some 1 := by kernel_rfl
theorem in49 : Try.prog.info? 49 = some Try.t49 := by kernel_rfl
theorem ts49 : Try.t49.size = 1 := rfl
theorem tb49 : Try.t49.bytes = 8 := rfl
theorem tz49 : Try.t49.zero = some Value.nilFunc := rfl
theorem zc49 : zeroCells? Try.prog 49 = some [.v (Value.nilFunc)] := by kernel_rfl
theorem sz50 : szOf Try.prog 50 = some 1 := by kernel_rfl
theorem in50 : Try.prog.info? 50 = some Try.t50 := by kernel_rfl
theorem ts50 : Try.t50.size = 1 := rfl
theorem tb50 : Try.t50.bytes = 8 := rfl
theorem tz50 : Try.t50.zero = some Value.nilFunc := rfl
theorem zc50 : zeroCells? Try.prog 50 = some [.v (Value.nilFunc)] := by kernel_rfl
theorem sz51 : szOf Try.prog 51 = some 1 := by kernel_rfl
theorem in51 : Try.prog.info? 51 = some Try.t51 := by kernel_rfl
theorem ts51 : Try.t51.size = 1 := rfl
theorem tb51 : Try.t51.bytes = 8 := rfl
theorem tz51 : Try.t51.zero = some Value.nilFunc := rfl
theorem zc51 : zeroCells? Try.prog 51 = some [.v (Value.nilFunc)] := by kernel_rfl
theorem sz52 : szOf Try.prog 52 = some 1 := by kernel_rfl
theorem in52 : Try.prog.info? 52 = some Try.t52 := by kernel_rfl
theorem ts52 : Try.t52.size = 1 := rfl
theorem tb52 : Try.t52.bytes = 8 := rfl
theorem tz52 : Try.t52.zero = some (Value.int IntKind.u64 0) := rfl
theorem zc52 : zeroCells? Try.prog 52 = some [.v (Value.int IntKind.u64 0)] := by kernel_rfl
theorem sz53 : szOf Try.prog 53 = some 1 := by kernel_rfl
theorem in53 : Try.prog.info? 53 = some Try.t53 := by kernel_rfl
theorem ts53 : Try.t53.size = 1 := rfl
theorem tb53 : Try.t53.bytes = 8 := rfl
theorem tz53 : Try.t53.zero = some Value.nilFunc := rfl
theorem zc53 : zeroCells? Try.prog 53 = some [.v (Value.nilFunc)] := by kernel_rfl
theorem sz54 : szOf Try.prog 54 = some 1 := by kernel_rfl
theorem in54 : Try.prog.info? 54 = some Try.t54 := by kernel_rfl
theorem ts54 : Try.t54.size = 1 := rfl
theorem tb54 : Try.t54.bytes = 8 := rfl
theorem tz54 : Try.t54.zero = some Value.nilFunc := rfl
theorem zc54 : zeroCells? Try.prog 54 = some [.v (Value.nilFunc)] := by kernel_rfl
theorem sz55 : szOf Try.prog 55 = some 1 := by kernel_rfl
theorem in55 : Try.prog.info? 55 = some Try.t55 := by kernel_rfl
theorem ts55 : Try.t55.size = 1 := rfl
theorem tb55 : Try.t55.bytes = 8 := rfl
theorem tz55 : Try.t55.zero = some Value.nilFunc := rfl
theorem zc55 : zeroCells? Try.prog 55 = some [.v (Value.nilFunc)] := by kernel_rfl
theorem sz56 : szOf Try.prog 56 = some 4 := by kernel_rfl
theorem in56 : Try.prog.info? 56 = some Try.t56 := by kernel_rfl
theorem ts56 : Try.t56.size = 4 := rfl
theorem tb56 : Try.t56.bytes = 40 := rfl
theorem tz56 : Try.t56.zero = some (Value.agg #[Value.pointer none, Value.pointer none, Value.pointer none, Value.string { data := #[] }]) := rfl
theorem zc56 : zeroCells? Try.prog 56 = some [.v (Value.pointer none), .v (Value.pointer none), .v (Value.pointer none), .v (Value.string { data := #[] })] := by kernel_rfl
theorem pl56 : ∀ fs, Try.prog.underlying 56 = some (.struct fs) → placesOf Try.prog fs = some [(0, 1), (1, 1), (2, 1), (3, 1)] := by
  intro fs h
  rw [Try.underlying56] at h
  cases h
  kernel_rfl
theorem sz57 : szOf Try.prog 57 = some 4 := by kernel_rfl
theorem in57 : Try.prog.info? 57 = some Try.t57 := by kernel_rfl
theorem ts57 : Try.t57.size = 4 := rfl
theorem tb57 : Try.t57.bytes = 40 := rfl
theorem tz57 : Try.t57.zero = some (Value.agg #[Value.pointer none, Value.pointer none, Value.pointer none, Value.string { data := #[] }]) := rfl
theorem zc57 : zeroCells? Try.prog 57 = some [.v (Value.pointer none), .v (Value.pointer none), .v (Value.pointer none), .v (Value.string { data := #[] })] := by kernel_rfl
theorem sz58 : szOf Try.prog 58 = some 0 := by kernel_rfl
theorem in58 : Try.prog.info? 58 = some Try.t58 := by kernel_rfl
theorem ts58 : Try.t58.size = 0 := rfl
theorem tb58 : Try.t58.bytes = 0 := rfl
theorem tz58 : Try.t58.zero = some (Value.agg #[]) := rfl
theorem zc58 : zeroCells? Try.prog 58 = some [] := by kernel_rfl
theorem sz59 : szOf Try.prog 59 = some 0 := by kernel_rfl
theorem in59 : Try.prog.info? 59 = some Try.t59 := by kernel_rfl
theorem ts59 : Try.t59.size = 0 := rfl
theorem tb59 : Try.t59.bytes = 0 := rfl
theorem tz59 : Try.t59.zero = some (Value.agg #[]) := rfl
theorem zc59 : zeroCells? Try.prog 59 = some [] := by kernel_rfl
theorem pl59 : ∀ fs, Try.prog.underlying 59 = some (.struct fs) → placesOf Try.prog fs = some [(0, 0)] := by
  intro fs h
  rw [Try.underlying59] at h
  cases h
  kernel_rfl
theorem sz60 : szOf Try.prog 60 = some 0 := by kernel_rfl
theorem in60 : Try.prog.info? 60 = some Try.t60 := by kernel_rfl
theorem ts60 : Try.t60.size = 0 := rfl
theorem tb60 : Try.t60.bytes = 0 := rfl
theorem tz60 : Try.t60.zero = some (Value.agg #[]) := rfl
theorem zc60 : zeroCells? Try.prog 60 = some [] := by kernel_rfl
theorem sz61 : szOf Try.prog 61 = some 1 := by kernel_rfl
theorem in61 : Try.prog.info? 61 = some Try.t61 := by kernel_rfl
theorem ts61 : Try.t61.size = 1 := rfl
theorem tb61 : Try.t61.bytes = 8 := rfl
theorem tz61 : Try.t61.zero = some Value.nilFunc := rfl
theorem zc61 : zeroCells? Try.prog 61 = some [.v (Value.nilFunc)] := by kernel_rfl
theorem sz62 : szOf Try.prog 62 = some 1 := by kernel_rfl
theorem in62 : Try.prog.info? 62 = some Try.t62 := by kernel_rfl
theorem ts62 : Try.t62.size = 1 := rfl
theorem tb62 : Try.t62.bytes = 4 := rfl
theorem tz62 : Try.t62.zero = some (Value.int IntKind.u32 0) := rfl
theorem zc62 : zeroCells? Try.prog 62 = some [.v (Value.int IntKind.u32 0)] := by kernel_rfl
theorem sz63 : szOf Try.prog 63 = some 1 := by kernel_rfl
theorem in63 : Try.prog.info? 63 = some Try.t63 := by kernel_rfl
theorem ts63 : Try.t63.size = 1 := rfl
theorem tb63 : Try.t63.bytes = 1 := rfl
theorem tz63 : Try.t63.zero = some (Value.int IntKind.u8 0) := rfl
theorem zc63 : zeroCells? Try.prog 63 = some [.v (Value.int IntKind.u8 0)] := by kernel_rfl
theorem sz64 : szOf Try.prog 64 = some 1 := by kernel_rfl
theorem in64 : Try.prog.info? 64 = some Try.t64 := by kernel_rfl
theorem ts64 : Try.t64.size = 1 := rfl
theorem tb64 : Try.t64.bytes = 1 := rfl
theorem tz64 : Try.t64.zero = some (Value.int IntKind.u8 0) := rfl
theorem zc64 : zeroCells? Try.prog 64 = some [.v (Value.int IntKind.u8 0)] := by kernel_rfl
theorem sz65 : szOf Try.prog 65 = some 1 := by kernel_rfl
theorem in65 : Try.prog.info? 65 = some Try.t65 := by kernel_rfl
theorem ts65 : Try.t65.size = 1 := rfl
theorem tb65 : Try.t65.bytes = 8 := rfl
theorem tz65 : Try.t65.zero = some Value.nilFunc := rfl
theorem zc65 : zeroCells? Try.prog 65 = some [.v (Value.nilFunc)] := by kernel_rfl
theorem sz66 : szOf Try.prog 66 = some 1 := by kernel_rfl
theorem in66 : Try.prog.info? 66 = some Try.t66 := by kernel_rfl
theorem ts66 : Try.t66.size = 1 := rfl
theorem tb66 : Try.t66.bytes = 8 := rfl
theorem tz66 : Try.t66.zero = some (Value.pointer none) := rfl
theorem zc66 : zeroCells? Try.prog 66 = some [.v (Value.pointer none)] := by kernel_rfl
theorem sz67 : szOf Try.prog 67 = some 1 := by kernel_rfl
theorem in67 : Try.prog.info? 67 = some Try.t67 := by kernel_rfl
theorem ts67 : Try.t67.size = 1 := rfl
theorem tb67 : Try.t67.bytes = 4 := rfl
theorem tz67 : Try.t67.zero = some (Value.int IntKind.i32 0) := rfl
theorem zc67 : zeroCells? Try.prog 67 = some [.v (Value.int IntKind.i32 0)] := by kernel_rfl
theorem sz68 : szOf Try.prog 68 = some 1 := by kernel_rfl
theorem in68 : Try.prog.info? 68 = some Try.t68 := by kernel_rfl
theorem ts68 : Try.t68.size = 1 := rfl
theorem tb68 : Try.t68.bytes = 4 := rfl
theorem tz68 : Try.t68.zero = some (Value.int IntKind.i32 0) := rfl
theorem zc68 : zeroCells? Try.prog 68 = some [.v (Value.int IntKind.i32 0)] := by kernel_rfl
theorem sz69 : szOf Try.prog 69 = some 11 := by kernel_rfl
theorem in69 : Try.prog.info? 69 = some Try.t69 := by kernel_rfl
theorem ts69 : Try.t69.size = 11 := rfl
theorem tb69 : Try.t69.bytes = 48 := rfl
theorem tz69 : Try.t69.zero = some (Value.agg #[Value.int IntKind.u64 0, Value.int IntKind.u64 0, Value.int IntKind.u32 0, Value.int IntKind.u8 0, Value.int IntKind.u8 0, Value.int IntKind.u8 0, Value.int IntKind.u8 0, Value.nilFunc, Value.pointer none, Value.int IntKind.i32 0, Value.int IntKind.i32 0]) := rfl
theorem zc69 : zeroCells? Try.prog 69 = some [.v (Value.int IntKind.u64 0), .v (Value.int IntKind.u64 0), .v (Value.int IntKind.u32 0), .v (Value.int IntKind.u8 0), .v (Value.int IntKind.u8 0), .v (Value.int IntKind.u8 0), .v (Value.int IntKind.u8 0), .v (Value.nilFunc), .v (Value.pointer none), .v (Value.int IntKind.i32 0), .v (Value.int IntKind.i32 0)] := by kernel_rfl
theorem pl69 : ∀ fs, Try.prog.underlying 69 = some (.struct fs) → placesOf Try.prog fs = some [(0, 1), (1, 1), (2, 1), (3, 1), (4, 1), (5, 1), (6, 1), (7, 1), (8, 1), (9, 1), (10, 1)] := by
  intro fs h
  rw [Try.underlying69] at h
  cases h
  kernel_rfl
theorem sz70 : szOf Try.prog 70 = some 11 := by kernel_rfl
theorem in70 : Try.prog.info? 70 = some Try.t70 := by kernel_rfl
theorem ts70 : Try.t70.size = 11 := rfl
theorem tb70 : Try.t70.bytes = 48 := rfl
theorem tz70 : Try.t70.zero = some (Value.agg #[Value.int IntKind.u64 0, Value.int IntKind.u64 0, Value.int IntKind.u32 0, Value.int IntKind.u8 0, Value.int IntKind.u8 0, Value.int IntKind.u8 0, Value.int IntKind.u8 0, Value.nilFunc, Value.pointer none, Value.int IntKind.i32 0, Value.int IntKind.i32 0]) := rfl
theorem zc70 : zeroCells? Try.prog 70 = some [.v (Value.int IntKind.u64 0), .v (Value.int IntKind.u64 0), .v (Value.int IntKind.u32 0), .v (Value.int IntKind.u8 0), .v (Value.int IntKind.u8 0), .v (Value.int IntKind.u8 0), .v (Value.int IntKind.u8 0), .v (Value.nilFunc), .v (Value.pointer none), .v (Value.int IntKind.i32 0), .v (Value.int IntKind.i32 0)] := by kernel_rfl
theorem sz71 : szOf Try.prog 71 = some 1 := by kernel_rfl
theorem in71 : Try.prog.info? 71 = some Try.t71 := by kernel_rfl
theorem ts71 : Try.t71.size = 1 := rfl
theorem tb71 : Try.t71.bytes = 8 := rfl
theorem tz71 : Try.t71.zero = some (Value.pointer none) := rfl
theorem zc71 : zeroCells? Try.prog 71 = some [.v (Value.pointer none)] := by kernel_rfl
theorem fb2 : (Program.funcs Try.prog)[2]?.any (fun fn => fn.body.isSome && fn.name != "runtime.NumGoroutine") = true := by rw [Try.func2]; kernel_rfl
theorem fb3 : (Program.funcs Try.prog)[3]?.any (fun fn => fn.body.isSome && fn.name != "runtime.NumGoroutine") = true := by rw [Try.func3]; kernel_rfl
theorem fb4 : (Program.funcs Try.prog)[4]?.any (fun fn => fn.body.isSome && fn.name != "runtime.NumGoroutine") = true := by rw [Try.func4]; kernel_rfl
theorem fb5 : (Program.funcs Try.prog)[5]?.any (fun fn => fn.body.isSome && fn.name != "runtime.NumGoroutine") = true := by rw [Try.func5]; kernel_rfl
theorem fb6 : (Program.funcs Try.prog)[6]?.any (fun fn => fn.body.isSome && fn.name != "runtime.NumGoroutine") = true := by rw [Try.func6]; kernel_rfl
theorem fb7 : (Program.funcs Try.prog)[7]?.any (fun fn => fn.body.isSome && fn.name != "runtime.NumGoroutine") = true := by rw [Try.func7]; kernel_rfl
theorem fb8 : (Program.funcs Try.prog)[8]?.any (fun fn => fn.body.isSome && fn.name != "runtime.NumGoroutine") = true := by rw [Try.func8]; kernel_rfl
theorem fb9 : (Program.funcs Try.prog)[9]?.any (fun fn => fn.body.isSome && fn.name != "runtime.NumGoroutine") = true := by rw [Try.func9]; kernel_rfl
theorem fb10 : (Program.funcs Try.prog)[10]?.any (fun fn => fn.body.isSome && fn.name != "runtime.NumGoroutine") = true := by rw [Try.func10]; kernel_rfl
theorem fb11 : (Program.funcs Try.prog)[11]?.any (fun fn => fn.body.isSome && fn.name != "runtime.NumGoroutine") = true := by rw [Try.func11]; kernel_rfl
theorem fb12 : (Program.funcs Try.prog)[12]?.any (fun fn => fn.body.isSome && fn.name != "runtime.NumGoroutine") = true := by rw [Try.func12]; kernel_rfl
theorem fb13 : (Program.funcs Try.prog)[13]?.any (fun fn => fn.body.isSome && fn.name != "runtime.NumGoroutine") = true := by rw [Try.func13]; kernel_rfl
theorem fb14 : (Program.funcs Try.prog)[14]?.any (fun fn => fn.body.isSome && fn.name != "runtime.NumGoroutine") = true := by rw [Try.func14]; kernel_rfl
theorem fb15 : (Program.funcs Try.prog)[15]?.any (fun fn => fn.body.isSome && fn.name != "runtime.NumGoroutine") = true := by rw [Try.func15]; kernel_rfl
theorem fb16 : (Program.funcs Try.prog)[16]?.any (fun fn => fn.body.isSome && fn.name != "runtime.NumGoroutine") = true := by rw [Try.func16]; kernel_rfl
theorem fb17 : (Program.funcs Try.prog)[17]?.any (fun fn => fn.body.isSome && fn.name != "runtime.NumGoroutine") = true := by rw [Try.func17]; kernel_rfl
theorem fb18 : (Program.funcs Try.prog)[18]?.any (fun fn => fn.body.isSome && fn.name != "runtime.NumGoroutine") = true := by rw [Try.func18]; kernel_rfl
theorem fb19 : (Program.funcs Try.prog)[19]?.any (fun fn => fn.body.isSome && fn.name != "runtime.NumGoroutine") = true := by rw [Try.func19]; kernel_rfl
theorem fb20 : (Program.funcs Try.prog)[20]?.any (fun fn => fn.body.isSome && fn.name != "runtime.NumGoroutine") = true := by rw [Try.func20]; kernel_rfl
theorem fb21 : (Program.funcs Try.prog)[21]?.any (fun fn => fn.body.isSome && fn.name != "runtime.NumGoroutine") = true := by rw [Try.func21]; kernel_rfl
theorem fb22 : (Program.funcs Try.prog)[22]?.any (fun fn => fn.body.isSome && fn.name != "runtime.NumGoroutine") = true := by rw [Try.func22]; kernel_rfl
theorem fb23 : (Program.funcs Try.prog)[23]?.any (fun fn => fn.body.isSome && fn.name != "runtime.NumGoroutine") = true := by rw [Try.func23]; kernel_rfl
theorem fb24 : (Program.funcs Try.prog)[24]?.any (fun fn => fn.body.isSome && fn.name != "runtime.NumGoroutine") = true := by rw [Try.func24]; kernel_rfl
theorem fb25 : (Program.funcs Try.prog)[25]?.any (fun fn => fn.body.isSome && fn.name != "runtime.NumGoroutine") = true := by rw [Try.func25]; kernel_rfl
theorem fb26 : (Program.funcs Try.prog)[26]?.any (fun fn => fn.body.isSome && fn.name != "runtime.NumGoroutine") = true := by rw [Try.func26]; kernel_rfl
theorem fb27 : (Program.funcs Try.prog)[27]?.any (fun fn => fn.body.isSome && fn.name != "runtime.NumGoroutine") = true := by rw [Try.func27]; kernel_rfl
theorem fb28 : (Program.funcs Try.prog)[28]?.any (fun fn => fn.body.isSome && fn.name != "runtime.NumGoroutine") = true := by rw [Try.func28]; kernel_rfl
theorem fb29 : (Program.funcs Try.prog)[29]?.any (fun fn => fn.body.isSome && fn.name != "runtime.NumGoroutine") = true := by rw [Try.func29]; kernel_rfl
theorem mix : Try.prog.follows .mixedOrders = true := by kernel_rfl
theorem mi0 (H : Heap) (ρ : Operand → AV) (x : Operand) : apure Try.prog H ρ (.makeInterface 0 x) = some (.ifc 0 (ρ x)) := by simp only [apure, Try.underlying0]
attribute [go_sem] mi0
theorem mi1 (H : Heap) (ρ : Operand → AV) (x : Operand) : apure Try.prog H ρ (.makeInterface 1 x) = some (.ifc 1 (ρ x)) := by simp only [apure, Try.underlying1]
attribute [go_sem] mi1
theorem mi2 (H : Heap) (ρ : Operand → AV) (x : Operand) : apure Try.prog H ρ (.makeInterface 2 x) = some (.ifc 2 (ρ x)) := by simp only [apure, Try.underlying2]
attribute [go_sem] mi2
theorem mi3 (H : Heap) (ρ : Operand → AV) (x : Operand) : apure Try.prog H ρ (.makeInterface 3 x) = some (.ifc 3 (ρ x)) := by simp only [apure, Try.underlying3]
attribute [go_sem] mi3
theorem mi4 (H : Heap) (ρ : Operand → AV) (x : Operand) : apure Try.prog H ρ (.makeInterface 4 x) = some (.ifc 4 (ρ x)) := by simp only [apure, Try.underlying4]
attribute [go_sem] mi4
theorem mi5 (H : Heap) (ρ : Operand → AV) (x : Operand) : apure Try.prog H ρ (.makeInterface 5 x) = some (.ifc 5 (ρ x)) := by simp only [apure, Try.underlying5]
attribute [go_sem] mi5
theorem mi6 (H : Heap) (ρ : Operand → AV) (x : Operand) : apure Try.prog H ρ (.makeInterface 6 x) = some (.ifc 6 (ρ x)) := by simp only [apure, Try.underlying6]
attribute [go_sem] mi6
theorem mi7 (H : Heap) (ρ : Operand → AV) (x : Operand) : apure Try.prog H ρ (.makeInterface 7 x) = some (.ifc 7 (ρ x)) := by simp only [apure, Try.underlying7]
attribute [go_sem] mi7
theorem mi8 (H : Heap) (ρ : Operand → AV) (x : Operand) : apure Try.prog H ρ (.makeInterface 8 x) = some (.ifc 8 (ρ x)) := by simp only [apure, Try.underlying8]
attribute [go_sem] mi8
theorem ln9 (s : ByteArray) : abuiltin Try.prog .len [9] [.v (.string s)] = some (.v (.int .i64 s.size)) := abuiltin_len_str Try.underlying9
attribute [go_sem] ln9
theorem mi9 (H : Heap) (ρ : Operand → AV) (x : Operand) : apure Try.prog H ρ (.makeInterface 9 x) = some (.ifc 9 (ρ x)) := by simp only [apure, Try.underlying9]
attribute [go_sem] mi9
theorem ln10 (s : ByteArray) : abuiltin Try.prog .len [10] [.v (.string s)] = some (.v (.int .i64 s.size)) := abuiltin_len_str Try.underlying10
attribute [go_sem] ln10
theorem mi10 (H : Heap) (ρ : Operand → AV) (x : Operand) : apure Try.prog H ρ (.makeInterface 10 x) = some (.ifc 10 (ρ x)) := by simp only [apure, Try.underlying10]
attribute [go_sem] mi10
theorem ln11 (s : ByteArray) : abuiltin Try.prog .len [11] [.v (.string s)] = some (.v (.int .i64 s.size)) := abuiltin_len_str Try.underlying11
attribute [go_sem] ln11
theorem mi11 (H : Heap) (ρ : Operand → AV) (x : Operand) : apure Try.prog H ρ (.makeInterface 11 x) = some (.ifc 11 (ρ x)) := by simp only [apure, Try.underlying11]
attribute [go_sem] mi11
theorem mi12 (H : Heap) (ρ : Operand → AV) (x : Operand) : apure Try.prog H ρ (.makeInterface 12 x) = some (.ifc 12 (ρ x)) := by simp only [apure, Try.underlying12]
attribute [go_sem] mi12
theorem mi13 (H : Heap) (ρ : Operand → AV) (x : Operand) : apure Try.prog H ρ (.makeInterface 13 x) = some (.ifc 13 (ρ x)) := by simp only [apure, Try.underlying13]
attribute [go_sem] mi13
theorem mi14 (H : Heap) (ρ : Operand → AV) (x : Operand) : apure Try.prog H ρ (.makeInterface 14 x) = some (.ifc 14 (ρ x)) := by simp only [apure, Try.underlying14]
attribute [go_sem] mi14
theorem mi15 (H : Heap) (ρ : Operand → AV) (x : Operand) : apure Try.prog H ρ (.makeInterface 15 x) = some (.ifc 15 (ρ x)) := by simp only [apure, Try.underlying15]
attribute [go_sem] mi15
theorem mi16 (H : Heap) (ρ : Operand → AV) (x : Operand) : apure Try.prog H ρ (.makeInterface 16 x) = some (.ifc 16 (ρ x)) := by simp only [apure, Try.underlying16]
attribute [go_sem] mi16
theorem mi17 (H : Heap) (ρ : Operand → AV) (x : Operand) : apure Try.prog H ρ (.makeInterface 17 x) = some (.ifc 17 (ρ x)) := by simp only [apure, Try.underlying17]
attribute [go_sem] mi17
theorem mi18 (H : Heap) (ρ : Operand → AV) (x : Operand) : apure Try.prog H ρ (.makeInterface 18 x) = some (.ifc 18 (ρ x)) := by simp only [apure, Try.underlying18]
attribute [go_sem] mi18
theorem mi19 (H : Heap) (ρ : Operand → AV) (x : Operand) : apure Try.prog H ρ (.makeInterface 19 x) = some (.ifc 19 (ρ x)) := by simp only [apure, Try.underlying19]
attribute [go_sem] mi19
theorem mi21 (H : Heap) (ρ : Operand → AV) (x : Operand) : apure Try.prog H ρ (.makeInterface 21 x) = some (.ifc 21 (ρ x)) := by simp only [apure, Try.underlying21]
attribute [go_sem] mi21
theorem mi22 (H : Heap) (ρ : Operand → AV) (x : Operand) : apure Try.prog H ρ (.makeInterface 22 x) = some (.ifc 22 (ρ x)) := by simp only [apure, Try.underlying22]
attribute [go_sem] mi22
theorem ln23 (xs : List AV) (n : Nat) (f : Bool) : abuiltin Try.prog .len [23] [.sl xs n f] = some (.v (.int .i64 n)) := abuiltin_len_sl Try.underlying23
theorem lo23 (j o n : Nat) : abuiltin Try.prog .len [23] [.own j o n] = some (.v (.int .i64 n)) := abuiltin_len_own Try.underlying23
theorem lz23 (n c : Nat) : abuiltin Try.prog .len [23] [.v (.slice none n c)] = some (.v (.int .i64 n)) := abuiltin_len_nil Try.underlying23
attribute [go_sem] ln23 lo23 lz23
theorem mi23 (H : Heap) (ρ : Operand → AV) (x : Operand) : apure Try.prog H ρ (.makeInterface 23 x) = some (.ifc 23 (ρ x)) := by simp only [apure, Try.underlying23]
attribute [go_sem] mi23
theorem mi24 (H : Heap) (ρ : Operand → AV) (x : Operand) : apure Try.prog H ρ (.makeInterface 24 x) = some (.ifc 24 (ρ x)) := by simp only [apure, Try.underlying24]
attribute [go_sem] mi24
theorem mi25 (H : Heap) (ρ : Operand → AV) (x : Operand) : apure Try.prog H ρ (.makeInterface 25 x) = some (.ifc 25 (ρ x)) := by simp only [apure, Try.underlying25]
attribute [go_sem] mi25
theorem mi26 (H : Heap) (ρ : Operand → AV) (x : Operand) : apure Try.prog H ρ (.makeInterface 26 x) = some (.ifc 26 (ρ x)) := by simp only [apure, Try.underlying26]
attribute [go_sem] mi26
theorem mi27 (H : Heap) (ρ : Operand → AV) (x : Operand) : apure Try.prog H ρ (.makeInterface 27 x) = some (.ifc 27 (ρ x)) := by simp only [apure, Try.underlying27]
attribute [go_sem] mi27
theorem mi28 (H : Heap) (ρ : Operand → AV) (x : Operand) : apure Try.prog H ρ (.makeInterface 28 x) = some (.ifc 28 (ρ x)) := by simp only [apure, Try.underlying28]
attribute [go_sem] mi28
theorem mi29 (H : Heap) (ρ : Operand → AV) (x : Operand) : apure Try.prog H ρ (.makeInterface 29 x) = some (.ifc 29 (ρ x)) := by simp only [apure, Try.underlying29]
attribute [go_sem] mi29
theorem mi30 (H : Heap) (ρ : Operand → AV) (x : Operand) : apure Try.prog H ρ (.makeInterface 30 x) = some (.ifc 30 (ρ x)) := by simp only [apure, Try.underlying30]
attribute [go_sem] mi30
theorem mi31 (H : Heap) (ρ : Operand → AV) (x : Operand) : apure Try.prog H ρ (.makeInterface 31 x) = some (.ifc 31 (ρ x)) := by simp only [apure, Try.underlying31]
attribute [go_sem] mi31
theorem mi32 (H : Heap) (ρ : Operand → AV) (x : Operand) : apure Try.prog H ρ (.makeInterface 32 x) = some (.ifc 32 (ρ x)) := by simp only [apure, Try.underlying32]
attribute [go_sem] mi32
theorem mi33 (H : Heap) (ρ : Operand → AV) (x : Operand) : apure Try.prog H ρ (.makeInterface 33 x) = some (.ifc 33 (ρ x)) := by simp only [apure, Try.underlying33]
attribute [go_sem] mi33
theorem mi34 (H : Heap) (ρ : Operand → AV) (x : Operand) : apure Try.prog H ρ (.makeInterface 34 x) = some (.ifc 34 (ρ x)) := by simp only [apure, Try.underlying34]
attribute [go_sem] mi34
theorem mi35 (H : Heap) (ρ : Operand → AV) (x : Operand) : apure Try.prog H ρ (.makeInterface 35 x) = some (.ifc 35 (ρ x)) := by simp only [apure, Try.underlying35]
attribute [go_sem] mi35
theorem mi36 (H : Heap) (ρ : Operand → AV) (x : Operand) : apure Try.prog H ρ (.makeInterface 36 x) = some (.ifc 36 (ρ x)) := by simp only [apure, Try.underlying36]
attribute [go_sem] mi36
theorem mi37 (H : Heap) (ρ : Operand → AV) (x : Operand) : apure Try.prog H ρ (.makeInterface 37 x) = some (.ifc 37 (ρ x)) := by simp only [apure, Try.underlying37]
attribute [go_sem] mi37
theorem mi38 (H : Heap) (ρ : Operand → AV) (x : Operand) : apure Try.prog H ρ (.makeInterface 38 x) = some (.ifc 38 (ρ x)) := by simp only [apure, Try.underlying38]
attribute [go_sem] mi38
theorem mi39 (H : Heap) (ρ : Operand → AV) (x : Operand) : apure Try.prog H ρ (.makeInterface 39 x) = some (.ifc 39 (ρ x)) := by simp only [apure, Try.underlying39]
attribute [go_sem] mi39
theorem mi40 (H : Heap) (ρ : Operand → AV) (x : Operand) : apure Try.prog H ρ (.makeInterface 40 x) = some (.ifc 40 (ρ x)) := by simp only [apure, Try.underlying40]
attribute [go_sem] mi40
theorem mi41 (H : Heap) (ρ : Operand → AV) (x : Operand) : apure Try.prog H ρ (.makeInterface 41 x) = some (.ifc 41 (ρ x)) := by simp only [apure, Try.underlying41]
attribute [go_sem] mi41
theorem mi42 (H : Heap) (ρ : Operand → AV) (x : Operand) : apure Try.prog H ρ (.makeInterface 42 x) = some (.ifc 42 (ρ x)) := by simp only [apure, Try.underlying42]
attribute [go_sem] mi42
theorem mi43 (H : Heap) (ρ : Operand → AV) (x : Operand) : apure Try.prog H ρ (.makeInterface 43 x) = some (.ifc 43 (ρ x)) := by simp only [apure, Try.underlying43]
attribute [go_sem] mi43
theorem mi44 (H : Heap) (ρ : Operand → AV) (x : Operand) : apure Try.prog H ρ (.makeInterface 44 x) = some (.ifc 44 (ρ x)) := by simp only [apure, Try.underlying44]
attribute [go_sem] mi44
theorem ln45 (xs : List AV) (n : Nat) (f : Bool) : abuiltin Try.prog .len [45] [.sl xs n f] = some (.v (.int .i64 n)) := abuiltin_len_sl Try.underlying45
theorem lo45 (j o n : Nat) : abuiltin Try.prog .len [45] [.own j o n] = some (.v (.int .i64 n)) := abuiltin_len_own Try.underlying45
theorem lz45 (n c : Nat) : abuiltin Try.prog .len [45] [.v (.slice none n c)] = some (.v (.int .i64 n)) := abuiltin_len_nil Try.underlying45
attribute [go_sem] ln45 lo45 lz45
theorem mi45 (H : Heap) (ρ : Operand → AV) (x : Operand) : apure Try.prog H ρ (.makeInterface 45 x) = some (.ifc 45 (ρ x)) := by simp only [apure, Try.underlying45]
attribute [go_sem] mi45
theorem mi46 (H : Heap) (ρ : Operand → AV) (x : Operand) : apure Try.prog H ρ (.makeInterface 46 x) = some (.ifc 46 (ρ x)) := by simp only [apure, Try.underlying46]
attribute [go_sem] mi46
theorem mi47 (H : Heap) (ρ : Operand → AV) (x : Operand) : apure Try.prog H ρ (.makeInterface 47 x) = some (.ifc 47 (ρ x)) := by simp only [apure, Try.underlying47]
attribute [go_sem] mi47
theorem ln48 (xs : List AV) (n : Nat) (f : Bool) : abuiltin Try.prog .len [48] [.sl xs n f] = some (.v (.int .i64 n)) := abuiltin_len_sl Try.underlying48
theorem lo48 (j o n : Nat) : abuiltin Try.prog .len [48] [.own j o n] = some (.v (.int .i64 n)) := abuiltin_len_own Try.underlying48
theorem lz48 (n c : Nat) : abuiltin Try.prog .len [48] [.v (.slice none n c)] = some (.v (.int .i64 n)) := abuiltin_len_nil Try.underlying48
attribute [go_sem] ln48 lo48 lz48
theorem mi48 (H : Heap) (ρ : Operand → AV) (x : Operand) : apure Try.prog H ρ (.makeInterface 48 x) = some (.ifc 48 (ρ x)) := by simp only [apure, Try.underlying48]
attribute [go_sem] mi48
theorem mi49 (H : Heap) (ρ : Operand → AV) (x : Operand) : apure Try.prog H ρ (.makeInterface 49 x) = some (.ifc 49 (ρ x)) := by simp only [apure, Try.underlying49]
attribute [go_sem] mi49
theorem mi50 (H : Heap) (ρ : Operand → AV) (x : Operand) : apure Try.prog H ρ (.makeInterface 50 x) = some (.ifc 50 (ρ x)) := by simp only [apure, Try.underlying50]
attribute [go_sem] mi50
theorem mi51 (H : Heap) (ρ : Operand → AV) (x : Operand) : apure Try.prog H ρ (.makeInterface 51 x) = some (.ifc 51 (ρ x)) := by simp only [apure, Try.underlying51]
attribute [go_sem] mi51
theorem mi52 (H : Heap) (ρ : Operand → AV) (x : Operand) : apure Try.prog H ρ (.makeInterface 52 x) = some (.ifc 52 (ρ x)) := by simp only [apure, Try.underlying52]
attribute [go_sem] mi52
theorem mi53 (H : Heap) (ρ : Operand → AV) (x : Operand) : apure Try.prog H ρ (.makeInterface 53 x) = some (.ifc 53 (ρ x)) := by simp only [apure, Try.underlying53]
attribute [go_sem] mi53
theorem mi54 (H : Heap) (ρ : Operand → AV) (x : Operand) : apure Try.prog H ρ (.makeInterface 54 x) = some (.ifc 54 (ρ x)) := by simp only [apure, Try.underlying54]
attribute [go_sem] mi54
theorem mi55 (H : Heap) (ρ : Operand → AV) (x : Operand) : apure Try.prog H ρ (.makeInterface 55 x) = some (.ifc 55 (ρ x)) := by simp only [apure, Try.underlying55]
attribute [go_sem] mi55
theorem mi56 (H : Heap) (ρ : Operand → AV) (x : Operand) : apure Try.prog H ρ (.makeInterface 56 x) = some (.ifc 56 (ρ x)) := by simp only [apure, Try.underlying56]
attribute [go_sem] mi56
theorem mi57 (H : Heap) (ρ : Operand → AV) (x : Operand) : apure Try.prog H ρ (.makeInterface 57 x) = some (.ifc 57 (ρ x)) := by simp only [apure, Try.underlying57]
attribute [go_sem] mi57
theorem mi58 (H : Heap) (ρ : Operand → AV) (x : Operand) : apure Try.prog H ρ (.makeInterface 58 x) = some (.ifc 58 (ρ x)) := by simp only [apure, Try.underlying58]
attribute [go_sem] mi58
theorem mi59 (H : Heap) (ρ : Operand → AV) (x : Operand) : apure Try.prog H ρ (.makeInterface 59 x) = some (.ifc 59 (ρ x)) := by simp only [apure, Try.underlying59]
attribute [go_sem] mi59
theorem mi60 (H : Heap) (ρ : Operand → AV) (x : Operand) : apure Try.prog H ρ (.makeInterface 60 x) = some (.ifc 60 (ρ x)) := by simp only [apure, Try.underlying60]
attribute [go_sem] mi60
theorem mi61 (H : Heap) (ρ : Operand → AV) (x : Operand) : apure Try.prog H ρ (.makeInterface 61 x) = some (.ifc 61 (ρ x)) := by simp only [apure, Try.underlying61]
attribute [go_sem] mi61
theorem mi62 (H : Heap) (ρ : Operand → AV) (x : Operand) : apure Try.prog H ρ (.makeInterface 62 x) = some (.ifc 62 (ρ x)) := by simp only [apure, Try.underlying62]
attribute [go_sem] mi62
theorem mi63 (H : Heap) (ρ : Operand → AV) (x : Operand) : apure Try.prog H ρ (.makeInterface 63 x) = some (.ifc 63 (ρ x)) := by simp only [apure, Try.underlying63]
attribute [go_sem] mi63
theorem mi64 (H : Heap) (ρ : Operand → AV) (x : Operand) : apure Try.prog H ρ (.makeInterface 64 x) = some (.ifc 64 (ρ x)) := by simp only [apure, Try.underlying64]
attribute [go_sem] mi64
theorem mi65 (H : Heap) (ρ : Operand → AV) (x : Operand) : apure Try.prog H ρ (.makeInterface 65 x) = some (.ifc 65 (ρ x)) := by simp only [apure, Try.underlying65]
attribute [go_sem] mi65
theorem mi66 (H : Heap) (ρ : Operand → AV) (x : Operand) : apure Try.prog H ρ (.makeInterface 66 x) = some (.ifc 66 (ρ x)) := by simp only [apure, Try.underlying66]
attribute [go_sem] mi66
theorem mi67 (H : Heap) (ρ : Operand → AV) (x : Operand) : apure Try.prog H ρ (.makeInterface 67 x) = some (.ifc 67 (ρ x)) := by simp only [apure, Try.underlying67]
attribute [go_sem] mi67
theorem mi68 (H : Heap) (ρ : Operand → AV) (x : Operand) : apure Try.prog H ρ (.makeInterface 68 x) = some (.ifc 68 (ρ x)) := by simp only [apure, Try.underlying68]
attribute [go_sem] mi68
theorem mi69 (H : Heap) (ρ : Operand → AV) (x : Operand) : apure Try.prog H ρ (.makeInterface 69 x) = some (.ifc 69 (ρ x)) := by simp only [apure, Try.underlying69]
attribute [go_sem] mi69
theorem mi70 (H : Heap) (ρ : Operand → AV) (x : Operand) : apure Try.prog H ρ (.makeInterface 70 x) = some (.ifc 70 (ρ x)) := by simp only [apure, Try.underlying70]
attribute [go_sem] mi70
theorem mi71 (H : Heap) (ρ : Operand → AV) (x : Operand) : apure Try.prog H ρ (.makeInterface 71 x) = some (.ifc 71 (ρ x)) := by simp only [apure, Try.underlying71]
attribute [go_sem] mi71
attribute [go_sem] Try.underlying0 sz0 Try.underlying1 sz1 Try.underlying2 sz2 Try.underlying3 sz3 Try.underlying4 sz4 Try.underlying5 sz5 Try.underlying6 sz6 Try.underlying7 sz7 Try.underlying8 sz8 Try.underlying9 sz9 Try.underlying10 sz10 Try.underlying11 sz11 Try.underlying12 sz12 Try.underlying13 sz13 Try.underlying14 sz14 Try.underlying15 sz15 Try.underlying16 sz16 Try.underlying17 sz17 Try.underlying18 sz18 Try.underlying19 sz19 Try.underlying20 sz20 Try.underlying21 sz21 Try.underlying22 sz22 Try.underlying23 sz23 Try.underlying24 sz24 Try.underlying25 sz25 Try.underlying26 sz26 Try.underlying27 sz27 Try.underlying28 sz28 Try.underlying29 sz29 Try.underlying30 sz30 Try.underlying31 sz31 Try.underlying32 sz32 Try.underlying33 sz33 Try.underlying34 sz34 Try.underlying35 sz35 Try.underlying36 sz36 Try.underlying37 sz37 Try.underlying38 sz38 Try.underlying39 sz39 Try.underlying40 sz40 Try.underlying41 sz41 Try.underlying42 sz42 Try.underlying43 sz43 Try.underlying44 sz44 Try.underlying45 sz45 Try.underlying46 sz46 Try.underlying47 sz47 Try.underlying48 sz48 Try.underlying49 sz49 Try.underlying50 sz50 Try.underlying51 sz51 Try.underlying52 sz52 Try.underlying53 sz53 Try.underlying54 sz54 Try.underlying55 sz55 Try.underlying56 sz56 Try.underlying57 sz57 Try.underlying58 sz58 Try.underlying59 sz59 Try.underlying60 sz60 Try.underlying61 sz61 Try.underlying62 sz62 Try.underlying63 sz63 Try.underlying64 sz64 Try.underlying65 sz65 Try.underlying66 sz66 Try.underlying67 sz67 Try.underlying68 sz68 Try.underlying69 sz69 Try.underlying70 sz70 Try.underlying71 sz71
end Go.Proofs.Ytoenhcdjahpdhaa
