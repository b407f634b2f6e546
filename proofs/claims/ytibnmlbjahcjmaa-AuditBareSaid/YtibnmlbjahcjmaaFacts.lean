/- Facts on the tables of types and functions of the translation, each by the kernel. -/
import Derived.Test.YtibnmlbjahcjmaaRows
import Derived.Test.YtibnmlbjahcjmaaAmB
set_option linter.unusedSimpArgs false
set_option linter.unusedVariables false
namespace Go.Proofs.Ytibnmlbjahcjmaa
open Go Go.AM
theorem sz0 : szOf Try.prog 0 = some 1 := by kernel_rfl
theorem in0 : Try.prog.info? 0 = some Try.t0 := by kernel_rfl
theorem ts0 : Try.t0.size = 1 := rfl
theorem tb0 : Try.t0.bytes = 0 := rfl
theorem tz0 : Try.t0.zero = some (Value.tuple #[]) := rfl
theorem zc0 : zeroCells? Try.prog 0 = some [.v (Value.tuple #[])] := by kernel_rfl
theorem sz1 : szOf Try.prog 1 = some 1 := by kernel_rfl
theorem in1 : Try.prog.info? 1 = some Try.t1 := by kernel_rfl
theorem ts1 : Try.t1.size = 1 := rfl
theorem tb1 : Try.t1.bytes = 8 := rfl
theorem tz1 : Try.t1.zero = some Value.nilFunc := rfl
theorem zc1 : zeroCells? Try.prog 1 = some [.v (Value.nilFunc)] := by kernel_rfl
theorem sz2 : szOf Try.prog 2 = some 1 := by kernel_rfl
theorem in2 : Try.prog.info? 2 = some Try.t2 := by kernel_rfl
theorem ts2 : Try.t2.size = 1 := rfl
theorem tb2 : Try.t2.bytes = 8 := rfl
theorem tz2 : Try.t2.zero = some (Value.int IntKind.i64 0) := rfl
theorem zc2 : zeroCells? Try.prog 2 = some [.v (Value.int IntKind.i64 0)] := by kernel_rfl
theorem sz3 : szOf Try.prog 3 = some 1 := by kernel_rfl
theorem in3 : Try.prog.info? 3 = some Try.t3 := by kernel_rfl
theorem ts3 : Try.t3.size = 1 := rfl
theorem tb3 : Try.t3.bytes = 8 := rfl
theorem tz3 : Try.t3.zero = some (Value.int IntKind.i64 0) := rfl
theorem zc3 : zeroCells? Try.prog 3 = some [.v (Value.int IntKind.i64 0)] := by kernel_rfl
theorem sz4 : szOf Try.prog 4 = some 1 := by kernel_rfl
theorem in4 : Try.prog.info? 4 = some Try.t4 := by kernel_rfl
theorem ts4 : Try.t4.size = 1 := rfl
theorem tb4 : Try.t4.bytes = 1 := rfl
theorem tz4 : Try.t4.zero = some (Value.bool false) := rfl
theorem zc4 : zeroCells? Try.prog 4 = some [.v (Value.bool false)] := by kernel_rfl
theorem sz5 : szOf Try.prog 5 = some 1 := by kernel_rfl
theorem in5 : Try.prog.info? 5 = some Try.t5 := by kernel_rfl
theorem ts5 : Try.t5.size = 1 := rfl
theorem tb5 : Try.t5.bytes = 1 := rfl
theorem tz5 : Try.t5.zero = some (Value.int IntKind.u8 0) := rfl
theorem zc5 : zeroCells? Try.prog 5 = some [.v (Value.int IntKind.u8 0)] := by kernel_rfl
theorem sz6 : szOf Try.prog 6 = some 1 := by kernel_rfl
theorem in6 : Try.prog.info? 6 = some Try.t6 := by kernel_rfl
theorem ts6 : Try.t6.size = 1 := rfl
theorem tb6 : Try.t6.bytes = 1 := rfl
theorem tz6 : Try.t6.zero = some (Value.int IntKind.u8 0) := rfl
theorem zc6 : zeroCells? Try.prog 6 = some [.v (Value.int IntKind.u8 0)] := by kernel_rfl
theorem sz7 : szOf Try.prog 7 = some 4 := by kernel_rfl
theorem in7 : Try.prog.info? 7 = some Try.t7 := by kernel_rfl
theorem ts7 : Try.t7.size = 4 := rfl
theorem tb7 : Try.t7.bytes = 24 := rfl
theorem tz7 : Try.t7.zero = some (Value.agg #[Value.int IntKind.i64 0, Value.int IntKind.i64 0, Value.bool false, Value.int IntKind.u8 0]) := rfl
theorem zc7 : zeroCells? Try.prog 7 = some [.v (Value.int IntKind.i64 0), .v (Value.int IntKind.i64 0), .v (Value.bool false), .v (Value.int IntKind.u8 0)] := by kernel_rfl
theorem pl7 : ∀ fs, Try.prog.underlying 7 = some (.struct fs) → placesOf Try.prog fs = some [(0, 1), (1, 1), (2, 1), (3, 1)] := by
  intro fs h
  rw [Try.underlying7] at h
  cases h
  kernel_rfl
theorem sz8 : szOf Try.prog 8 = some 4 := by kernel_rfl
theorem in8 : Try.prog.info? 8 = some Try.t8 := by kernel_rfl
theorem ts8 : Try.t8.size = 4 := rfl
theorem tb8 : Try.t8.bytes = 24 := rfl
theorem tz8 : Try.t8.zero = some (Value.agg #[Value.int IntKind.i64 0, Value.int IntKind.i64 0, Value.bool false, Value.int IntKind.u8 0]) := rfl
theorem zc8 : zeroCells? Try.prog 8 = some [.v (Value.int IntKind.i64 0), .v (Value.int IntKind.i64 0), .v (Value.bool false), .v (Value.int IntKind.u8 0)] := by kernel_rfl
theorem sz9 : szOf Try.prog 9 = some 1 := by kernel_rfl
theorem in9 : Try.prog.info? 9 = some Try.t9 := by kernel_rfl
theorem ts9 : Try.t9.size = 1 := rfl
theorem tb9 : Try.t9.bytes = 16 := rfl
theorem tz9 : Try.t9.zero = some (Value.string { data := #[] }) := rfl
theorem zc9 : zeroCells? Try.prog 9 = some [.v (Value.string { data := #[] })] := by kernel_rfl
theorem sz10 : szOf Try.prog 10 = some 1 := by kernel_rfl
theorem in10 : Try.prog.info? 10 = some Try.t10 := by kernel_rfl
theorem ts10 : Try.t10.size = 1 := rfl
theorem tb10 : Try.t10.bytes = 16 := rfl
theorem tz10 : Try.t10.zero = some (Value.string { data := #[] }) := rfl
theorem zc10 : zeroCells? Try.prog 10 = some [.v (Value.string { data := #[] })] := by kernel_rfl
theorem sz11 : szOf Try.prog 11 = some 1 := by kernel_rfl
theorem in11 : Try.prog.info? 11 = some Try.t11 := by kernel_rfl
theorem ts11 : Try.t11.size = 1 := rfl
theorem tb11 : Try.t11.bytes = 16 := rfl
theorem tz11 : Try.t11.zero = some (Value.string { data := #[] }) := rfl
theorem zc11 : zeroCells? Try.prog 11 = some [.v (Value.string { data := #[] })] := by kernel_rfl
theorem sz12 : szOf Try.prog 12 = some 1 := by kernel_rfl
theorem in12 : Try.prog.info? 12 = some Try.t12 := by kernel_rfl
theorem ts12 : Try.t12.size = 1 := rfl
theorem tb12 : Try.t12.bytes = 8 := rfl
theorem tz12 : Try.t12.zero = some (Value.int IntKind.u64 0) := rfl
theorem zc12 : zeroCells? Try.prog 12 = some [.v (Value.int IntKind.u64 0)] := by kernel_rfl
theorem sz13 : szOf Try.prog 13 = some 2 := by kernel_rfl
theorem in13 : Try.prog.info? 13 = some Try.t13 := by kernel_rfl
theorem ts13 : Try.t13.size = 2 := rfl
theorem tb13 : Try.t13.bytes = 24 := rfl
theorem tz13 : Try.t13.zero = some (Value.agg #[Value.string { data := #[] }, Value.int IntKind.u64 0]) := rfl
theorem zc13 : zeroCells? Try.prog 13 = some [.v (Value.string { data := #[] }), .v (Value.int IntKind.u64 0)] := by kernel_rfl
theorem pl13 : ∀ fs, Try.prog.underlying 13 = some (.struct fs) → placesOf Try.prog fs = some [(0, 1), (1, 1)] := by
  intro fs h
  rw [Try.underlying13] at h
  cases h
  kernel_rfl
theorem sz14 : szOf Try.prog 14 = some 2 := by kernel_rfl
theorem in14 : Try.prog.info? 14 = some Try.t14 := by kernel_rfl
theorem ts14 : Try.t14.size = 2 := rfl
theorem tb14 : Try.t14.bytes = 24 := rfl
theorem tz14 : Try.t14.zero = some (Value.agg #[Value.string { data := #[] }, Value.int IntKind.u64 0]) := rfl
theorem zc14 : zeroCells? Try.prog 14 = some [.v (Value.string { data := #[] }), .v (Value.int IntKind.u64 0)] := by kernel_rfl
theorem sz15 : szOf Try.prog 15 = some 1 := by kernel_rfl
theorem in15 : Try.prog.info? 15 = some Try.t15 := by kernel_rfl
theorem ts15 : Try.t15.size = 1 := rfl
theorem tb15 : Try.t15.bytes = 8 := rfl
theorem tz15 : Try.t15.zero = some (Value.pointer none) := rfl
theorem zc15 : zeroCells? Try.prog 15 = some [.v (Value.pointer none)] := by kernel_rfl
theorem sz16 : szOf Try.prog 16 = some 1 := by kernel_rfl
theorem in16 : Try.prog.info? 16 = some Try.t16 := by kernel_rfl
theorem ts16 : Try.t16.size = 1 := rfl
theorem tb16 : Try.t16.bytes = 8 := rfl
theorem tz16 : Try.t16.zero = some (Value.pointer none) := rfl
theorem zc16 : zeroCells? Try.prog 16 = some [.v (Value.pointer none)] := by kernel_rfl
theorem sz17 : szOf Try.prog 17 = some 1 := by kernel_rfl
theorem in17 : Try.prog.info? 17 = some Try.t17 := by kernel_rfl
theorem ts17 : Try.t17.size = 1 := rfl
theorem tb17 : Try.t17.bytes = 8 := rfl
theorem tz17 : Try.t17.zero = some (Value.pointer none) := rfl
theorem zc17 : zeroCells? Try.prog 17 = some [.v (Value.pointer none)] := by kernel_rfl
theorem sz18 : szOf Try.prog 18 = some 1 := by kernel_rfl
theorem in18 : Try.prog.info? 18 = some Try.t18 := by kernel_rfl
theorem ts18 : Try.t18.size = 1 := rfl
theorem tb18 : Try.t18.bytes = 8 := rfl
theorem tz18 : Try.t18.zero = some (Value.agg #[Value.pointer none]) := rfl
theorem zc18 : zeroCells? Try.prog 18 = some [.v (Value.pointer none)] := by kernel_rfl
theorem pl18 : ∀ fs, Try.prog.underlying 18 = some (.struct fs) → placesOf Try.prog fs = some [(0, 1)] := by
  intro fs h
  rw [Try.underlying18] at h
  cases h
  kernel_rfl
theorem sz19 : szOf Try.prog 19 = some 1 := by kernel_rfl
theorem in19 : Try.prog.info? 19 = some Try.t19 := by kernel_rfl
theorem ts19 : Try.t19.size = 1 := rfl
theorem tb19 : Try.t19.bytes = 8 := rfl
theorem tz19 : Try.t19.zero = some (Value.agg #[Value.pointer none]) := rfl
theorem zc19 : zeroCells? Try.prog 19 = some [.v (Value.pointer none)] := by kernel_rfl
theorem sz20 : szOf Try.prog 20 = some 1 := by kernel_rfl
theorem in20 : Try.prog.info? 20 = some Try.t20 := by kernel_rfl
theorem ts20 : Try.t20.size = 1 := rfl
theorem tb20 : Try.t20.bytes = 16 := rfl
theorem tz20 : Try.t20.zero = some Value.nilIface := rfl
theorem zc20 : zeroCells? Try.prog 20 = some [.v (Value.nilIface)] := by kernel_rfl
theorem sz21 : szOf Try.prog 21 = some 1 := by kernel_rfl
theorem in21 : Try.prog.info? 21 = some Try.t21 := by kernel_rfl
theorem ts21 : Try.t21.size = 1 := rfl
theorem tb21 : Try.t21.bytes = 4 := rfl
theorem tz21 : Try.t21.zero = some (Value.int IntKind.i32 0) := rfl
theorem zc21 : zeroCells? Try.prog 21 = some [.v (Value.int IntKind.i32 0)] := by kernel_rfl
theorem sz22 : szOf Try.prog 22 = some 3 := by kernel_rfl
theorem in22 : Try.prog.info? 22 = some Try.t22 := by kernel_rfl
theorem ts22 : Try.t22.size = 3 := rfl
theorem tb22 : Try.t22.bytes = 24 := rfl
theorem tz22 : Try.t22.zero = some (Value.agg #[Value.int IntKind.i64 0, Value.int IntKind.i64 0, Value.int IntKind.i64 0]) := rfl
theorem zc22 : zeroCells? Try.prog 22 = some [.v (Value.int IntKind.i64 0), .v (Value.int IntKind.i64 0), .v (Value.int IntKind.i64 0)] := by kernel_rfl
theorem pl22 : ∀ fs, Try.prog.underlying 22 = some (.struct fs) → placesOf Try.prog fs = some [(0, 1), (1, 1), (2, 1)] := by
  intro fs h
  rw [Try.underlying22] at h
  cases h
  kernel_rfl
theorem sz23 : szOf Try.prog 23 = some 3 := by kernel_rfl
theorem in23 : Try.prog.info? 23 = some Try.t23 := by kernel_rfl
theorem ts23 : Try.t23.size = 3 := rfl
theorem tb23 : Try.t23.bytes = 24 := rfl
theorem tz23 : Try.t23.zero = some (Value.agg #[Value.int IntKind.i64 0, Value.int IntKind.i64 0, Value.int IntKind.i64 0]) := rfl
theorem zc23 : zeroCells? Try.prog 23 = some [.v (Value.int IntKind.i64 0), .v (Value.int IntKind.i64 0), .v (Value.int IntKind.i64 0)] := by kernel_rfl
theorem sz24 : szOf Try.prog 24 = some 1 := by kernel_rfl
theorem in24 : Try.prog.info? 24 = some Try.t24 := by kernel_rfl
theorem ts24 : Try.t24.size = 1 := rfl
theorem tb24 : Try.t24.bytes = 24 := rfl
theorem tz24 : Try.t24.zero = some (Value.slice none 0 0) := rfl
theorem zc24 : zeroCells? Try.prog 24 = some [.v (Value.slice none 0 0)] := by kernel_rfl
theorem sz25 : szOf Try.prog 25 = some 1 := by kernel_rfl
theorem in25 : Try.prog.info? 25 = some Try.t25 := by kernel_rfl
theorem ts25 : Try.t25.size = 1 := rfl
theorem tb25 : Try.t25.bytes = 24 := rfl
theorem tz25 : Try.t25.zero = some (Value.slice none 0 0) := rfl
theorem zc25 : zeroCells? Try.prog 25 = some [.v (Value.slice none 0 0)] := by kernel_rfl
theorem sz26 : szOf Try.prog 26 = some 5 := by kernel_rfl
theorem in26 : Try.prog.info? 26 = some Try.t26 := by kernel_rfl
theorem ts26 : Try.t26.size = 5 := rfl
theorem tb26 : Try.t26.bytes = 72 := rfl
theorem tz26 : Try.t26.zero = some (Value.agg #[Value.int IntKind.i64 0, Value.int IntKind.i64 0, Value.int IntKind.i64 0, Value.slice none 0 0, Value.slice none 0 0]) := rfl
theorem zc26 : zeroCells? Try.prog 26 = some [.v (Value.int IntKind.i64 0), .v (Value.int IntKind.i64 0), .v (Value.int IntKind.i64 0), .v (Value.slice none 0 0), .v (Value.slice none 0 0)] := by kernel_rfl
theorem pl26 : ∀ fs, Try.prog.underlying 26 = some (.struct fs) → placesOf Try.prog fs = some [(0, 3), (3, 1), (4, 1)] := by
  intro fs h
  rw [Try.underlying26] at h
  cases h
  kernel_rfl
theorem sz27 : szOf Try.prog 27 = some 5 := by kernel_rfl
theorem in27 : Try.prog.info? 27 = some Try.t27 := by kernel_rfl
theorem ts27 : Try.t27.size = 5 := rfl
theorem tb27 : Try.t27.bytes = 72 := rfl
theorem tz27 : Try.t27.zero = some (Value.agg #[Value.int IntKind.i64 0, Value.int IntKind.i64 0, Value.int IntKind.i64 0, Value.slice none 0 0, Value.slice none 0 0]) := rfl
theorem zc27 : zeroCells? Try.prog 27 = some [.v (Value.int IntKind.i64 0), .v (Value.int IntKind.i64 0), .v (Value.int IntKind.i64 0), .v (Value.slice none 0 0), .v (Value.slice none 0 0)] := by kernel_rfl
theorem sz28 : szOf Try.prog 28 = some 1 := by kernel_rfl
theorem in28 : Try.prog.info? 28 = some Try.t28 := by kernel_rfl
theorem ts28 : Try.t28.size = 1 := rfl
theorem tb28 : Try.t28.bytes = 8 := rfl
theorem tz28 : Try.t28.zero = some Value.nilFunc := rfl
theorem zc28 : zeroCells? Try.prog 28 = some [.v (Value.nilFunc)] := by kernel_rfl
theorem sz29 : szOf Try.prog 29 = some 1 := by kernel_rfl
theorem in29 : Try.prog.info? 29 = some Try.t29 := by kernel_rfl
theorem ts29 : Try.t29.size = 1 := rfl
theorem tb29 : Try.t29.bytes = 8 := rfl
theorem tz29 : Try.t29.zero = some Value.nilFunc := rfl
theorem zc29 : zeroCells? Try.prog 29 = some [.v (Value.nilFunc)] := by kernel_rfl
theorem sz30 : szOf Try.prog 30 = some 1 := by kernel_rfl
theorem in30 : Try.prog.info? 30 = some Try.t30 := by kernel_rfl
theorem ts30 : Try.t30.size = 1 := rfl
theorem tb30 : Try.t30.bytes = 24 := rfl
theorem tz30 : Try.t30.zero = some (Value.slice none 0 0) := rfl
theorem zc30 : zeroCells? Try.prog 30 = some [.v (Value.slice none 0 0)] := by kernel_rfl
theorem sz31 : szOf Try.prog 31 = some 1 := by kernel_rfl
theorem in31 : Try.prog.info? 31 = some Try.t31 := by kernel_rfl
theorem ts31 : Try.t31.size = 1 := rfl
theorem tb31 : Try.t31.bytes = 8 := rfl
theorem tz31 : Try.t31.zero = some Value.nilFunc := rfl
theorem zc31 : zeroCells? Try.prog 31 = some [.v (Value.nilFunc)] := by kernel_rfl
theorem sz32 : szOf Try.prog 32 = some 1 := by kernel_rfl
theorem in32 : Try.prog.info? 32 = some Try.t32 := by kernel_rfl
theorem ts32 : Try.t32.size = 1 := rfl
theorem tb32 : Try.t32.bytes = 8 := rfl
theorem tz32 : Try.t32.zero = some Value.nilFunc := rfl
theorem zc32 : zeroCells? Try.prog 32 = some [.v (Value.nilFunc)] := by kernel_rfl
theorem sz33 : szOf Try.prog 33 = some 1 := by kernel_rfl
theorem in33 : Try.prog.info? 33 = some Try.t33 := by kernel_rfl
theorem ts33 : Try.t33.size = 1 := rfl
theorem tb33 : Try.t33.bytes = 8 := rfl
theorem tz33 : Try.t33.zero = some Value.nilFunc := rfl
theorem zc33 : zeroCells? Try.prog 33 = some [.v (Value.nilFunc)] := by kernel_rfl
theorem sz34 : szOf Try.prog 34 = some 1 := by kernel_rfl
theorem in34 : Try.prog.info? 34 = some Try.t34 := by kernel_rfl
theorem ts34 : Try.t34.size = 1 := rfl
theorem tb34 : Try.t34.bytes = 8 := rfl
theorem tz34 : Try.t34.zero = some Value.nilFunc := rfl
theorem zc34 : zeroCells? Try.prog 34 = some [.v (Value.nilFunc)] := by kernel_rfl
theorem sz35 : szOf Try.prog 35 = some 1 := by kernel_rfl
theorem in35 : Try.prog.info? 35 = some Try.t35 := by kernel_rfl
theorem ts35 : Try.t35.size = 1 := rfl
theorem tb35 : Try.t35.bytes = 8 := rfl
theorem tz35 : Try.t35.zero = some Value.nilFunc := rfl
theorem zc35 : zeroCells? Try.prog 35 = some [.v (Value.nilFunc)] := by kernel_rfl
theorem sz36 : szOf Try.prog 36 = some 1 := by kernel_rfl
theorem in36 : Try.prog.info? 36 = some Try.t36 := by kernel_rfl
theorem ts36 : Try.t36.size = 1 := rfl
theorem tb36 : Try.t36.bytes = 8 := rfl
theorem tz36 : Try.t36.zero = some Value.nilFunc := rfl
theorem zc36 : zeroCells? Try.prog 36 = some [.v (Value.nilFunc)] := by kernel_rfl
theorem sz37 : szOf Try.prog 37 = some 3 := by kernel_rfl
theorem in37 : Try.prog.info? 37 = some Try.t37 := by kernel_rfl
theorem ts37 : Try.t37.size = 3 := rfl
theorem tb37 : Try.t37.bytes = 24 := rfl
theorem tz37 : Try.t37.zero = some (Value.agg #[Value.int IntKind.i64 0, Value.int IntKind.i64 0, Value.int IntKind.i64 0]) := rfl
theorem zc37 : zeroCells? Try.prog 37 = some [.v (Value.int IntKind.i64 0), .v (Value.int IntKind.i64 0), .v (Value.int IntKind.i64 0)] := by kernel_rfl
theorem pl37 : ∀ fs, Try.prog.underlying 37 = some (.struct fs) → placesOf Try.prog fs = some [(0, 1), (1, 1), (2, 1)] := by
  intro fs h
  rw [Try.underlying37] at h
  cases h
  kernel_rfl
theorem sz38 : szOf Try.prog 38 = some 3 := by kernel_rfl
theorem in38 : Try.prog.info? 38 = some Try.t38 := by kernel_rfl
theorem ts38 : Try.t38.size = 3 := rfl
theorem tb38 : Try.t38.bytes = 24 := rfl
theorem tz38 : Try.t38.zero = some (Value.agg #[Value.int IntKind.i64 0, Value.int IntKind.i64 0, Value.int IntKind.i64 0]) := rfl
theorem zc38 : zeroCells? Try.prog 38 = some [.v (Value.int IntKind.i64 0), .v (Value.int IntKind.i64 0), .v (Value.int IntKind.i64 0)] := by kernel_rfl
theorem sz39 : szOf Try.prog 39 = some 1 := by kernel_rfl
theorem in39 : Try.prog.info? 39 = some Try.t39 := by kernel_rfl
theorem ts39 : Try.t39.size = 1 := rfl
theorem tb39 : Try.t39.bytes = 8 := rfl
theorem tz39 : Try.t39.zero = some Value.nilFunc := rfl
theorem zc39 : zeroCells? Try.prog 39 = some [.v (Value.nilFunc)] := by kernel_rfl
theorem sz40 : szOf Try.prog 40 = some 1 := by kernel_rfl
theorem in40 : Try.prog.info? 40 = some Try.t40 := by kernel_rfl
theorem ts40 : Try.t40.size = 1 := rfl
theorem tb40 : Try.t40.bytes = 8 := rfl
theorem tz40 : Try.t40.zero = some Value.nilFunc := rfl
theorem zc40 : zeroCells? Try.prog 40 = some [.v (Value.nilFunc)] := by kernel_rfl
theorem sz41 : szOf Try.prog 41 = some 1 := by kernel_rfl
theorem in41 : Try.prog.info? 41 = some Try.t41 := by kernel_rfl
theorem ts41 : Try.t41.size = 1 := rfl
theorem tb41 : Try.t41.bytes = 24 := rfl
theorem tz41 : Try.t41.zero = some (Value.slice none 0 0) := rfl
theorem zc41 : zeroCells? Try.prog 41 = some [.v (Value.slice none 0 0)] := by kernel_rfl
theorem sz42 : szOf Try.prog 42 = some 1 := by kernel_rfl
theorem in42 : Try.prog.info? 42 = some Try.t42 := by kernel_rfl
theorem ts42 : Try.t42.size = 1 := rfl
theorem tb42 : Try.t42.bytes = 8 := rfl
theorem tz42 : Try.t42.zero = some Value.nilFunc := rfl
theorem zc42 : zeroCells? Try.prog 42 = some [.v (Value.nilFunc)] := by kernel_rfl
theorem sz43 : szOf Try.prog 43 = some 1 := by kernel_rfl
theorem in43 : Try.prog.info? 43 = some Try.t43 := by kernel_rfl
theorem ts43 : Try.t43.size = 1 := rfl
theorem tb43 : Try.t43.bytes = 0 := rfl
theorem tz43 : Try.t43.zero = some (Value.tuple #[Value.agg #[Value.int IntKind.i64 0, Value.int IntKind.i64 0, Value.int IntKind.i64 0], Value.bool false]) := rfl
theorem zc43 : zeroCells? Try.prog 43 = some [.v (Value.tuple #[Value.agg #[Value.int IntKind.i64 0, Value.int IntKind.i64 0, Value.int IntKind.i64 0], Value.bool false])] := by kernel_rfl
theorem sz44 : szOf Try.prog 44 = some 1 := by kernel_rfl
theorem in44 : Try.prog.info? 44 = some Try.t44 := by kernel_rfl
theorem ts44 : Try.t44.size = 1 := rfl
theorem tb44 : Try.t44.bytes = 8 := rfl
theorem tz44 : Try.t44.zero = some Value.nilFunc := rfl
theorem zc44 : zeroCells? Try.prog 44 = some [.v (Value.nilFunc)] := by kernel_rfl
theorem sz45 : szOf Try.prog 45 = some 1 := by kernel_rfl
theorem in45 : Try.prog.info? 45 = some Try.t45 := by kernel_rfl
theorem ts45 : Try.t45.size = 1 := rfl
theorem tb45 : Try.t45.bytes = 8 := rfl
theorem tz45 : Try.t45.zero = some Value.nilFunc := rfl
theorem zc45 : zeroCells? Try.prog 45 = some [.v (Value.nilFunc)] := by kernel_rfl
theorem sz46 : szOf Try.prog 46 = some 1 := by kernel_rfl
theorem in46 : Try.prog.info? 46 = some Try.t46 := by kernel_rfl
theorem ts46 : Try.t46.size = 1 := rfl
theorem tb46 : Try.t46.bytes = 8 := rfl
theorem tz46 : Try.t46.zero = some Value.nilFunc := rfl
theorem zc46 : zeroCells? Try.prog 46 = some [.v (Value.nilFunc)] := by kernel_rfl
theorem sz47 : szOf Try.prog 47 = some 1 := by kernel_rfl
theorem in47 : Try.prog.info? 47 = some Try.t47 := by kernel_rfl
theorem ts47 : Try.t47.size = 1 := rfl
theorem tb47 : Try.t47.bytes = 8 := rfl
theorem tz47 : Try.t47.zero = some Value.nilFunc := rfl
theorem zc47 : zeroCells? Try.prog 47 = some [.v (Value.nilFunc)] := by kernel_rfl
theorem sz48 : szOf Try.prog 48 = some 1 := by kernel_rfl
theorem in48 : Try.prog.info? 48 = some Try.t48 := by kernel_rfl
theorem ts48 : Try.t48.size = 1 := rfl
theorem tb48 : Try.t48.bytes = 8 := rfl
theorem tz48 : Try.t48.zero = some Value.nilFunc := rfl
theorem zc48 : zeroCells? Try.prog 48 = some [.v (Value.nilFunc)] := by kernel_rfl
theorem sz49 : szOf Try.prog 49 = some 1 := by kernel_rfl
theorem in49 : Try.prog.info? 49 = some Try.t49 := by kernel_rfl
theorem ts49 : Try.t49.size = 1 := rfl
theorem tb49 : Try.t49.bytes = 8 := rfl
theorem tz49 : Try.t49.zero = some Value.nilFunc := rfl
theorem zc49 : zeroCells? Try.prog 49 = some [.v (Value.nilFunc)] := by kernel_rfl
theorem sz50 : szOf Try.prog 50 = some 1 := by kernel_rfl
theorem in50 : Try.prog.info? 50 = some Try.t50 := by kernel_rfl
theorem ts50 : Try.t50.size = 1 := rfl
theorem tb50 : Try.t50.bytes = 8 := rfl
theorem tz50 : Try.t50.zero = some Value.nilFunc := rfl
theorem zc50 : zeroCells? Try.prog 50 = some [.v (Value.nilFunc)] := by kernel_rfl
theorem sz51 : szOf Try.prog 51 = some 1 := by kernel_rfl
theorem in51 : Try.prog.info? 51 = some Try.t51 := by kernel_rfl
theorem ts51 : Try.t51.size = 1 := rfl
theorem tb51 : Try.t51.bytes = 8 := rfl
theorem tz51 : Try.t51.zero = some (Value.int IntKind.u64 0) := rfl
theorem zc51 : zeroCells? Try.prog 51 = some [.v (Value.int IntKind.u64 0)] := by kernel_rfl
theorem sz52 : szOf Try.prog 52 = some 2 := by kernel_rfl
theorem in52 : Try.prog.info? 52 = some Try.t52 := by kernel_rfl
theorem ts52 : Try.t52.size = 2 := rfl
theorem tb52 : Try.t52.bytes = 16 := rfl
theorem tz52 : Try.t52.zero = some (Value.agg #[Value.int IntKind.u64 0, Value.int IntKind.u64 0]) := rfl
theorem zc52 : zeroCells? Try.prog 52 = some [.v (Value.int IntKind.u64 0), .v (Value.int IntKind.u64 0)] := by kernel_rfl
theorem pl52 : ∀ fs, Try.prog.underlying 52 = some (.struct fs) → placesOf Try.prog fs = some [(0, 1), (1, 1)] := by
  intro fs h
  rw [Try.underlying52] at h
  cases h
  kernel_rfl
theorem sz53 : szOf Try.prog 53 = some 2 := by kernel_rfl
theorem in53 : Try.prog.info? 53 = some Try.t53 := by kernel_rfl
theorem ts53 : Try.t53.size = 2 := rfl
theorem tb53 : Try.t53.bytes = 16 := rfl
theorem tz53 : Try.t53.zero = some (Value.agg #[Value.int IntKind.u64 0, Value.int IntKind.u64 0]) := rfl
theorem zc53 : zeroCells? Try.prog 53 = some [.v (Value.int IntKind.u64 0), .v (Value.int IntKind.u64 0)] := by kernel_rfl
theorem sz54 : szOf Try.prog 54 = some 1 := by kernel_rfl
theorem in54 : Try.prog.info? 54 = some Try.t54 := by kernel_rfl
theorem ts54 : Try.t54.size = 1 := rfl
theorem tb54 : Try.t54.bytes = 8 := rfl
theorem tz54 : Try.t54.zero = some Value.nilFunc := rfl
theorem zc54 : zeroCells? Try.prog 54 = some [.v (Value.nilFunc)] := by kernel_rfl
theorem sz55 : szOf Try.prog 55 = some 1 := by kernel_rfl
theorem in55 : Try.prog.info? 55 = some Try.t55 := by kernel_rfl
theorem ts55 : Try.t55.size = 1 := rfl
theorem tb55 : Try.t55.bytes = 8 := rfl
theorem tz55 : Try.t55.zero = some Value.nilFunc := rfl
theorem zc55 : zeroCells? Try.prog 55 = some [.v (Value.nilFunc)] := by kernel_rfl
theorem sz56 : szOf Try.prog 56 = some 1 := by kernel_rfl
theorem in56 : Try.prog.info? 56 = some Try.t56 := by kernel_rfl
theorem ts56 : Try.t56.size = 1 := rfl
theorem tb56 : Try.t56.bytes = 8 := rfl
theorem tz56 : Try.t56.zero = some Value.nilFunc := rfl
theorem zc56 : zeroCells? Try.prog 56 = some [.v (Value.nilFunc)] := by kernel_rfl
theorem sz57 : szOf Try.prog 57 = some 1 := by kernel_rfl
theorem in57 : Try.prog.info? 57 = some Try.t57 := by kernel_rfl
theorem ts57 : Try.t57.size = 1 := rfl
theorem tb57 : Try.t57.bytes = 8 := rfl
theorem tz57 : Try.t57.zero = some Value.nilFunc := rfl
theorem zc57 : zeroCells? Try.prog 57 = some [.v (Value.nilFunc)] := by kernel_rfl
theorem sz58 : szOf Try.prog 58 = some 1 := by kernel_rfl
theorem in58 : Try.prog.info? 58 = some Try.t58 := by kernel_rfl
theorem ts58 : Try.t58.size = 1 := rfl
theorem tb58 : Try.t58.bytes = 24 := rfl
theorem tz58 : Try.t58.zero = some (Value.slice none 0 0) := rfl
theorem zc58 : zeroCells? Try.prog 58 = some [.v (Value.slice none 0 0)] := by kernel_rfl
theorem sz59 : szOf Try.prog 59 = some 1 := by kernel_rfl
theorem in59 : Try.prog.info? 59 = some Try.t59 := by kernel_rfl
theorem ts59 : Try.t59.size = 1 := rfl
theorem tb59 : Try.t59.bytes = 8 := rfl
theorem tz59 : Try.t59.zero = some Value.nilFunc := rfl
theorem zc59 : zeroCells? Try.prog 59 = some [.v (Value.nilFunc)] := by kernel_rfl
theorem sz60 : szOf Try.prog 60 = some 1 := by kernel_rfl
theorem in60 : Try.prog.info? 60 = some Try.t60 := by kernel_rfl
theorem ts60 : Try.t60.size = 1 := rfl
theorem tb60 : Try.t60.bytes = 24 := rfl
theorem tz60 : Try.t60.zero = some (Value.slice none 0 0) := rfl
theorem zc60 : zeroCells? Try.prog 60 = some [.v (Value.slice none 0 0)] := by kernel_rfl
theorem sz61 : szOf Try.prog 61 = some 1 := by kernel_rfl
theorem in61 : Try.prog.info? 61 = some Try.t61 := by kernel_rfl
theorem ts61 : Try.t61.size = 1 := rfl
theorem tb61 : Try.t61.bytes = 8 := rfl
theorem tz61 : Try.t61.zero = some Value.nilFunc := rfl
theorem zc61 : zeroCells? Try.prog 61 = some [.v (Value.nilFunc)] := by kernel_rfl
theorem sz62 : szOf Try.prog 62 = some 1 := by kernel_rfl
theorem in62 : Try.prog.info? 62 = some Try.t62 := by kernel_rfl
theorem ts62 : Try.t62.size = 1 := rfl
theorem tb62 : Try.t62.bytes = 8 := rfl
theorem tz62 : Try.t62.zero = some Value.nilFunc := rfl
theorem zc62 : zeroCells? Try.prog 62 = some [.v (Value.nilFunc)] := by kernel_rfl
theorem sz63 : szOf Try.prog 63 = some 1 := by kernel_rfl
theorem in63 : Try.prog.info? 63 = some Try.t63 := by kernel_rfl
theorem ts63 : Try.t63.size = 1 := rfl
theorem tb63 : Try.t63.bytes = 8 := rfl
theorem tz63 : Try.t63.zero = some Value.nilFunc := rfl
theorem zc63 : zeroCells? Try.prog 63 = some [.v (Value.nilFunc)] := by kernel_rfl
theorem sz64 : szOf Try.prog 64 = some 1 := by kernel_rfl
theorem in64 : Try.prog.info? 64 = some Try.t64 := by kernel_rfl
theorem ts64 : Try.t64.size = 1 := rfl
theorem tb64 : Try.t64.bytes = 8 := rfl
theorem tz64 : Try.t64.zero = some (Value.int IntKind.i64 0) := rfl
theorem zc64 : zeroCells? Try.prog 64 = some [.v (Value.int IntKind.i64 0)] := by kernel_rfl
theorem sz65 : szOf Try.prog 65 = some 1 := by kernel_rfl
theorem in65 : Try.prog.info? 65 = some Try.t65 := by kernel_rfl
theorem ts65 : Try.t65.size = 1 := rfl
theorem tb65 : Try.t65.bytes = 0 := rfl
theorem tz65 : Try.t65.zero = some (Value.tuple #[Value.agg #[Value.int IntKind.i64 0, Value.int IntKind.i64 0, Value.int IntKind.i64 0, Value.slice none 0 0, Value.slice none 0 0], Value.int IntKind.i64 0]) := rfl
theorem zc65 : zeroCells? Try.prog 65 = some [.v (Value.tuple #[Value.agg #[Value.int IntKind.i64 0, Value.int IntKind.i64 0, Value.int IntKind.i64 0, Value.slice none 0 0, Value.slice none 0 0], Value.int IntKind.i64 0])] := by kernel_rfl
theorem sz66 : szOf Try.prog 66 = some 1 := by kernel_rfl
theorem in66 : Try.prog.info? 66 = some Try.t66 := by kernel_rfl
theorem ts66 : Try.t66.size = 1 := rfl
theorem tb66 : Try.t66.bytes = 8 := rfl
theorem tz66 : Try.t66.zero = some Value.nilFunc := rfl
theorem zc66 : zeroCells? Try.prog 66 = some [.v (Value.nilFunc)] := by kernel_rfl
theorem sz67 : szOf Try.prog 67 = some 2 := by kernel_rfl
theorem in67 : Try.prog.info? 67 = some Try.t67 := by kernel_rfl
theorem ts67 : Try.t67.size = 2 := rfl
theorem tb67 : Try.t67.bytes = 16 := rfl
theorem tz67 : Try.t67.zero = some (Value.agg #[Value.int IntKind.i64 0, Value.int IntKind.i64 0]) := rfl
theorem zc67 : zeroCells? Try.prog 67 = some [.v (Value.int IntKind.i64 0), .v (Value.int IntKind.i64 0)] := by kernel_rfl
theorem pl67 : ∀ fs, Try.prog.underlying 67 = some (.struct fs) → placesOf Try.prog fs = some [(0, 1), (1, 1)] := by
  intro fs h
  rw [Try.underlying67] at h
  cases h
  kernel_rfl
theorem sz68 : szOf Try.prog 68 = some 2 := by kernel_rfl
theorem in68 : Try.prog.info? 68 = some Try.t68 := by kernel_rfl
theorem ts68 : Try.t68.size = 2 := rfl
theorem tb68 : Try.t68.bytes = 16 := rfl
theorem tz68 : Try.t68.zero = some (Value.agg #[Value.int IntKind.i64 0, Value.int IntKind.i64 0]) := rfl
theorem zc68 : zeroCells? Try.prog 68 = some [.v (Value.int IntKind.i64 0), .v (Value.int IntKind.i64 0)] := by kernel_rfl
theorem sz69 : szOf Try.prog 69 = some 1 := by kernel_rfl
theorem in69 : Try.prog.info? 69 = some Try.t69 := by kernel_rfl
theorem ts69 : Try.t69.size = 1 := rfl
theorem tb69 : Try.t69.bytes = 24 := rfl
theorem tz69 : Try.t69.zero = some (Value.slice none 0 0) := rfl
theorem zc69 : zeroCells? Try.prog 69 = some [.v (Value.slice none 0 0)] := by kernel_rfl
theorem sz70 : szOf Try.prog 70 = some 1 := by kernel_rfl
theorem in70 : Try.prog.info? 70 = some Try.t70 := by kernel_rfl
theorem ts70 : Try.t70.size = 1 := rfl
theorem tb70 : Try.t70.bytes = 8 := rfl
theorem tz70 : Try.t70.zero = some Value.nilFunc := rfl
theorem zc70 : zeroCells? Try.prog 70 = some [.v (Value.nilFunc)] := by kernel_rfl
theorem sz71 : szOf Try.prog 71 = some 1 := by kernel_rfl
theorem in71 : Try.prog.info? 71 = some Try.t71 := by kernel_rfl
theorem ts71 : Try.t71.size = 1 := rfl
theorem tb71 : Try.t71.bytes = 8 := rfl
theorem tz71 : Try.t71.zero = some Value.nilFunc := rfl
theorem zc71 : zeroCells? Try.prog 71 = some [.v (Value.nilFunc)] := by kernel_rfl
theorem sz72 : szOf Try.prog 72 = some 3 := by kernel_rfl
theorem in72 : Try.prog.info? 72 = some Try.t72 := by kernel_rfl
theorem ts72 : Try.t72.size = 3 := rfl
theorem tb72 : Try.t72.bytes = 24 := rfl
theorem tz72 : Try.t72.zero = some (Value.agg #[Value.bool false, Value.int IntKind.i64 0, Value.int IntKind.i64 0]) := rfl
theorem zc72 : zeroCells? Try.prog 72 = some [.v (Value.bool false), .v (Value.int IntKind.i64 0), .v (Value.int IntKind.i64 0)] := by kernel_rfl
theorem pl72 : ∀ fs, Try.prog.underlying 72 = some (.struct fs) → placesOf Try.prog fs = some [(0, 1), (1, 1), (2, 1)] := by
  intro fs h
  rw [Try.underlying72] at h
  cases h
  kernel_rfl
theorem sz73 : szOf Try.prog 73 = some 3 := by kernel_rfl
theorem in73 : Try.prog.info? 73 = some Try.t73 := by kernel_rfl
theorem ts73 : Try.t73.size = 3 := rfl
theorem tb73 : Try.t73.bytes = 24 := rfl
theorem tz73 : Try.t73.zero = some (Value.agg #[Value.bool false, Value.int IntKind.i64 0, Value.int IntKind.i64 0]) := rfl
theorem zc73 : zeroCells? Try.prog 73 = some [.v (Value.bool false), .v (Value.int IntKind.i64 0), .v (Value.int IntKind.i64 0)] := by kernel_rfl
theorem sz74 : szOf Try.prog 74 = some 1 := by kernel_rfl
theorem in74 : Try.prog.info? 74 = some Try.t74 := by kernel_rfl
theorem ts74 : Try.t74.size = 1 := rfl
theorem tb74 : Try.t74.bytes = 8 := rfl
theorem tz74 : Try.t74.zero = some Value.nilFunc := rfl
theorem zc74 : zeroCells? Try.prog 74 = some [.v (Value.nilFunc)] := by kernel_rfl
theorem sz75 : szOf Try.prog 75 = some 1 := by kernel_rfl
theorem in75 : Try.prog.info? 75 = some Try.t75 := by kernel_rfl
theorem ts75 : Try.t75.size = 1 := rfl
theorem tb75 : Try.t75.bytes = 8 := rfl
theorem tz75 : Try.t75.zero = some Value.nilFunc := rfl
theorem zc75 : zeroCells? Try.prog 75 = some [.v (Value.nilFunc)] := by kernel_rfl
theorem sz76 : szOf Try.prog 76 = some 1 := by kernel_rfl
theorem in76 : Try.prog.info? 76 = some Try.t76 := by kernel_rfl
theorem ts76 : Try.t76.size = 1 := rfl
theorem tb76 : Try.t76.bytes = 24 := rfl
theorem tz76 : Try.t76.zero = some (Value.slice none 0 0) := rfl
theorem zc76 : zeroCells? Try.prog 76 = some [.v (Value.slice none 0 0)] := by kernel_rfl
theorem sz77 : szOf Try.prog 77 = some 12 := by kernel_rfl
theorem in77 : Try.prog.info? 77 = some Try.t77 := by kernel_rfl
theorem ts77 : Try.t77.size = 12 := rfl
theorem tb77 : Try.t77.bytes = 96 := rfl
theorem tz77 : Try.t77.zero = some (Value.agg #[Value.int IntKind.i64 0, Value.int IntKind.i64 0, Value.int IntKind.i64 0, Value.int IntKind.i64 0, Value.int IntKind.i64 0, Value.int IntKind.i64 0, Value.int IntKind.i64 0, Value.int IntKind.i64 0, Value.int IntKind.i64 0, Value.int IntKind.i64 0, Value.int IntKind.i64 0, Value.int IntKind.i64 0]) := rfl
theorem zc77 : zeroCells? Try.prog 77 = some [.v (Value.int IntKind.i64 0), .v (Value.int IntKind.i64 0), .v (Value.int IntKind.i64 0), .v (Value.int IntKind.i64 0), .v (Value.int IntKind.i64 0), .v (Value.int IntKind.i64 0), .v (Value.int IntKind.i64 0), .v (Value.int IntKind.i64 0), .v (Value.int IntKind.i64 0), .v (Value.int IntKind.i64 0), .v (Value.int IntKind.i64 0), .v (Value.int IntKind.i64 0)] := by kernel_rfl
theorem sz78 : szOf Try.prog 78 = some 1 := by kernel_rfl
theorem in78 : Try.prog.info? 78 = some Try.t78 := by kernel_rfl
theorem ts78 : Try.t78.size = 1 := rfl
theorem tb78 : Try.t78.bytes = 8 := rfl
theorem tz78 : Try.t78.zero = some Value.nilFunc := rfl
theorem zc78 : zeroCells? Try.prog 78 = some [.v (Value.nilFunc)] := by kernel_rfl
theorem sz79 : szOf Try.prog 79 = some 1 := by kernel_rfl
theorem in79 : Try.prog.info? 79 = some Try.t79 := by kernel_rfl
theorem ts79 : Try.t79.size = 1 := rfl
theorem tb79 : Try.t79.bytes = 8 := rfl
theorem tz79 : Try.t79.zero = some Value.nilFunc := rfl
theorem zc79 : zeroCells? Try.prog 79 = some [.v (Value.nilFunc)] := by kernel_rfl
theorem sz80 : szOf Try.prog 80 = some 1 := by kernel_rfl
theorem in80 : Try.prog.info? 80 = some Try.t80 := by kernel_rfl
theorem ts80 : Try.t80.size = 1 := rfl
theorem tb80 : Try.t80.bytes = 0 := rfl
theorem tz80 : Try.t80.zero = some (Value.tuple #[Value.slice none 0 0, Value.int IntKind.i64 0]) := rfl
theorem zc80 : zeroCells? Try.prog 80 = some [.v (Value.tuple #[Value.slice none 0 0, Value.int IntKind.i64 0])] := by kernel_rfl
theorem sz81 : szOf Try.prog 81 = some 1 := by kernel_rfl
theorem in81 : Try.prog.info? 81 = some Try.t81 := by kernel_rfl
theorem ts81 : Try.t81.size = 1 := rfl
theorem tb81 : Try.t81.bytes = 8 := rfl
theorem tz81 : Try.t81.zero = some Value.nilFunc := rfl
theorem zc81 : zeroCells? Try.prog 81 = some [.v (Value.nilFunc)] := by kernel_rfl
theorem sz82 : szOf Try.prog 82 = some 1 := by kernel_rfl
theorem in82 : Try.prog.info? 82 = some Try.t82 := by kernel_rfl
theorem ts82 : Try.t82.size = 1 := rfl
theorem tb82 : Try.t82.bytes = 8 := rfl
theorem tz82 : Try.t82.zero = some Value.nilFunc := rfl
theorem zc82 : zeroCells? Try.prog 82 = some [.v (Value.nilFunc)] := by kernel_rfl
theorem sz83 : szOf Try.prog 83 = some 1 := by kernel_rfl
theorem in83 : Try.prog.info? 83 = some Try.t83 := by kernel_rfl
theorem ts83 : Try.t83.size = 1 := rfl
theorem tb83 : Try.t83.bytes = 8 := rfl
theorem tz83 : Try.t83.zero = some Value.nilFunc := rfl
theorem zc83 : zeroCells? Try.prog 83 = some [.v (Value.nilFunc)] := by kernel_rfl
theorem sz84 : szOf Try.prog 84 = some 1 := by kernel_rfl
theorem in84 : Try.prog.info? 84 = some Try.t84 := by kernel_rfl
theorem ts84 : Try.t84.size = 1 := rfl
theorem tb84 : Try.t84.bytes = 0 := rfl
theorem tz84 : Try.t84.zero = some (Value.tuple #[Value.slice none 0 0, Value.int IntKind.i64 0]) := rfl
theorem zc84 : zeroCells? Try.prog 84 = some [.v (Value.tuple #[Value.slice none 0 0, Value.int IntKind.i64 0])] := by kernel_rfl
theorem sz85 : szOf Try.prog 85 = some 1 := by kernel_rfl
theorem in85 : Try.prog.info? 85 = some Try.t85 := by kernel_rfl
theorem ts85 : Try.t85.size = 1 := rfl
theorem tb85 : Try.t85.bytes = 8 := rfl
theorem tz85 : Try.t85.zero = some Value.nilFunc := rfl
theorem zc85 : zeroCells? Try.prog 85 = some [.v (Value.nilFunc)] := by kernel_rfl
theorem sz86 : szOf Try.prog 86 = some 1 := by kernel_rfl
theorem in86 : Try.prog.info? 86 = some Try.t86 := by kernel_rfl
theorem ts86 : Try.t86.size = 1 := rfl
theorem tb86 : Try.t86.bytes = 8 := rfl
theorem tz86 : Try.t86.zero = some Value.nilFunc := rfl
theorem zc86 : zeroCells? Try.prog 86 = some [.v (Value.nilFunc)] := by kernel_rfl
theorem sz87 : szOf Try.prog 87 = some 1 := by kernel_rfl
theorem in87 : Try.prog.info? 87 = some Try.t87 := by kernel_rfl
theorem ts87 : Try.t87.size = 1 := rfl
theorem tb87 : Try.t87.bytes = 8 := rfl
theorem tz87 : Try.t87.zero = some Value.nilFunc := rfl
theorem zc87 : zeroCells? Try.prog 87 = some [.v (Value.nilFunc)] := by kernel_rfl
theorem sz88 : szOf Try.prog 88 = some 1 := by kernel_rfl
theorem in88 : Try.prog.info? 88 = some Try.t88 := by kernel_rfl
theorem ts88 : Try.t88.size = 1 := rfl
theorem tb88 : Try.t88.bytes = 8 := rfl
theorem tz88 : Try.t88.zero = some Value.nilFunc := rfl
theorem zc88 : zeroCells? Try.prog 88 = some [.v (Value.nilFunc)] := by kernel_rfl
theorem sz89 : szOf Try.prog 89 = some 1 := by kernel_rfl
theorem in89 : Try.prog.info? 89 = some Try.t89 := by kernel_rfl
theorem ts89 : Try.t89.size = 1 := rfl
theorem tb89 : Try.t89.bytes = 8 := rfl
theorem tz89 : Try.t89.zero = some Value.nilFunc := rfl
theorem zc89 : zeroCells? Try.prog 89 = some [.v (Value.nilFunc)] := by kernel_rfl
theorem sz90 : szOf Try.prog 90 = some 3 := by kernel_rfl
theorem in90 : Try.prog.info? 90 = some Try.t90 := by kernel_rfl
theorem ts90 : Try.t90.size = 3 := rfl
theorem tb90 : Try.t90.bytes = 40 := rfl
theorem tz90 : Try.t90.zero = some (Value.agg #[Value.int IntKind.i64 0, Value.int IntKind.i64 0, Value.slice none 0 0]) := rfl
theorem zc90 : zeroCells? Try.prog 90 = some [.v (Value.int IntKind.i64 0), .v (Value.int IntKind.i64 0), .v (Value.slice none 0 0)] := by kernel_rfl
theorem pl90 : ∀ fs, Try.prog.underlying 90 = some (.struct fs) → placesOf Try.prog fs = some [(0, 1), (1, 1), (2, 1)] := by
  intro fs h
  rw [Try.underlying90] at h
  cases h
  kernel_rfl
theorem sz91 : szOf Try.prog 91 = some 3 := by kernel_rfl
theorem in91 : Try.prog.info? 91 = some Try.t91 := by kernel_rfl
theorem ts91 : Try.t91.size = 3 := rfl
theorem tb91 : Try.t91.bytes = 40 := rfl
theorem tz91 : Try.t91.zero = some (Value.agg #[Value.int IntKind.i64 0, Value.int IntKind.i64 0, Value.slice none 0 0]) := rfl
theorem zc91 : zeroCells? Try.prog 91 = some [.v (Value.int IntKind.i64 0), .v (Value.int IntKind.i64 0), .v (Value.slice none 0 0)] := by kernel_rfl
theorem sz92 : szOf Try.prog 92 = some 1 := by kernel_rfl
theorem in92 : Try.prog.info? 92 = some Try.t92 := by kernel_rfl
theorem ts92 : Try.t92.size = 1 := rfl
theorem tb92 : Try.t92.bytes = 8 := rfl
theorem tz92 : Try.t92.zero = some Value.nilFunc := rfl
theorem zc92 : zeroCells? Try.prog 92 = some [.v (Value.nilFunc)] := by kernel_rfl
theorem sz93 : szOf Try.prog 93 = some 1 := by kernel_rfl
theorem in93 : Try.prog.info? 93 = some Try.t93 := by kernel_rfl
theorem ts93 : Try.t93.size = 1 := rfl
theorem tb93 : Try.t93.bytes = 8 := rfl
theorem tz93 : Try.t93.zero = some Value.nilFunc := rfl
theorem zc93 : zeroCells? Try.prog 93 = some [.v (Value.nilFunc)] := by kernel_rfl
theorem sz94 : szOf Try.prog 94 = some 1 := by kernel_rfl
theorem in94 : Try.prog.info? 94 = some Try.t94 := by kernel_rfl
theorem ts94 : Try.t94.size = 1 := rfl
theorem tb94 : Try.t94.bytes = 8 := rfl
theorem tz94 : Try.t94.zero = some Value.nilFunc := rfl
theorem zc94 : zeroCells? Try.prog 94 = some [.v (Value.nilFunc)] := by kernel_rfl
theorem sz95 : szOf Try.prog 95 = some 1 := by kernel_rfl
theorem in95 : Try.prog.info? 95 = some Try.t95 := by kernel_rfl
theorem ts95 : Try.t95.size = 1 := rfl
theorem tb95 : Try.t95.bytes = 0 := rfl
theorem tz95 : Try.t95.zero = some (Value.tuple #[Value.int IntKind.i64 0, Value.int IntKind.i64 0, Value.bool false]) := rfl
theorem zc95 : zeroCells? Try.prog 95 = some [.v (Value.tuple #[Value.int IntKind.i64 0, Value.int IntKind.i64 0, Value.bool false])] := by kernel_rfl
theorem sz96 : szOf Try.prog 96 = some 1 := by kernel_rfl
theorem in96 : Try.prog.info? 96 = some Try.t96 := by kernel_rfl
theorem ts96 : Try.t96.size = 1 := rfl
theorem tb96 : Try.t96.bytes = 8 := rfl
theorem tz96 : Try.t96.zero = some Value.nilFunc := rfl
theorem zc96 : zeroCells? Try.prog 96 = some [.v (Value.nilFunc)] := by kernel_rfl
theorem sz97 : szOf Try.prog 97 = some 1 := by kernel_rfl
theorem in97 : Try.prog.info? 97 = some Try.t97 := by kernel_rfl
theorem ts97 : Try.t97.size = 1 := rfl
theorem tb97 : Try.t97.bytes = 0 := rfl
theorem tz97 : Try.t97.zero = some (Value.tuple #[Value.int IntKind.i64 0, Value.bool false]) := rfl
theorem zc97 : zeroCells? Try.prog 97 = some [.v (Value.tuple #[Value.int IntKind.i64 0, Value.bool false])] := by kernel_rfl
theorem sz98 : szOf Try.prog 98 = some 1 := by kernel_rfl
theorem in98 : Try.prog.info? 98 = some Try.t98 := by kernel_rfl
theorem ts98 : Try.t98.size = 1 := rfl
theorem tb98 : Try.t98.bytes = 8 := rfl
theorem tz98 : Try.t98.zero = some Value.nilFunc := rfl
theorem zc98 : zeroCells? Try.prog 98 = some [.v (Value.nilFunc)] := by kernel_rfl
theorem sz99 : szOf Try.prog 99 = some 1 := by kernel_rfl
theorem in99 : Try.prog.info? 99 = some Try.t99 := by kernel_rfl
theorem ts99 : Try.t99.size = 1 := rfl
theorem tb99 : Try.t99.bytes = 8 := rfl
theorem tz99 : Try.t99.zero = some Value.nilFunc := rfl
theorem zc99 : zeroCells? Try.prog 99 = some [.v (Value.nilFunc)] := by kernel_rfl
theorem sz100 : szOf Try.prog 100 = some 1 := by kernel_rfl
theorem in100 : Try.prog.info? 100 = some Try.t100 := by kernel_rfl
theorem ts100 : Try.t100.size = 1 := rfl
theorem tb100 : Try.t100.bytes = 8 := rfl
theorem tz100 : Try.t100.zero = some Value.nilFunc := rfl
theorem zc100 : zeroCells? Try.prog 100 = some [.v (Value.nilFunc)] := by kernel_rfl
theorem sz101 : szOf Try.prog 101 = some 1 := by kernel_rfl
theorem in101 : Try.prog.info? 101 = some Try.t101 := by kernel_rfl
theorem ts101 : Try.t101.size = 1 := rfl
theorem tb101 : Try.t101.bytes = 8 := rfl
theorem tz101 : Try.t101.zero = some Value.nilFunc := rfl
theorem zc101 : zeroCells? Try.prog 101 = some [.v (Value.nilFunc)] := by kernel_rfl
theorem sz102 : szOf Try.prog 102 = some 1 := by kernel_rfl
theorem in102 : Try.prog.info? 102 = some Try.t102 := by kernel_rfl
theorem ts102 : Try.t102.size = 1 := rfl
theorem tb102 : Try.t102.bytes = 8 := rfl
theorem tz102 : Try.t102.zero = some Value.nilFunc := rfl
theorem zc102 : zeroCells? Try.prog 102 = some [.v (Value.nilFunc)] := by kernel_rfl
theorem sz103 : szOf Try.prog 103 = some 1 := by kernel_rfl
theorem in103 : Try.prog.info? 103 = some Try.t103 := by kernel_rfl
theorem ts103 : Try.t103.size = 1 := rfl
theorem tb103 : Try.t103.bytes = 0 := rfl
theorem tz103 : Try.t103.zero = some (Value.tuple #[Value.int IntKind.u64 0, Value.int IntKind.i64 0]) := rfl
theorem zc103 : zeroCells? Try.prog 103 = some [.v (Value.tuple #[Value.int IntKind.u64 0, Value.int IntKind.i64 0])] := by kernel_rfl
theorem sz104 : szOf Try.prog 104 = some 1 := by kernel_rfl
theorem in104 : Try.prog.info? 104 = some Try.t104 := by kernel_rfl
theorem ts104 : Try.t104.size = 1 := rfl
theorem tb104 : Try.t104.bytes = 8 := rfl
theorem tz104 : Try.t104.zero = some Value.nilFunc := rfl
theorem zc104 : zeroCells? Try.prog 104 = some [.v (Value.nilFunc)] := by kernel_rfl
theorem sz105 : szOf Try.prog 105 = some 1 := by kernel_rfl
theorem in105 : Try.prog.info? 105 = some Try.t105 := by kernel_rfl
theorem ts105 : Try.t105.size = 1 := rfl
theorem tb105 : Try.t105.bytes = 8 := rfl
theorem tz105 : Try.t105.zero = some Value.nilFunc := rfl
theorem zc105 : zeroCells? Try.prog 105 = some [.v (Value.nilFunc)] := by kernel_rfl
theorem sz106 : szOf Try.prog 106 = some 1 := by kernel_rfl
theorem in106 : Try.prog.info? 106 = some Try.t106 := by kernel_rfl
theorem ts106 : Try.t106.size = 1 := rfl
theorem tb106 : Try.t106.bytes = 8 := rfl
theorem tz106 : Try.t106.zero = some Value.nilFunc := rfl
theorem zc106 : zeroCells? Try.prog 106 = some [.v (Value.nilFunc)] := by kernel_rfl
theorem sz107 : szOf Try.prog 107 = some 2 := by kernel_rfl
theorem in107 : Try.prog.info? 107 = some Try.t107 := by kernel_rfl
theorem ts107 : Try.t107.size = 2 := rfl
theorem tb107 : Try.t107.bytes = 16 := rfl
theorem tz107 : Try.t107.zero = some (Value.agg #[Value.int IntKind.i64 0, Value.int IntKind.i64 0]) := rfl
theorem zc107 : zeroCells? Try.prog 107 = some [.v (Value.int IntKind.i64 0), .v (Value.int IntKind.i64 0)] := by kernel_rfl
theorem sz108 : szOf Try.prog 108 = some 1 := by kernel_rfl
theorem in108 : Try.prog.info? 108 = some Try.t108 := by kernel_rfl
theorem ts108 : Try.t108.size = 1 := rfl
theorem tb108 : Try.t108.bytes = 8 := rfl
theorem tz108 : Try.t108.zero = some Value.nilFunc := rfl
theorem zc108 : zeroCells? Try.prog 108 = some [.v (Value.nilFunc)] := by kernel_rfl
theorem sz109 : szOf Try.prog 109 = some 1 := by kernel_rfl
theorem in109 : Try.prog.info? 109 = some Try.t109 := by kernel_rfl
theorem ts109 : Try.t109.size = 1 := rfl
theorem tb109 : Try.t109.bytes = 8 := rfl
theorem tz109 : Try.t109.zero = some Value.nilFunc := rfl
theorem zc109 : zeroCells? Try.prog 109 = some [.v (Value.nilFunc)] := by kernel_rfl
theorem sz110 : szOf Try.prog 110 = some 1 := by kernel_rfl
theorem in110 : Try.prog.info? 110 = some Try.t110 := by kernel_rfl
theorem ts110 : Try.t110.size = 1 := rfl
theorem tb110 : Try.t110.bytes = 0 := rfl
theorem tz110 : Try.t110.zero = some (Value.tuple #[Value.slice none 0 0, Value.int IntKind.i64 0]) := rfl
theorem zc110 : zeroCells? Try.prog 110 = some [.v (Value.tuple #[Value.slice none 0 0, Value.int IntKind.i64 0])] := by kernel_rfl
theorem sz111 : szOf Try.prog 111 = some 1 := by kernel_rfl
theorem in111 : Try.prog.info? 111 = some Try.t111 := by kernel_rfl
theorem ts111 : Try.t111.size = 1 := rfl
theorem tb111 : Try.t111.bytes = 8 := rfl
theorem tz111 : Try.t111.zero = some Value.nilFunc := rfl
theorem zc111 : zeroCells? Try.prog 111 = some [.v (Value.nilFunc)] := by kernel_rfl
theorem sz112 : szOf Try.prog 112 = some 1 := by kernel_rfl
theorem in112 : Try.prog.info? 112 = some Try.t112 := by kernel_rfl
theorem ts112 : Try.t112.size = 1 := rfl
theorem tb112 : Try.t112.bytes = 8 := rfl
theorem tz112 : Try.t112.zero = some Value.nilFunc := rfl
theorem zc112 : zeroCells? Try.prog 112 = some [.v (Value.nilFunc)] := by kernel_rfl
theorem sz113 : szOf Try.prog 113 = some 1 := by kernel_rfl
theorem in113 : Try.prog.info? 113 = some Try.t113 := by kernel_rfl
theorem ts113 : Try.t113.size = 1 := rfl
theorem tb113 : Try.t113.bytes = 8 := rfl
theorem tz113 : Try.t113.zero = some Value.nilFunc := rfl
theorem zc113 : zeroCells? Try.prog 113 = some [.v (Value.nilFunc)] := by kernel_rfl
theorem sz114 : szOf Try.prog 114 = some 1 := by kernel_rfl
theorem in114 : Try.prog.info? 114 = some Try.t114 := by kernel_rfl
theorem ts114 : Try.t114.size = 1 := rfl
theorem tb114 : Try.t114.bytes = 8 := rfl
theorem tz114 : Try.t114.zero = some Value.nilFunc := rfl
theorem zc114 : zeroCells? Try.prog 114 = some [.v (Value.nilFunc)] := by kernel_rfl
theorem sz115 : szOf Try.prog 115 = some 1 := by kernel_rfl
theorem in115 : Try.prog.info? 115 = some Try.t115 := by kernel_rfl
theorem ts115 : Try.t115.size = 1 := rfl
theorem tb115 : Try.t115.bytes = 8 := rfl
theorem tz115 : Try.t115.zero = some Value.nilFunc := rfl
theorem zc115 : zeroCells? Try.prog 115 = some [.v (Value.nilFunc)] := by kernel_rfl
theorem sz116 : szOf Try.prog 116 = some 1 := by kernel_rfl
theorem in116 : Try.prog.info? 116 = some Try.t116 := by kernel_rfl
theorem ts116 : Try.t116.size = 1 := rfl
theorem tb116 : Try.t116.bytes = 0 := rfl
theorem tz116 : Try.t116.zero = some (Value.tuple #[Value.agg #[Value.int IntKind.i64 0, Value.int IntKind.i64 0, Value.slice none 0 0], Value.int IntKind.i64 0]) := rfl
theorem zc116 : zeroCells? Try.prog 116 = some [.v (Value.tuple #[Value.agg #[Value.int IntKind.i64 0, Value.int IntKind.i64 0, Value.slice none 0 0], Value.int IntKind.i64 0])] := by kernel_rfl
theorem sz117 : szOf Try.prog 117 = some 1 := by kernel_rfl
theorem in117 : Try.prog.info? 117 = some Try.t117 := by kernel_rfl
theorem ts117 : Try.t117.size = 1 := rfl
theorem tb117 : Try.t117.bytes = 8 := rfl
theorem tz117 : Try.t117.zero = some Value.nilFunc := rfl
theorem zc117 : zeroCells? Try.prog 117 = some [.v (Value.nilFunc)] := by kernel_rfl
theorem sz118 : szOf Try.prog 118 = some 1 := by kernel_rfl
theorem in118 : Try.prog.info? 118 = some Try.t118 := by kernel_rfl
theorem ts118 : Try.t118.size = 1 := rfl
theorem tb118 : Try.t118.bytes = 8 := rfl
theorem tz118 : Try.t118.zero = some Value.nilFunc := rfl
theorem zc118 : zeroCells? Try.prog 118 = some [.v (Value.nilFunc)] := by kernel_rfl
theorem sz119 : szOf Try.prog 119 = some 1 := by kernel_rfl
theorem in119 : Try.prog.info? 119 = some Try.t119 := by kernel_rfl
theorem ts119 : Try.t119.size = 1 := rfl
theorem tb119 : Try.t119.bytes = 8 := rfl
theorem tz119 : Try.t119.zero = some Value.nilFunc := rfl
theorem zc119 : zeroCells? Try.prog 119 = some [.v (Value.nilFunc)] := by kernel_rfl
theorem sz120 : szOf Try.prog 120 = some 1 := by kernel_rfl
theorem in120 : Try.prog.info? 120 = some Try.t120 := by kernel_rfl
theorem ts120 : Try.t120.size = 1 := rfl
theorem tb120 : Try.t120.bytes = 8 := rfl
theorem tz120 : Try.t120.zero = some Value.nilFunc := rfl
theorem zc120 : zeroCells? Try.prog 120 = some [.v (Value.nilFunc)] := by kernel_rfl
theorem sz121 : szOf Try.prog 121 = some 1 := by kernel_rfl
theorem in121 : Try.prog.info? 121 = some Try.t121 := by kernel_rfl
theorem ts121 : Try.t121.size = 1 := rfl
theorem tb121 : Try.t121.bytes = 8 := rfl
theorem tz121 : Try.t121.zero = some Value.nilFunc := rfl
theorem zc121 : zeroCells? Try.prog 121 = some [.v (Value.nilFunc)] := by kernel_rfl
theorem sz122 : szOf Try.prog 122 = some 1 := by kernel_rfl
theorem in122 : Try.prog.info? 122 = some Try.t122 := by kernel_rfl
theorem ts122 : Try.t122.size = 1 := rfl
theorem tb122 : Try.t122.bytes = 8 := rfl
theorem tz122 : Try.t122.zero = some Value.nilFunc := rfl
theorem zc122 : zeroCells? Try.prog 122 = some [.v (Value.nilFunc)] := by kernel_rfl
theorem sz123 : szOf Try.prog 123 = some 1 := by kernel_rfl
theorem in123 : Try.prog.info? 123 = some Try.t123 := by kernel_rfl
theorem ts123 : Try.t123.size = 1 := rfl
theorem tb123 : Try.t123.bytes = 8 := rfl
theorem tz123 : Try.t123.zero = some Value.nilFunc := rfl
theorem zc123 : zeroCells? Try.prog 123 = some [.v (Value.nilFunc)] := by kernel_rfl
theorem sz124 : szOf Try.prog 124 = some 1 := by kernel_rfl
theorem in124 : Try.prog.info? 124 = some Try.t124 := by kernel_rfl
theorem ts124 : Try.t124.size = 1 := rfl
theorem tb124 : Try.t124.bytes = 8 := rfl
theorem tz124 : Try.t124.zero = some (Value.int IntKind.u64 0) := rfl
theorem zc124 : zeroCells? Try.prog 124 = some [.v (Value.int IntKind.u64 0)] := by kernel_rfl
theorem sz125 : szOf Try.prog 125 = some 1 := by kernel_rfl
theorem in125 : Try.prog.info? 125 = some Try.t125 := by kernel_rfl
theorem ts125 : Try.t125.size = 1 := rfl
theorem tb125 : Try.t125.bytes = 8 := rfl
theorem tz125 : Try.t125.zero = some Value.nilFunc := rfl
theorem zc125 : zeroCells? Try.prog 125 = some [.v (Value.nilFunc)] := by kernel_rfl
theorem sz126 : szOf Try.prog 126 = some 1 := by kernel_rfl
theorem in126 : Try.prog.info? 126 = some Try.t126 := by kernel_rfl
theorem ts126 : Try.t126.size = 1 := rfl
theorem tb126 : Try.t126.bytes = 8 := rfl
theorem tz126 : Try.t126.zero = some Value.nilFunc := rfl
theorem zc126 : zeroCells? Try.prog 126 = some [.v (Value.nilFunc)] := by kernel_rfl
theorem sz127 : szOf Try.prog 127 = some 1 := by kernel_rfl
theorem in127 : Try.prog.info? 127 = some Try.t127 := by kernel_rfl
theorem ts127 : Try.t127.size = 1 := rfl
theorem tb127 : Try.t127.bytes = 0 := rfl
theorem tz127 : Try.t127.zero = some (Value.tuple #[Value.int IntKind.u64 0, Value.int IntKind.i64 0]) := rfl
theorem zc127 : zeroCells? Try.prog 127 = some [.v (Value.tuple #[Value.int IntKind.u64 0, Value.int IntKind.i64 0])] := by kernel_rfl
theorem sz128 : szOf Try.prog 128 = some 1 := by kernel_rfl
theorem in128 : Try.prog.info? 128 = some Try.t128 := by kernel_rfl
theorem ts128 : Try.t128.size = 1 := rfl
theorem tb128 : Try.t128.bytes = 8 := rfl
theorem tz128 : Try.t128.zero = some Value.nilFunc := rfl
theorem zc128 : zeroCells? Try.prog 128 = some [.v (Value.nilFunc)] := by kernel_rfl
theorem sz129 : szOf Try.prog 129 = some 1 := by kernel_rfl
theorem in129 : Try.prog.info? 129 = some Try.t129 := by kernel_rfl
theorem ts129 : Try.t129.size = 1 := rfl
theorem tb129 : Try.t129.bytes = 8 := rfl
theorem tz129 : Try.t129.zero = some Value.nilFunc := rfl
theorem zc129 : zeroCells? Try.prog 129 = some [.v (Value.nilFunc)] := by kernel_rfl
theorem sz130 : szOf Try.prog 130 = some 1 := by kernel_rfl
theorem in130 : Try.prog.info? 130 = some Try.t130 := by kernel_rfl
theorem ts130 : Try.t130.size = 1 := rfl
theorem tb130 : Try.t130.bytes = 8 := rfl
theorem tz130 : Try.t130.zero = some Value.nilFunc := rfl
theorem zc130 : zeroCells? Try.prog 130 = some [.v (Value.nilFunc)] := by kernel_rfl
theorem sz131 : szOf Try.prog 131 = some 1 := by kernel_rfl
theorem in131 : Try.prog.info? 131 = some Try.t131 := by kernel_rfl
theorem ts131 : Try.t131.size = 1 := rfl
theorem tb131 : Try.t131.bytes = 8 := rfl
theorem tz131 : Try.t131.zero = some Value.nilFunc := rfl
theorem zc131 : zeroCells? Try.prog 131 = some [.v (Value.nilFunc)] := by kernel_rfl
theorem sz132 : szOf Try.prog 132 = some 1 := by kernel_rfl
theorem in132 : Try.prog.info? 132 = some Try.t132 := by kernel_rfl
theorem ts132 : Try.t132.size = 1 := rfl
theorem tb132 : Try.t132.bytes = 24 := rfl
theorem tz132 : Try.t132.zero = some (Value.slice none 0 0) := rfl
theorem zc132 : zeroCells? Try.prog 132 = some [.v (Value.slice none 0 0)] := by kernel_rfl
theorem sz133 : szOf Try.prog 133 = some 1 := by kernel_rfl
theorem in133 : Try.prog.info? 133 = some Try.t133 := by kernel_rfl
theorem ts133 : Try.t133.size = 1 := rfl
theorem tb133 : Try.t133.bytes = 8 := rfl
theorem tz133 : Try.t133.zero = some Value.nilFunc := rfl
theorem zc133 : zeroCells? Try.prog 133 = some [.v (Value.nilFunc)] := by kernel_rfl
theorem sz134 : szOf Try.prog 134 = some 1 := by kernel_rfl
theorem in134 : Try.prog.info? 134 = some Try.t134 := by kernel_rfl
theorem ts134 : Try.t134.size = 1 := rfl
theorem tb134 : Try.t134.bytes = 8 := rfl
theorem tz134 : Try.t134.zero = some Value.nilFunc := rfl
theorem zc134 : zeroCells? Try.prog 134 = some [.v (Value.nilFunc)] := by kernel_rfl
theorem sz135 : szOf Try.prog 135 = some 1 := by kernel_rfl
theorem in135 : Try.prog.info? 135 = some Try.t135 := by kernel_rfl
theorem ts135 : Try.t135.size = 1 := rfl
theorem tb135 : Try.t135.bytes = 8 := rfl
theorem tz135 : Try.t135.zero = some Value.nilFunc := rfl
theorem zc135 : zeroCells? Try.prog 135 = some [.v (Value.nilFunc)] := by kernel_rfl
theorem sz136 : szOf Try.prog 136 = some 1 := by kernel_rfl
theorem in136 : Try.prog.info? 136 = some Try.t136 := by kernel_rfl
theorem ts136 : Try.t136.size = 1 := rfl
theorem tb136 : Try.t136.bytes = 8 := rfl
theorem tz136 : Try.t136.zero = some Value.nilFunc := rfl
theorem zc136 : zeroCells? Try.prog 136 = some [.v (Value.nilFunc)] := by kernel_rfl
theorem sz137 : szOf Try.prog 137 = some 1 := by kernel_rfl
theorem in137 : Try.prog.info? 137 = some Try.t137 := by kernel_rfl
theorem ts137 : Try.t137.size = 1 := rfl
theorem tb137 : Try.t137.bytes = 24 := rfl
theorem tz137 : Try.t137.zero = some (Value.slice none 0 0) := rfl
theorem zc137 : zeroCells? Try.prog 137 = some [.v (Value.slice none 0 0)] := by kernel_rfl
theorem sz138 : szOf Try.prog 138 = some 1 := by kernel_rfl
theorem in138 : Try.prog.info? 138 = some Try.t138 := by kernel_rfl
theorem ts138 : Try.t138.size = 1 := rfl
theorem tb138 : Try.t138.bytes = 8 := rfl
theorem tz138 : Try.t138.zero = some Value.nilFunc := rfl
theorem zc138 : zeroCells? Try.prog 138 = some [.v (Value.nilFunc)] := by kernel_rfl
theorem sz139 : szOf Try.prog 139 = some 1 := by kernel_rfl
theorem in139 : Try.prog.info? 139 = some Try.t139 := by kernel_rfl
theorem ts139 : Try.t139.size = 1 := rfl
theorem tb139 : Try.t139.bytes = 4 := rfl
theorem tz139 : Try.t139.zero = some (Value.int IntKind.u32 0) := rfl
theorem zc139 : zeroCells? Try.prog 139 = some [.v (Value.int IntKind.u32 0)] := by kernel_rfl
theorem sz140 : szOf Try.prog 140 = some 1 := by kernel_rfl
theorem in140 : Try.prog.info? 140 = some Try.t140 := by kernel_rfl
theorem ts140 : Try.t140.size = 1 := rfl
theorem tb140 : Try.t140.bytes = 8 := rfl
theorem tz140 : Try.t140.zero = some Value.nilFunc := rfl
theorem zc140 : zeroCells? Try.prog 140 = some [.v (Value.nilFunc)] := by kernel_rfl
theorem sz141 : szOf Try.prog 141 = some 1 := by kernel_rfl
theorem in141 : Try.prog.info? 141 = some Try.t141 := by kernel_rfl
theorem ts141 : Try.t141.size = 1 := rfl
theorem tb141 : Try.t141.bytes = 8 := rfl
theorem tz141 : Try.t141.zero = some Value.nilFunc := rfl
theorem zc141 : zeroCells? Try.prog 141 = some [.v (Value.nilFunc)] := by kernel_rfl
theorem sz142 : szOf Try.prog 142 = some 1 := by kernel_rfl
theorem in142 : Try.prog.info? 142 = some Try.t142 := by kernel_rfl
theorem ts142 : Try.t142.size = 1 := rfl
theorem tb142 : Try.t142.bytes = 8 := rfl
theorem tz142 : Try.t142.zero = some Value.nilFunc := rfl
theorem zc142 : zeroCells? Try.prog 142 = some [.v (Value.nilFunc)] := by kernel_rfl
theorem sz143 : szOf Try.prog 143 = some 1 := by kernel_rfl
theorem in143 : Try.prog.info? 143 = some Try.t143 := by kernel_rfl
theorem ts143 : Try.t143.size = 1 := rfl
theorem tb143 : Try.t143.bytes = 24 := rfl
theorem tz143 : Try.t143.zero = some (Value.slice none 0 0) := rfl
theorem zc143 : zeroCells? Try.prog 143 = some [.v (Value.slice none 0 0)] := by kernel_rfl
theorem sz144 : szOf Try.prog 144 = some 1 := by kernel_rfl
theorem in144 : Try.prog.info? 144 = some Try.t144 := by kernel_rfl
theorem ts144 : Try.t144.size = 1 := rfl
theorem tb144 : Try.t144.bytes = 8 := rfl
theorem tz144 : Try.t144.zero = some Value.nilFunc := rfl
theorem zc144 : zeroCells? Try.prog 144 = some [.v (Value.nilFunc)] := by kernel_rfl
theorem sz145 : szOf Try.prog 145 = some 1 := by kernel_rfl
theorem in145 : Try.prog.info? 145 = some Try.t145 := by kernel_rfl
theorem ts145 : Try.t145.size = 1 := rfl
theorem tb145 : Try.t145.bytes = 0 := rfl
theorem tz145 : Try.t145.zero = some (Value.tuple #[Value.int IntKind.u64 0, Value.int IntKind.u64 0]) := rfl
theorem zc145 : zeroCells? Try.prog 145 = some [.v (Value.tuple #[Value.int IntKind.u64 0, Value.int IntKind.u64 0])] := by kernel_rfl
theorem sz146 : szOf Try.prog 146 = some 1 := by kernel_rfl
theorem in146 : Try.prog.info? 146 = some Try.t146 := by kernel_rfl
theorem ts146 : Try.t146.size = 1 := rfl
theorem tb146 : Try.t146.bytes = 8 := rfl
theorem tz146 : Try.t146.zero = some Value.nilFunc := rfl
theorem zc146 : zeroCells? Try.prog 146 = some [.v (Value.nilFunc)] := by kernel_rfl
theorem sz147 : szOf Try.prog 147 = some 1 := by kernel_rfl
theorem in147 : Try.prog.info? 147 = some Try.t147 := by kernel_rfl
theorem ts147 : Try.t147.size = 1 := rfl
theorem tb147 : Try.t147.bytes = 8 := rfl
theorem tz147 : Try.t147.zero = some Value.nilFunc := rfl
theorem zc147 : zeroCells? Try.prog 147 = some [.v (Value.nilFunc)] := by kernel_rfl
theorem sz148 : szOf Try.prog 148 = some 1 := by kernel_rfl
theorem in148 : Try.prog.info? 148 = some Try.t148 := by kernel_rfl
theorem ts148 : Try.t148.size = 1 := rfl
theorem tb148 : Try.t148.bytes = 8 := rfl
theorem tz148 : Try.t148.zero = some Value.nilFunc := rfl
theorem zc148 : zeroCells? Try.prog 148 = some [.v (Value.nilFunc)] := by kernel_rfl
theorem sz149 : szOf Try.prog 149 = some 1 := by kernel_rfl
theorem in149 : Try.prog.info? 149 = some Try.t149 := by kernel_rfl
theorem ts149 : Try.t149.size = 1 := rfl
theorem tb149 : Try.t149.bytes = 16 := rfl
theorem tz149 : Try.t149.zero = some Value.nilIface := rfl
theorem zc149 : zeroCells? Try.prog 149 = some [.v (Value.nilIface)] := by kernel_rfl
theorem sz150 : szOf Try.prog 150 = some 1 := by kernel_rfl
theorem in150 : Try.prog.info? 150 = some Try.t150 := by kernel_rfl
theorem ts150 : Try.t150.size = 1 := rfl
theorem tb150 : Try.t150.bytes = 16 := rfl
theorem tz150 : Try.t150.zero = some Value.nilIface := rfl
theorem zc150 : zeroCells? Try.prog 150 = some [.v (Value.nilIface)] := by kernel_rfl
theorem sz151 : szOf Try.prog 151 = some 1 := by kernel_rfl
theorem in151 : Try.prog.info? 151 = some Try.t151 := by kernel_rfl
theorem ts151 : Try.t151.size = 1 := rfl
theorem tb151 : Try.t151.bytes = 8 := rfl
theorem tz151 : Try.t151.zero = some Value.nilFunc := rfl
theorem zc151 : zeroCells? Try.prog 151 = some [.v (Value.nilFunc)] := by kernel_rfl
theorem sz152 : szOf Try.prog 152 = some 4 := by kernel_rfl
theorem in152 : Try.prog.info? 152 = some Try.t152 := by kernel_rfl
theorem ts152 : Try.t152.size = 4 := rfl
theorem tb152 : Try.t152.bytes = 40 := rfl
theorem tz152 : Try.t152.zero = some (Value.agg #[Value.pointer none, Value.pointer none, Value.pointer none, Value.string { data := #[] }]) := rfl
theorem zc152 : zeroCells? Try.prog 152 = some [.v (Value.pointer none), .v (Value.pointer none), .v (Value.pointer none), .v (Value.string { data := #[] })] := by kernel_rfl
theorem pl152 : ∀ fs, Try.prog.underlying 152 = some (.struct fs) → placesOf Try.prog fs = some [(0, 1), (1, 1), (2, 1), (3, 1)] := by
  intro fs h
  rw [Try.underlying152] at h
  cases h
  kernel_rfl
theorem sz153 : szOf Try.prog 153 = some 4 := by kernel_rfl
theorem in153 : Try.prog.info? 153 = some Try.t153 := by kernel_rfl
theorem ts153 : Try.t153.size = 4 := rfl
theorem tb153 : Try.t153.bytes = 40 := rfl
theorem tz153 : Try.t153.zero = some (Value.agg #[Value.pointer none, Value.pointer none, Value.pointer none, Value.string { data := #[] }]) := rfl
theorem zc153 : zeroCells? Try.prog 153 = some [.v (Value.pointer none), .v (Value.pointer none), .v (Value.pointer none), .v (Value.string { data := #[] })] := by kernel_rfl
theorem sz154 : szOf Try.prog 154 = some 0 := by kernel_rfl
theorem in154 : Try.prog.info? 154 = some Try.t154 := by kernel_rfl
theorem ts154 : Try.t154.size = 0 := rfl
theorem tb154 : Try.t154.bytes = 0 := rfl
theorem tz154 : Try.t154.zero = some (Value.agg #[]) := rfl
theorem zc154 : zeroCells? Try.prog 154 = some [] := by kernel_rfl
theorem sz155 : szOf Try.prog 155 = some 0 := by kernel_rfl
theorem in155 : Try.prog.info? 155 = some Try.t155 := by kernel_rfl
theorem ts155 : Try.t155.size = 0 := rfl
theorem tb155 : Try.t155.bytes = 0 := rfl
theorem tz155 : Try.t155.zero = some (Value.agg #[]) := rfl
theorem zc155 : zeroCells? Try.prog 155 = some [] := by kernel_rfl
theorem pl155 : ∀ fs, Try.prog.underlying 155 = some (.struct fs) → placesOf Try.prog fs = some [(0, 0)] := by
  intro fs h
  rw [Try.underlying155] at h
  cases h
  kernel_rfl
theorem sz156 : szOf Try.prog 156 = some 0 := by kernel_rfl
theorem in156 : Try.prog.info? 156 = some Try.t156 := by kernel_rfl
theorem ts156 : Try.t156.size = 0 := rfl
theorem tb156 : Try.t156.bytes = 0 := rfl
theorem tz156 : Try.t156.zero = some (Value.agg #[]) := rfl
theorem zc156 : zeroCells? Try.prog 156 = some [] := by kernel_rfl
theorem sz157 : szOf Try.prog 157 = some 1 := by kernel_rfl
theorem in157 : Try.prog.info? 157 = some Try.t157 := by kernel_rfl
theorem ts157 : Try.t157.size = 1 := rfl
theorem tb157 : Try.t157.bytes = 8 := rfl
theorem tz157 : Try.t157.zero = some Value.nilFunc := rfl
theorem zc157 : zeroCells? Try.prog 157 = some [.v (Value.nilFunc)] := by kernel_rfl
theorem sz158 : szOf Try.prog 158 = some 1 := by kernel_rfl
theorem in158 : Try.prog.info? 158 = some Try.t158 := by kernel_rfl
theorem ts158 : Try.t158.size = 1 := rfl
theorem tb158 : Try.t158.bytes = 1 := rfl
theorem tz158 : Try.t158.zero = some (Value.int IntKind.u8 0) := rfl
theorem zc158 : zeroCells? Try.prog 158 = some [.v (Value.int IntKind.u8 0)] := by kernel_rfl
theorem sz159 : szOf Try.prog 159 = some 1 := by kernel_rfl
theorem in159 : Try.prog.info? 159 = some Try.t159 := by kernel_rfl
theorem ts159 : Try.t159.size = 1 := rfl
theorem tb159 : Try.t159.bytes = 1 := rfl
theorem tz159 : Try.t159.zero = some (Value.int IntKind.u8 0) := rfl
theorem zc159 : zeroCells? Try.prog 159 = some [.v (Value.int IntKind.u8 0)] := by kernel_rfl
theorem sz160 : szOf Try.prog 160 = some 1 := by kernel_rfl
theorem in160 : Try.prog.info? 160 = some Try.t160 := by kernel_rfl
theorem ts160 : Try.t160.size = 1 := rfl
theorem tb160 : Try.t160.bytes = 8 := rfl
theorem tz160 : Try.t160.zero = some Value.nilFunc := rfl
theorem zc160 : zeroCells? Try.prog 160 = some [.v (Value.nilFunc)] := by kernel_rfl
theorem sz161 : szOf Try.prog 161 = some 1 := by kernel_rfl
theorem in161 : Try.prog.info? 161 = some Try.t161 := by kernel_rfl
theorem ts161 : Try.t161.size = 1 := rfl
theorem tb161 : Try.t161.bytes = 8 := rfl
theorem tz161 : Try.t161.zero = some (Value.pointer none) := rfl
theorem zc161 : zeroCells? Try.prog 161 = some [.v (Value.pointer none)] := by kernel_rfl
theorem sz162 : szOf Try.prog 162 = some 1 := by kernel_rfl
theorem in162 : Try.prog.info? 162 = some Try.t162 := by kernel_rfl
theorem ts162 : Try.t162.size = 1 := rfl
theorem tb162 : Try.t162.bytes = 4 := rfl
theorem tz162 : Try.t162.zero = some (Value.int IntKind.i32 0) := rfl
theorem zc162 : zeroCells? Try.prog 162 = some [.v (Value.int IntKind.i32 0)] := by kernel_rfl
theorem sz163 : szOf Try.prog 163 = some 1 := by kernel_rfl
theorem in163 : Try.prog.info? 163 = some Try.t163 := by kernel_rfl
theorem ts163 : Try.t163.size = 1 := rfl
theorem tb163 : Try.t163.bytes = 4 := rfl
theorem tz163 : Try.t163.zero = some (Value.int IntKind.i32 0) := rfl
theorem zc163 : zeroCells? Try.prog 163 = some [.v (Value.int IntKind.i32 0)] := by kernel_rfl
theorem sz164 : szOf Try.prog 164 = some 11 := by kernel_rfl
theorem in164 : Try.prog.info? 164 = some Try.t164 := by kernel_rfl
theorem ts164 : Try.t164.size = 11 := rfl
theorem tb164 : Try.t164.bytes = 48 := rfl
theorem tz164 : Try.t164.zero = some (Value.agg #[Value.int IntKind.u64 0, Value.int IntKind.u64 0, Value.int IntKind.u32 0, Value.int IntKind.u8 0, Value.int IntKind.u8 0, Value.int IntKind.u8 0, Value.int IntKind.u8 0, Value.nilFunc, Value.pointer none, Value.int IntKind.i32 0, Value.int IntKind.i32 0]) := rfl
theorem zc164 : zeroCells? Try.prog 164 = some [.v (Value.int IntKind.u64 0), .v (Value.int IntKind.u64 0), .v (Value.int IntKind.u32 0), .v (Value.int IntKind.u8 0), .v (Value.int IntKind.u8 0), .v (Value.int IntKind.u8 0), .v (Value.int IntKind.u8 0), .v (Value.nilFunc), .v (Value.pointer none), .v (Value.int IntKind.i32 0), .v (Value.int IntKind.i32 0)] := by kernel_rfl
theorem pl164 : ∀ fs, Try.prog.underlying 164 = some (.struct fs) → placesOf Try.prog fs = some [(0, 1), (1, 1), (2, 1), (3, 1), (4, 1), (5, 1), (6, 1), (7, 1), (8, 1), (9, 1), (10, 1)] := by
  intro fs h
  rw [Try.underlying164] at h
  cases h
  kernel_rfl
theorem sz165 : szOf Try.prog 165 = some 11 := by kernel_rfl
theorem in165 : Try.prog.info? 165 = some Try.t165 := by kernel_rfl
theorem ts165 : Try.t165.size = 11 := rfl
theorem tb165 : Try.t165.bytes = 48 := rfl
theorem tz165 : Try.t165.zero = some (Value.agg #[Value.int IntKind.u64 0, Value.int IntKind.u64 0, Value.int IntKind.u32 0, Value.int IntKind.u8 0, Value.int IntKind.u8 0, Value.int IntKind.u8 0, Value.int IntKind.u8 0, Value.nilFunc, Value.pointer none, Value.int IntKind.i32 0, Value.int IntKind.i32 0]) := rfl
theorem zc165 : zeroCells? Try.prog 165 = some [.v (Value.int IntKind.u64 0), .v (Value.int IntKind.u64 0), .v (Value.int IntKind.u32 0), .v (Value.int IntKind.u8 0), .v (Value.int IntKind.u8 0), .v (Value.int IntKind.u8 0), .v (Value.int IntKind.u8 0), .v (Value.nilFunc), .v (Value.pointer none), .v (Value.int IntKind.i32 0), .v (Value.int IntKind.i32 0)] := by kernel_rfl
theorem sz166 : szOf Try.prog 166 = some 1 := by kernel_rfl
theorem in166 : Try.prog.info? 166 = some Try.t166 := by kernel_rfl
theorem ts166 : Try.t166.size = 1 := rfl
theorem tb166 : Try.t166.bytes = 8 := rfl
theorem tz166 : Try.t166.zero = some (Value.pointer none) := rfl
theorem zc166 : zeroCells? Try.prog 166 = some [.v (Value.pointer none)] := by kernel_rfl
theorem fb2 : (Program.funcs Try.prog)[2]?.any (fun fn => fn.body.isSome && fn.name != "runtime.NumGoroutine") = true := by rw [Try.func2]; kernel_rfl
theorem fb3 : (Program.funcs Try.prog)[3]?.any (fun fn => fn.body.isSome && fn.name != "runtime.NumGoroutine") = true := by rw [Try.func3]; kernel_rfl
theorem fb4 : (Program.funcs Try.prog)[4]?.any (fun fn => fn.body.isSome && fn.name != "runtime.NumGoroutine") = true := by rw [Try.func4]; kernel_rfl
theorem fb5 : (Program.funcs Try.prog)[5]?.any (fun fn => fn.body.isSome && fn.name != "runtime.NumGoroutine") = true := by rw [Try.func5]; kernel_rfl
theorem fb6 : (Program.funcs Try.prog)[6]?.any (fun fn => fn.body.isSome && fn.name != "runtime.NumGoroutine") = true := by rw [Try.func6]; kernel_rfl
theorem fb7 : (Program.funcs Try.prog)[7]?.any (fun fn => fn.body.isSome && fn.name != "runtime.NumGoroutine") = true := by rw [Try.func7]; kernel_rfl
theorem fb8 : (Program.funcs Try.prog)[8]?.any (fun fn => fn.body.isSome && fn.name != "runtime.NumGoroutine") = true := by rw [Try.func8]; kernel_rfl
theorem fb9 : (Program.funcs Try.prog)[9]?.any (fun fn => fn.body.isSome && fn.name != "runtime.NumGoroutine") = true := by rw [Try.func9]; kernel_rfl
theorem fb10 : (Program.funcs Try.prog)[10]?.any (fun fn => fn.body.isSome && fn.name != "runtime.NumGoroutine") = true := by rw [Try.func10]; kernel_rfl
theorem fb11 : (Program.funcs Try.prog)[11]?.any (fun fn => fn.body.isSome && fn.name != "runtime.NumGoroutine") = true := by rw [Try.func11]; kernel_rfl
theorem fb12 : (Program.funcs Try.prog)[12]?.any (fun fn => fn.body.isSome && fn.name != "runtime.NumGoroutine") = true := by rw [Try.func12]; kernel_rfl
theorem fb13 : (Program.funcs Try.prog)[13]?.any (fun fn => fn.body.isSome && fn.name != "runtime.NumGoroutine") = true := by rw [Try.func13]; kernel_rfl
theorem fb14 : (Program.funcs Try.prog)[14]?.any (fun fn => fn.body.isSome && fn.name != "runtime.NumGoroutine") = true := by rw [Try.func14]; kernel_rfl
theorem fb15 : (Program.funcs Try.prog)[15]?.any (fun fn => fn.body.isSome && fn.name != "runtime.NumGoroutine") = true := by rw [Try.func15]; kernel_rfl
theorem fb16 : (Program.funcs Try.prog)[16]?.any (fun fn => fn.body.isSome && fn.name != "runtime.NumGoroutine") = true := by rw [Try.func16]; kernel_rfl
theorem fb17 : (Program.funcs Try.prog)[17]?.any (fun fn => fn.body.isSome && fn.name != "runtime.NumGoroutine") = true := by rw [Try.func17]; kernel_rfl
theorem fb18 : (Program.funcs Try.prog)[18]?.any (fun fn => fn.body.isSome && fn.name != "runtime.NumGoroutine") = true := by rw [Try.func18]; kernel_rfl
theorem fb19 : (Program.funcs Try.prog)[19]?.any (fun fn => fn.body.isSome && fn.name != "runtime.NumGoroutine") = true := by rw [Try.func19]; kernel_rfl
theorem fb20 : (Program.funcs Try.prog)[20]?.any (fun fn => fn.body.isSome && fn.name != "runtime.NumGoroutine") = true := by rw [Try.func20]; kernel_rfl
theorem fb21 : (Program.funcs Try.prog)[21]?.any (fun fn => fn.body.isSome && fn.name != "runtime.NumGoroutine") = true := by rw [Try.func21]; kernel_rfl
theorem fb22 : (Program.funcs Try.prog)[22]?.any (fun fn => fn.body.isSome && fn.name != "runtime.NumGoroutine") = true := by rw [Try.func22]; kernel_rfl
theorem fb23 : (Program.funcs Try.prog)[23]?.any (fun fn => fn.body.isSome && fn.name != "runtime.NumGoroutine") = true := by rw [Try.func23]; kernel_rfl
theorem fb24 : (Program.funcs Try.prog)[24]?.any (fun fn => fn.body.isSome && fn.name != "runtime.NumGoroutine") = true := by rw [Try.func24]; kernel_rfl
theorem fb25 : (Program.funcs Try.prog)[25]?.any (fun fn => fn.body.isSome && fn.name != "runtime.NumGoroutine") = true := by rw [Try.func25]; kernel_rfl
theorem fb26 : (Program.funcs Try.prog)[26]?.any (fun fn => fn.body.isSome && fn.name != "runtime.NumGoroutine") = true := by rw [Try.func26]; kernel_rfl
theorem fb27 : (Program.funcs Try.prog)[27]?.any (fun fn => fn.body.isSome && fn.name != "runtime.NumGoroutine") = true := by rw [Try.func27]; kernel_rfl
theorem fb28 : (Program.funcs Try.prog)[28]?.any (fun fn => fn.body.isSome && fn.name != "runtime.NumGoroutine") = true := by rw [Try.func28]; kernel_rfl
theorem fb29 : (Program.funcs Try.prog)[29]?.any (fun fn => fn.body.isSome && fn.name != "runtime.NumGoroutine") = true := by rw [Try.func29]; kernel_rfl
theorem fb30 : (Program.funcs Try.prog)[30]?.any (fun fn => fn.body.isSome && fn.name != "runtime.NumGoroutine") = true := by rw [Try.func30]; kernel_rfl
theorem fb31 : (Program.funcs Try.prog)[31]?.any (fun fn => fn.body.isSome && fn.name != "runtime.NumGoroutine") = true := by rw [Try.func31]; kernel_rfl
theorem fb32 : (Program.funcs Try.prog)[32]?.any (fun fn => fn.body.isSome && fn.name != "runtime.NumGoroutine") = true := by rw [Try.func32]; kernel_rfl
theorem fb33 : (Program.funcs Try.prog)[33]?.any (fun fn => fn.body.isSome && fn.name != "runtime.NumGoroutine") = true := by rw [Try.func33]; kernel_rfl
theorem fb34 : (Program.funcs Try.prog)[34]?.any (fun fn => fn.body.isSome && fn.name != "runtime.NumGoroutine") = true := by rw [Try.func34]; kernel_rfl
theorem fb35 : (Program.funcs Try.prog)[35]?.any (fun fn => fn.body.isSome && fn.name != "runtime.NumGoroutine") = true := by rw [Try.func35]; kernel_rfl
theorem fb36 : (Program.funcs Try.prog)[36]?.any (fun fn => fn.body.isSome && fn.name != "runtime.NumGoroutine") = true := by rw [Try.func36]; kernel_rfl
theorem fb37 : (Program.funcs Try.prog)[37]?.any (fun fn => fn.body.isSome && fn.name != "runtime.NumGoroutine") = true := by rw [Try.func37]; kernel_rfl
theorem fb38 : (Program.funcs Try.prog)[38]?.any (fun fn => fn.body.isSome && fn.name != "runtime.NumGoroutine") = true := by rw [Try.func38]; kernel_rfl
theorem fb39 : (Program.funcs Try.prog)[39]?.any (fun fn => fn.body.isSome && fn.name != "runtime.NumGoroutine") = true := by rw [Try.func39]; kernel_rfl
theorem fb40 : (Program.funcs Try.prog)[40]?.any (fun fn => fn.body.isSome && fn.name != "runtime.NumGoroutine") = true := by rw [Try.func40]; kernel_rfl
theorem fb41 : (Program.funcs Try.prog)[41]?.any (fun fn => fn.body.isSome && fn.name != "runtime.NumGoroutine") = true := by rw [Try.func41]; kernel_rfl
theorem fb42 : (Program.funcs Try.prog)[42]?.any (fun fn => fn.body.isSome && fn.name != "runtime.NumGoroutine") = true := by rw [Try.func42]; kernel_rfl
theorem fb43 : (Program.funcs Try.prog)[43]?.any (fun fn => fn.body.isSome && fn.name != "runtime.NumGoroutine") = true := by rw [Try.func43]; kernel_rfl
theorem fb44 : (Program.funcs Try.prog)[44]?.any (fun fn => fn.body.isSome && fn.name != "runtime.NumGoroutine") = true := by rw [Try.func44]; kernel_rfl
theorem fb45 : (Program.funcs Try.prog)[45]?.any (fun fn => fn.body.isSome && fn.name != "runtime.NumGoroutine") = true := by rw [Try.func45]; kernel_rfl
theorem fb46 : (Program.funcs Try.prog)[46]?.any (fun fn => fn.body.isSome && fn.name != "runtime.NumGoroutine") = true := by rw [Try.func46]; kernel_rfl
theorem fb47 : (Program.funcs Try.prog)[47]?.any (fun fn => fn.body.isSome && fn.name != "runtime.NumGoroutine") = true := by rw [Try.func47]; kernel_rfl
theorem fb48 : (Program.funcs Try.prog)[48]?.any (fun fn => fn.body.isSome && fn.name != "runtime.NumGoroutine") = true := by rw [Try.func48]; kernel_rfl
theorem fb49 : (Program.funcs Try.prog)[49]?.any (fun fn => fn.body.isSome && fn.name != "runtime.NumGoroutine") = true := by rw [Try.func49]; kernel_rfl
theorem fb50 : (Program.funcs Try.prog)[50]?.any (fun fn => fn.body.isSome && fn.name != "runtime.NumGoroutine") = true := by rw [Try.func50]; kernel_rfl
theorem fb51 : (Program.funcs Try.prog)[51]?.any (fun fn => fn.body.isSome && fn.name != "runtime.NumGoroutine") = true := by rw [Try.func51]; kernel_rfl
theorem fb52 : (Program.funcs Try.prog)[52]?.any (fun fn => fn.body.isSome && fn.name != "runtime.NumGoroutine") = true := by rw [Try.func52]; kernel_rfl
theorem fb53 : (Program.funcs Try.prog)[53]?.any (fun fn => fn.body.isSome && fn.name != "runtime.NumGoroutine") = true := by rw [Try.func53]; kernel_rfl
theorem fb54 : (Program.funcs Try.prog)[54]?.any (fun fn => fn.body.isSome && fn.name != "runtime.NumGoroutine") = true := by rw [Try.func54]; kernel_rfl
theorem fb55 : (Program.funcs Try.prog)[55]?.any (fun fn => fn.body.isSome && fn.name != "runtime.NumGoroutine") = true := by rw [Try.func55]; kernel_rfl
theorem fb56 : (Program.funcs Try.prog)[56]?.any (fun fn => fn.body.isSome && fn.name != "runtime.NumGoroutine") = true := by rw [Try.func56]; kernel_rfl
theorem fb57 : (Program.funcs Try.prog)[57]?.any (fun fn => fn.body.isSome && fn.name != "runtime.NumGoroutine") = true := by rw [Try.func57]; kernel_rfl
theorem fb58 : (Program.funcs Try.prog)[58]?.any (fun fn => fn.body.isSome && fn.name != "runtime.NumGoroutine") = true := by rw [Try.func58]; kernel_rfl
theorem fb59 : (Program.funcs Try.prog)[59]?.any (fun fn => fn.body.isSome && fn.name != "runtime.NumGoroutine") = true := by rw [Try.func59]; kernel_rfl
theorem fb60 : (Program.funcs Try.prog)[60]?.any (fun fn => fn.body.isSome && fn.name != "runtime.NumGoroutine") = true := by rw [Try.func60]; kernel_rfl
theorem fb61 : (Program.funcs Try.prog)[61]?.any (fun fn => fn.body.isSome && fn.name != "runtime.NumGoroutine") = true := by rw [Try.func61]; kernel_rfl
theorem fb62 : (Program.funcs Try.prog)[62]?.any (fun fn => fn.body.isSome && fn.name != "runtime.NumGoroutine") = true := by rw [Try.func62]; kernel_rfl
theorem fb63 : (Program.funcs Try.prog)[63]?.any (fun fn => fn.body.isSome && fn.name != "runtime.NumGoroutine") = true := by rw [Try.func63]; kernel_rfl
theorem fb64 : (Program.funcs Try.prog)[64]?.any (fun fn => fn.body.isSome && fn.name != "runtime.NumGoroutine") = true := by rw [Try.func64]; kernel_rfl
theorem fb65 : (Program.funcs Try.prog)[65]?.any (fun fn => fn.body.isSome && fn.name != "runtime.NumGoroutine") = true := by rw [Try.func65]; kernel_rfl
theorem fb66 : (Program.funcs Try.prog)[66]?.any (fun fn => fn.body.isSome && fn.name != "runtime.NumGoroutine") = true := by rw [Try.func66]; kernel_rfl
theorem fb67 : (Program.funcs Try.prog)[67]?.any (fun fn => fn.body.isSome && fn.name != "runtime.NumGoroutine") = true := by rw [Try.func67]; kernel_rfl
theorem fb68 : (Program.funcs Try.prog)[68]?.any (fun fn => fn.body.isSome && fn.name != "runtime.NumGoroutine") = true := by rw [Try.func68]; kernel_rfl
theorem fb69 : (Program.funcs Try.prog)[69]?.any (fun fn => fn.body.isSome && fn.name != "runtime.NumGoroutine") = true := by rw [Try.func69]; kernel_rfl
theorem fb70 : (Program.funcs Try.prog)[70]?.any (fun fn => fn.body.isSome && fn.name != "runtime.NumGoroutine") = true := by rw [Try.func70]; kernel_rfl
theorem fb71 : (Program.funcs Try.prog)[71]?.any (fun fn => fn.body.isSome && fn.name != "runtime.NumGoroutine") = true := by rw [Try.func71]; kernel_rfl
theorem fb72 : (Program.funcs Try.prog)[72]?.any (fun fn => fn.body.isSome && fn.name != "runtime.NumGoroutine") = true := by rw [Try.func72]; kernel_rfl
theorem fb73 : (Program.funcs Try.prog)[73]?.any (fun fn => fn.body.isSome && fn.name != "runtime.NumGoroutine") = true := by rw [Try.func73]; kernel_rfl
theorem fb74 : (Program.funcs Try.prog)[74]?.any (fun fn => fn.body.isSome && fn.name != "runtime.NumGoroutine") = true := by rw [Try.func74]; kernel_rfl
theorem fb75 : (Program.funcs Try.prog)[75]?.any (fun fn => fn.body.isSome && fn.name != "runtime.NumGoroutine") = true := by rw [Try.func75]; kernel_rfl
theorem fb76 : (Program.funcs Try.prog)[76]?.any (fun fn => fn.body.isSome && fn.name != "runtime.NumGoroutine") = true := by rw [Try.func76]; kernel_rfl
theorem fb77 : (Program.funcs Try.prog)[77]?.any (fun fn => fn.body.isSome && fn.name != "runtime.NumGoroutine") = true := by rw [Try.func77]; kernel_rfl
theorem fb78 : (Program.funcs Try.prog)[78]?.any (fun fn => fn.body.isSome && fn.name != "runtime.NumGoroutine") = true := by rw [Try.func78]; kernel_rfl
theorem fb79 : (Program.funcs Try.prog)[79]?.any (fun fn => fn.body.isSome && fn.name != "runtime.NumGoroutine") = true := by rw [Try.func79]; kernel_rfl
theorem fb80 : (Program.funcs Try.prog)[80]?.any (fun fn => fn.body.isSome && fn.name != "runtime.NumGoroutine") = true := by rw [Try.func80]; kernel_rfl
theorem fb81 : (Program.funcs Try.prog)[81]?.any (fun fn => fn.body.isSome && fn.name != "runtime.NumGoroutine") = true := by rw [Try.func81]; kernel_rfl
theorem fb82 : (Program.funcs Try.prog)[82]?.any (fun fn => fn.body.isSome && fn.name != "runtime.NumGoroutine") = true := by rw [Try.func82]; kernel_rfl
theorem fb83 : (Program.funcs Try.prog)[83]?.any (fun fn => fn.body.isSome && fn.name != "runtime.NumGoroutine") = true := by rw [Try.func83]; kernel_rfl
theorem fb84 : (Program.funcs Try.prog)[84]?.any (fun fn => fn.body.isSome && fn.name != "runtime.NumGoroutine") = true := by rw [Try.func84]; kernel_rfl
theorem fb85 : (Program.funcs Try.prog)[85]?.any (fun fn => fn.body.isSome && fn.name != "runtime.NumGoroutine") = true := by rw [Try.func85]; kernel_rfl
theorem fb86 : (Program.funcs Try.prog)[86]?.any (fun fn => fn.body.isSome && fn.name != "runtime.NumGoroutine") = true := by rw [Try.func86]; kernel_rfl
theorem fb87 : (Program.funcs Try.prog)[87]?.any (fun fn => fn.body.isSome && fn.name != "runtime.NumGoroutine") = true := by rw [Try.func87]; kernel_rfl
theorem fb88 : (Program.funcs Try.prog)[88]?.any (fun fn => fn.body.isSome && fn.name != "runtime.NumGoroutine") = true := by rw [Try.func88]; kernel_rfl
theorem fb89 : (Program.funcs Try.prog)[89]?.any (fun fn => fn.body.isSome && fn.name != "runtime.NumGoroutine") = true := by rw [Try.func89]; kernel_rfl
theorem fb90 : (Program.funcs Try.prog)[90]?.any (fun fn => fn.body.isSome && fn.name != "runtime.NumGoroutine") = true := by rw [Try.func90]; kernel_rfl
theorem fb91 : (Program.funcs Try.prog)[91]?.any (fun fn => fn.body.isSome && fn.name != "runtime.NumGoroutine") = true := by rw [Try.func91]; kernel_rfl
theorem fb92 : (Program.funcs Try.prog)[92]?.any (fun fn => fn.body.isSome && fn.name != "runtime.NumGoroutine") = true := by rw [Try.func92]; kernel_rfl
theorem fb93 : (Program.funcs Try.prog)[93]?.any (fun fn => fn.body.isSome && fn.name != "runtime.NumGoroutine") = true := by rw [Try.func93]; kernel_rfl
theorem fb94 : (Program.funcs Try.prog)[94]?.any (fun fn => fn.body.isSome && fn.name != "runtime.NumGoroutine") = true := by rw [Try.func94]; kernel_rfl
theorem fb95 : (Program.funcs Try.prog)[95]?.any (fun fn => fn.body.isSome && fn.name != "runtime.NumGoroutine") = true := by rw [Try.func95]; kernel_rfl
theorem fb96 : (Program.funcs Try.prog)[96]?.any (fun fn => fn.body.isSome && fn.name != "runtime.NumGoroutine") = true := by rw [Try.func96]; kernel_rfl
theorem fb97 : (Program.funcs Try.prog)[97]?.any (fun fn => fn.body.isSome && fn.name != "runtime.NumGoroutine") = true := by rw [Try.func97]; kernel_rfl
theorem fb98 : (Program.funcs Try.prog)[98]?.any (fun fn => fn.body.isSome && fn.name != "runtime.NumGoroutine") = true := by rw [Try.func98]; kernel_rfl
theorem fb99 : (Program.funcs Try.prog)[99]?.any (fun fn => fn.body.isSome && fn.name != "runtime.NumGoroutine") = true := by rw [Try.func99]; kernel_rfl
theorem fb100 : (Program.funcs Try.prog)[100]?.any (fun fn => fn.body.isSome && fn.name != "runtime.NumGoroutine") = true := by rw [Try.func100]; kernel_rfl
theorem fb101 : (Program.funcs Try.prog)[101]?.any (fun fn => fn.body.isSome && fn.name != "runtime.NumGoroutine") = true := by rw [Try.func101]; kernel_rfl
theorem fb102 : (Program.funcs Try.prog)[102]?.any (fun fn => fn.body.isSome && fn.name != "runtime.NumGoroutine") = true := by rw [Try.func102]; kernel_rfl
theorem fb103 : (Program.funcs Try.prog)[103]?.any (fun fn => fn.body.isSome && fn.name != "runtime.NumGoroutine") = true := by rw [Try.func103]; kernel_rfl
theorem fb104 : (Program.funcs Try.prog)[104]?.any (fun fn => fn.body.isSome && fn.name != "runtime.NumGoroutine") = true := by rw [Try.func104]; kernel_rfl
theorem fb105 : (Program.funcs Try.prog)[105]?.any (fun fn => fn.body.isSome && fn.name != "runtime.NumGoroutine") = true := by rw [Try.func105]; kernel_rfl
theorem fb106 : (Program.funcs Try.prog)[106]?.any (fun fn => fn.body.isSome && fn.name != "runtime.NumGoroutine") = true := by rw [Try.func106]; kernel_rfl
theorem fb107 : (Program.funcs Try.prog)[107]?.any (fun fn => fn.body.isSome && fn.name != "runtime.NumGoroutine") = true := by rw [Try.func107]; kernel_rfl
theorem fb108 : (Program.funcs Try.prog)[108]?.any (fun fn => fn.body.isSome && fn.name != "runtime.NumGoroutine") = true := by rw [Try.func108]; kernel_rfl
theorem fb109 : (Program.funcs Try.prog)[109]?.any (fun fn => fn.body.isSome && fn.name != "runtime.NumGoroutine") = true := by rw [Try.func109]; kernel_rfl
theorem fb110 : (Program.funcs Try.prog)[110]?.any (fun fn => fn.body.isSome && fn.name != "runtime.NumGoroutine") = true := by rw [Try.func110]; kernel_rfl
theorem fb111 : (Program.funcs Try.prog)[111]?.any (fun fn => fn.body.isSome && fn.name != "runtime.NumGoroutine") = true := by rw [Try.func111]; kernel_rfl
theorem fb112 : (Program.funcs Try.prog)[112]?.any (fun fn => fn.body.isSome && fn.name != "runtime.NumGoroutine") = true := by rw [Try.func112]; kernel_rfl
theorem fb113 : (Program.funcs Try.prog)[113]?.any (fun fn => fn.body.isSome && fn.name != "runtime.NumGoroutine") = true := by rw [Try.func113]; kernel_rfl
theorem fb114 : (Program.funcs Try.prog)[114]?.any (fun fn => fn.body.isSome && fn.name != "runtime.NumGoroutine") = true := by rw [Try.func114]; kernel_rfl
theorem fb115 : (Program.funcs Try.prog)[115]?.any (fun fn => fn.body.isSome && fn.name != "runtime.NumGoroutine") = true := by rw [Try.func115]; kernel_rfl
theorem fb116 : (Program.funcs Try.prog)[116]?.any (fun fn => fn.body.isSome && fn.name != "runtime.NumGoroutine") = true := by rw [Try.func116]; kernel_rfl
theorem fb117 : (Program.funcs Try.prog)[117]?.any (fun fn => fn.body.isSome && fn.name != "runtime.NumGoroutine") = true := by rw [Try.func117]; kernel_rfl
theorem fb118 : (Program.funcs Try.prog)[118]?.any (fun fn => fn.body.isSome && fn.name != "runtime.NumGoroutine") = true := by rw [Try.func118]; kernel_rfl
theorem fb119 : (Program.funcs Try.prog)[119]?.any (fun fn => fn.body.isSome && fn.name != "runtime.NumGoroutine") = true := by rw [Try.func119]; kernel_rfl
theorem fb120 : (Program.funcs Try.prog)[120]?.any (fun fn => fn.body.isSome && fn.name != "runtime.NumGoroutine") = true := by rw [Try.func120]; kernel_rfl
theorem fb121 : (Program.funcs Try.prog)[121]?.any (fun fn => fn.body.isSome && fn.name != "runtime.NumGoroutine") = true := by rw [Try.func121]; kernel_rfl
theorem fb122 : (Program.funcs Try.prog)[122]?.any (fun fn => fn.body.isSome && fn.name != "runtime.NumGoroutine") = true := by rw [Try.func122]; kernel_rfl
theorem fb123 : (Program.funcs Try.prog)[123]?.any (fun fn => fn.body.isSome && fn.name != "runtime.NumGoroutine") = true := by rw [Try.func123]; kernel_rfl
theorem fb124 : (Program.funcs Try.prog)[124]?.any (fun fn => fn.body.isSome && fn.name != "runtime.NumGoroutine") = true := by rw [Try.func124]; kernel_rfl
theorem fb125 : (Program.funcs Try.prog)[125]?.any (fun fn => fn.body.isSome && fn.name != "runtime.NumGoroutine") = true := by rw [Try.func125]; kernel_rfl
theorem fb126 : (Program.funcs Try.prog)[126]?.any (fun fn => fn.body.isSome && fn.name != "runtime.NumGoroutine") = true := by rw [Try.func126]; kernel_rfl
theorem fb127 : (Program.funcs Try.prog)[127]?.any (fun fn => fn.body.isSome && fn.name != "runtime.NumGoroutine") = true := by rw [Try.func127]; kernel_rfl
theorem fb128 : (Program.funcs Try.prog)[128]?.any (fun fn => fn.body.isSome && fn.name != "runtime.NumGoroutine") = true := by rw [Try.func128]; kernel_rfl
theorem fb129 : (Program.funcs Try.prog)[129]?.any (fun fn => fn.body.isSome && fn.name != "runtime.NumGoroutine") = true := by rw [Try.func129]; kernel_rfl
theorem fb130 : (Program.funcs Try.prog)[130]?.any (fun fn => fn.body.isSome && fn.name != "runtime.NumGoroutine") = true := by rw [Try.func130]; kernel_rfl
theorem fb131 : (Program.funcs Try.prog)[131]?.any (fun fn => fn.body.isSome && fn.name != "runtime.NumGoroutine") = true := by rw [Try.func131]; kernel_rfl
theorem fb132 : (Program.funcs Try.prog)[132]?.any (fun fn => fn.body.isSome && fn.name != "runtime.NumGoroutine") = true := by rw [Try.func132]; kernel_rfl
theorem fb133 : (Program.funcs Try.prog)[133]?.any (fun fn => fn.body.isSome && fn.name != "runtime.NumGoroutine") = true := by rw [Try.func133]; kernel_rfl
theorem fb134 : (Program.funcs Try.prog)[134]?.any (fun fn => fn.body.isSome && fn.name != "runtime.NumGoroutine") = true := by rw [Try.func134]; kernel_rfl
theorem fb135 : (Program.funcs Try.prog)[135]?.any (fun fn => fn.body.isSome && fn.name != "runtime.NumGoroutine") = true := by rw [Try.func135]; kernel_rfl
theorem fb136 : (Program.funcs Try.prog)[136]?.any (fun fn => fn.body.isSome && fn.name != "runtime.NumGoroutine") = true := by rw [Try.func136]; kernel_rfl
theorem fb137 : (Program.funcs Try.prog)[137]?.any (fun fn => fn.body.isSome && fn.name != "runtime.NumGoroutine") = true := by rw [Try.func137]; kernel_rfl
theorem fb138 : (Program.funcs Try.prog)[138]?.any (fun fn => fn.body.isSome && fn.name != "runtime.NumGoroutine") = true := by rw [Try.func138]; kernel_rfl
theorem fb139 : (Program.funcs Try.prog)[139]?.any (fun fn => fn.body.isSome && fn.name != "runtime.NumGoroutine") = true := by rw [Try.func139]; kernel_rfl
theorem fb140 : (Program.funcs Try.prog)[140]?.any (fun fn => fn.body.isSome && fn.name != "runtime.NumGoroutine") = true := by rw [Try.func140]; kernel_rfl
theorem fb141 : (Program.funcs Try.prog)[141]?.any (fun fn => fn.body.isSome && fn.name != "runtime.NumGoroutine") = true := by rw [Try.func141]; kernel_rfl
theorem fb142 : (Program.funcs Try.prog)[142]?.any (fun fn => fn.body.isSome && fn.name != "runtime.NumGoroutine") = true := by rw [Try.func142]; kernel_rfl
theorem fb143 : (Program.funcs Try.prog)[143]?.any (fun fn => fn.body.isSome && fn.name != "runtime.NumGoroutine") = true := by rw [Try.func143]; kernel_rfl
theorem fb144 : (Program.funcs Try.prog)[144]?.any (fun fn => fn.body.isSome && fn.name != "runtime.NumGoroutine") = true := by rw [Try.func144]; kernel_rfl
theorem fb145 : (Program.funcs Try.prog)[145]?.any (fun fn => fn.body.isSome && fn.name != "runtime.NumGoroutine") = true := by rw [Try.func145]; kernel_rfl
theorem fb146 : (Program.funcs Try.prog)[146]?.any (fun fn => fn.body.isSome && fn.name != "runtime.NumGoroutine") = true := by rw [Try.func146]; kernel_rfl
theorem fb147 : (Program.funcs Try.prog)[147]?.any (fun fn => fn.body.isSome && fn.name != "runtime.NumGoroutine") = true := by rw [Try.func147]; kernel_rfl
theorem fb148 : (Program.funcs Try.prog)[148]?.any (fun fn => fn.body.isSome && fn.name != "runtime.NumGoroutine") = true := by rw [Try.func148]; kernel_rfl
theorem fb149 : (Program.funcs Try.prog)[149]?.any (fun fn => fn.body.isSome && fn.name != "runtime.NumGoroutine") = true := by rw [Try.func149]; kernel_rfl
theorem fb150 : (Program.funcs Try.prog)[150]?.any (fun fn => fn.body.isSome && fn.name != "runtime.NumGoroutine") = true := by rw [Try.func150]; kernel_rfl
theorem fb151 : (Program.funcs Try.prog)[151]?.any (fun fn => fn.body.isSome && fn.name != "runtime.NumGoroutine") = true := by rw [Try.func151]; kernel_rfl
theorem fb152 : (Program.funcs Try.prog)[152]?.any (fun fn => fn.body.isSome && fn.name != "runtime.NumGoroutine") = true := by rw [Try.func152]; kernel_rfl
theorem fb153 : (Program.funcs Try.prog)[153]?.any (fun fn => fn.body.isSome && fn.name != "runtime.NumGoroutine") = true := by rw [Try.func153]; kernel_rfl
theorem mix : Try.prog.follows .mixedOrders = true := by kernel_rfl
theorem mi0 (H : Heap) (ρ : Operand → AV) (x : Operand) : apure Try.prog H ρ (.makeInterface 0 x) = some (.ifc 0 (ρ x)) := by simp only [apure, Try.underlying0]
attribute [go_sem] mi0
theorem mi1 (H : Heap) (ρ : Operand → AV) (x : Operand) : apure Try.prog H ρ (.makeInterface 1 x) = some (.ifc 1 (ρ x)) := by simp only [apure, Try.underlying1]
attribute [go_sem] mi1
theorem mi2 (H : Heap) (ρ : Operand → AV) (x : Operand) : apure Try.prog H ρ (.makeInterface 2 x) = some (.ifc 2 (ρ x)) := by simp only [apure, Try.underlying2]
attribute [go_sem] mi2
theorem mi3 (H : Heap) (ρ : Operand → AV) (x : Operand) : apure Try.prog H ρ (.makeInterface 3 x) = some (.ifc 3 (ρ x)) := by simp only [apure, Try.underlying3]
attribute [go_sem] mi3
theorem mi4 (H : Heap) (ρ : Operand → AV) (x : Operand) : apure Try.prog H ρ (.makeInterface 4 x) = some (.ifc 4 (ρ x)) := by simp only [apure, Try.underlying4]
attribute [go_sem] mi4
theorem mi5 (H : Heap) (ρ : Operand → AV) (x : Operand) : apure Try.prog H ρ (.makeInterface 5 x) = some (.ifc 5 (ρ x)) := by simp only [apure, Try.underlying5]
attribute [go_sem] mi5
theorem mi6 (H : Heap) (ρ : Operand → AV) (x : Operand) : apure Try.prog H ρ (.makeInterface 6 x) = some (.ifc 6 (ρ x)) := by simp only [apure, Try.underlying6]
attribute [go_sem] mi6
theorem mi7 (H : Heap) (ρ : Operand → AV) (x : Operand) : apure Try.prog H ρ (.makeInterface 7 x) = some (.ifc 7 (ρ x)) := by simp only [apure, Try.underlying7]
attribute [go_sem] mi7
theorem mi8 (H : Heap) (ρ : Operand → AV) (x : Operand) : apure Try.prog H ρ (.makeInterface 8 x) = some (.ifc 8 (ρ x)) := by simp only [apure, Try.underlying8]
attribute [go_sem] mi8
theorem ln9 (s : ByteArray) : abuiltin Try.prog .len [9] [.v (.string s)] = some (.v (.int .i64 s.size)) := abuiltin_len_str Try.underlying9
attribute [go_sem] ln9
theorem mi9 (H : Heap) (ρ : Operand → AV) (x : Operand) : apure Try.prog H ρ (.makeInterface 9 x) = some (.ifc 9 (ρ x)) := by simp only [apure, Try.underlying9]
attribute [go_sem] mi9
theorem ln10 (s : ByteArray) : abuiltin Try.prog .len [10] [.v (.string s)] = some (.v (.int .i64 s.size)) := abuiltin_len_str Try.underlying10
attribute [go_sem] ln10
theorem mi10 (H : Heap) (ρ : Operand → AV) (x : Operand) : apure Try.prog H ρ (.makeInterface 10 x) = some (.ifc 10 (ρ x)) := by simp only [apure, Try.underlying10]
attribute [go_sem] mi10
theorem ln11 (s : ByteArray) : abuiltin Try.prog .len [11] [.v (.string s)] = some (.v (.int .i64 s.size)) := abuiltin_len_str Try.underlying11
attribute [go_sem] ln11
theorem mi11 (H : Heap) (ρ : Operand → AV) (x : Operand) : apure Try.prog H ρ (.makeInterface 11 x) = some (.ifc 11 (ρ x)) := by simp only [apure, Try.underlying11]
attribute [go_sem] mi11
theorem mi12 (H : Heap) (ρ : Operand → AV) (x : Operand) : apure Try.prog H ρ (.makeInterface 12 x) = some (.ifc 12 (ρ x)) := by simp only [apure, Try.underlying12]
attribute [go_sem] mi12
theorem mi13 (H : Heap) (ρ : Operand → AV) (x : Operand) : apure Try.prog H ρ (.makeInterface 13 x) = some (.ifc 13 (ρ x)) := by simp only [apure, Try.underlying13]
attribute [go_sem] mi13
theorem mi14 (H : Heap) (ρ : Operand → AV) (x : Operand) : apure Try.prog H ρ (.makeInterface 14 x) = some (.ifc 14 (ρ x)) := by simp only [apure, Try.underlying14]
attribute [go_sem] mi14
theorem mi15 (H : Heap) (ρ : Operand → AV) (x : Operand) : apure Try.prog H ρ (.makeInterface 15 x) = some (.ifc 15 (ρ x)) := by simp only [apure, Try.underlying15]
attribute [go_sem] mi15
theorem mi16 (H : Heap) (ρ : Operand → AV) (x : Operand) : apure Try.prog H ρ (.makeInterface 16 x) = some (.ifc 16 (ρ x)) := by simp only [apure, Try.underlying16]
attribute [go_sem] mi16
theorem mi17 (H : Heap) (ρ : Operand → AV) (x : Operand) : apure Try.prog H ρ (.makeInterface 17 x) = some (.ifc 17 (ρ x)) := by simp only [apure, Try.underlying17]
attribute [go_sem] mi17
theorem mi18 (H : Heap) (ρ : Operand → AV) (x : Operand) : apure Try.prog H ρ (.makeInterface 18 x) = some (.ifc 18 (ρ x)) := by simp only [apure, Try.underlying18]
attribute [go_sem] mi18
theorem mi19 (H : Heap) (ρ : Operand → AV) (x : Operand) : apure Try.prog H ρ (.makeInterface 19 x) = some (.ifc 19 (ρ x)) := by simp only [apure, Try.underlying19]
attribute [go_sem] mi19
theorem mi21 (H : Heap) (ρ : Operand → AV) (x : Operand) : apure Try.prog H ρ (.makeInterface 21 x) = some (.ifc 21 (ρ x)) := by simp only [apure, Try.underlying21]
attribute [go_sem] mi21
theorem mi22 (H : Heap) (ρ : Operand → AV) (x : Operand) : apure Try.prog H ρ (.makeInterface 22 x) = some (.ifc 22 (ρ x)) := by simp only [apure, Try.underlying22]
attribute [go_sem] mi22
theorem mi23 (H : Heap) (ρ : Operand → AV) (x : Operand) : apure Try.prog H ρ (.makeInterface 23 x) = some (.ifc 23 (ρ x)) := by simp only [apure, Try.underlying23]
attribute [go_sem] mi23
theorem ln24 (xs : List AV) (n : Nat) (f : Bool) : abuiltin Try.prog .len [24] [.sl xs n f] = some (.v (.int .i64 n)) := abuiltin_len_sl Try.underlying24
theorem lo24 (j o n : Nat) : abuiltin Try.prog .len [24] [.own j o n] = some (.v (.int .i64 n)) := abuiltin_len_own Try.underlying24
theorem lz24 (n c : Nat) : abuiltin Try.prog .len [24] [.v (.slice none n c)] = some (.v (.int .i64 n)) := abuiltin_len_nil Try.underlying24
attribute [go_sem] ln24 lo24 lz24
theorem mi24 (H : Heap) (ρ : Operand → AV) (x : Operand) : apure Try.prog H ρ (.makeInterface 24 x) = some (.ifc 24 (ρ x)) := by simp only [apure, Try.underlying24]
attribute [go_sem] mi24
theorem ln25 (xs : List AV) (n : Nat) (f : Bool) : abuiltin Try.prog .len [25] [.sl xs n f] = some (.v (.int .i64 n)) := abuiltin_len_sl Try.underlying25
theorem lo25 (j o n : Nat) : abuiltin Try.prog .len [25] [.own j o n] = some (.v (.int .i64 n)) := abuiltin_len_own Try.underlying25
theorem lz25 (n c : Nat) : abuiltin Try.prog .len [25] [.v (.slice none n c)] = some (.v (.int .i64 n)) := abuiltin_len_nil Try.underlying25
attribute [go_sem] ln25 lo25 lz25
theorem mi25 (H : Heap) (ρ : Operand → AV) (x : Operand) : apure Try.prog H ρ (.makeInterface 25 x) = some (.ifc 25 (ρ x)) := by simp only [apure, Try.underlying25]
attribute [go_sem] mi25
theorem mi26 (H : Heap) (ρ : Operand → AV) (x : Operand) : apure Try.prog H ρ (.makeInterface 26 x) = some (.ifc 26 (ρ x)) := by simp only [apure, Try.underlying26]
attribute [go_sem] mi26
theorem mi27 (H : Heap) (ρ : Operand → AV) (x : Operand) : apure Try.prog H ρ (.makeInterface 27 x) = some (.ifc 27 (ρ x)) := by simp only [apure, Try.underlying27]
attribute [go_sem] mi27
theorem mi28 (H : Heap) (ρ : Operand → AV) (x : Operand) : apure Try.prog H ρ (.makeInterface 28 x) = some (.ifc 28 (ρ x)) := by simp only [apure, Try.underlying28]
attribute [go_sem] mi28
theorem mi29 (H : Heap) (ρ : Operand → AV) (x : Operand) : apure Try.prog H ρ (.makeInterface 29 x) = some (.ifc 29 (ρ x)) := by simp only [apure, Try.underlying29]
attribute [go_sem] mi29
theorem ln30 (xs : List AV) (n : Nat) (f : Bool) : abuiltin Try.prog .len [30] [.sl xs n f] = some (.v (.int .i64 n)) := abuiltin_len_sl Try.underlying30
theorem lo30 (j o n : Nat) : abuiltin Try.prog .len [30] [.own j o n] = some (.v (.int .i64 n)) := abuiltin_len_own Try.underlying30
theorem lz30 (n c : Nat) : abuiltin Try.prog .len [30] [.v (.slice none n c)] = some (.v (.int .i64 n)) := abuiltin_len_nil Try.underlying30
attribute [go_sem] ln30 lo30 lz30
theorem mi30 (H : Heap) (ρ : Operand → AV) (x : Operand) : apure Try.prog H ρ (.makeInterface 30 x) = some (.ifc 30 (ρ x)) := by simp only [apure, Try.underlying30]
attribute [go_sem] mi30
theorem mi31 (H : Heap) (ρ : Operand → AV) (x : Operand) : apure Try.prog H ρ (.makeInterface 31 x) = some (.ifc 31 (ρ x)) := by simp only [apure, Try.underlying31]
attribute [go_sem] mi31
theorem mi32 (H : Heap) (ρ : Operand → AV) (x : Operand) : apure Try.prog H ρ (.makeInterface 32 x) = some (.ifc 32 (ρ x)) := by simp only [apure, Try.underlying32]
attribute [go_sem] mi32
theorem mi33 (H : Heap) (ρ : Operand → AV) (x : Operand) : apure Try.prog H ρ (.makeInterface 33 x) = some (.ifc 33 (ρ x)) := by simp only [apure, Try.underlying33]
attribute [go_sem] mi33
theorem mi34 (H : Heap) (ρ : Operand → AV) (x : Operand) : apure Try.prog H ρ (.makeInterface 34 x) = some (.ifc 34 (ρ x)) := by simp only [apure, Try.underlying34]
attribute [go_sem] mi34
theorem mi35 (H : Heap) (ρ : Operand → AV) (x : Operand) : apure Try.prog H ρ (.makeInterface 35 x) = some (.ifc 35 (ρ x)) := by simp only [apure, Try.underlying35]
attribute [go_sem] mi35
theorem mi36 (H : Heap) (ρ : Operand → AV) (x : Operand) : apure Try.prog H ρ (.makeInterface 36 x) = some (.ifc 36 (ρ x)) := by simp only [apure, Try.underlying36]
attribute [go_sem] mi36
theorem mi37 (H : Heap) (ρ : Operand → AV) (x : Operand) : apure Try.prog H ρ (.makeInterface 37 x) = some (.ifc 37 (ρ x)) := by simp only [apure, Try.underlying37]
attribute [go_sem] mi37
theorem mi38 (H : Heap) (ρ : Operand → AV) (x : Operand) : apure Try.prog H ρ (.makeInterface 38 x) = some (.ifc 38 (ρ x)) := by simp only [apure, Try.underlying38]
attribute [go_sem] mi38
theorem mi39 (H : Heap) (ρ : Operand → AV) (x : Operand) : apure Try.prog H ρ (.makeInterface 39 x) = some (.ifc 39 (ρ x)) := by simp only [apure, Try.underlying39]
attribute [go_sem] mi39
theorem mi40 (H : Heap) (ρ : Operand → AV) (x : Operand) : apure Try.prog H ρ (.makeInterface 40 x) = some (.ifc 40 (ρ x)) := by simp only [apure, Try.underlying40]
attribute [go_sem] mi40
theorem ln41 (xs : List AV) (n : Nat) (f : Bool) : abuiltin Try.prog .len [41] [.sl xs n f] = some (.v (.int .i64 n)) := abuiltin_len_sl Try.underlying41
theorem lo41 (j o n : Nat) : abuiltin Try.prog .len [41] [.own j o n] = some (.v (.int .i64 n)) := abuiltin_len_own Try.underlying41
theorem lz41 (n c : Nat) : abuiltin Try.prog .len [41] [.v (.slice none n c)] = some (.v (.int .i64 n)) := abuiltin_len_nil Try.underlying41
attribute [go_sem] ln41 lo41 lz41
theorem mi41 (H : Heap) (ρ : Operand → AV) (x : Operand) : apure Try.prog H ρ (.makeInterface 41 x) = some (.ifc 41 (ρ x)) := by simp only [apure, Try.underlying41]
attribute [go_sem] mi41
theorem mi42 (H : Heap) (ρ : Operand → AV) (x : Operand) : apure Try.prog H ρ (.makeInterface 42 x) = some (.ifc 42 (ρ x)) := by simp only [apure, Try.underlying42]
attribute [go_sem] mi42
theorem mi43 (H : Heap) (ρ : Operand → AV) (x : Operand) : apure Try.prog H ρ (.makeInterface 43 x) = some (.ifc 43 (ρ x)) := by simp only [apure, Try.underlying43]
attribute [go_sem] mi43
theorem mi44 (H : Heap) (ρ : Operand → AV) (x : Operand) : apure Try.prog H ρ (.makeInterface 44 x) = some (.ifc 44 (ρ x)) := by simp only [apure, Try.underlying44]
attribute [go_sem] mi44
theorem mi45 (H : Heap) (ρ : Operand → AV) (x : Operand) : apure Try.prog H ρ (.makeInterface 45 x) = some (.ifc 45 (ρ x)) := by simp only [apure, Try.underlying45]
attribute [go_sem] mi45
theorem mi46 (H : Heap) (ρ : Operand → AV) (x : Operand) : apure Try.prog H ρ (.makeInterface 46 x) = some (.ifc 46 (ρ x)) := by simp only [apure, Try.underlying46]
attribute [go_sem] mi46
theorem mi47 (H : Heap) (ρ : Operand → AV) (x : Operand) : apure Try.prog H ρ (.makeInterface 47 x) = some (.ifc 47 (ρ x)) := by simp only [apure, Try.underlying47]
attribute [go_sem] mi47
theorem mi48 (H : Heap) (ρ : Operand → AV) (x : Operand) : apure Try.prog H ρ (.makeInterface 48 x) = some (.ifc 48 (ρ x)) := by simp only [apure, Try.underlying48]
attribute [go_sem] mi48
theorem mi49 (H : Heap) (ρ : Operand → AV) (x : Operand) : apure Try.prog H ρ (.makeInterface 49 x) = some (.ifc 49 (ρ x)) := by simp only [apure, Try.underlying49]
attribute [go_sem] mi49
theorem mi50 (H : Heap) (ρ : Operand → AV) (x : Operand) : apure Try.prog H ρ (.makeInterface 50 x) = some (.ifc 50 (ρ x)) := by simp only [apure, Try.underlying50]
attribute [go_sem] mi50
theorem mi51 (H : Heap) (ρ : Operand → AV) (x : Operand) : apure Try.prog H ρ (.makeInterface 51 x) = some (.ifc 51 (ρ x)) := by simp only [apure, Try.underlying51]
attribute [go_sem] mi51
theorem mi52 (H : Heap) (ρ : Operand → AV) (x : Operand) : apure Try.prog H ρ (.makeInterface 52 x) = some (.ifc 52 (ρ x)) := by simp only [apure, Try.underlying52]
attribute [go_sem] mi52
theorem mi53 (H : Heap) (ρ : Operand → AV) (x : Operand) : apure Try.prog H ρ (.makeInterface 53 x) = some (.ifc 53 (ρ x)) := by simp only [apure, Try.underlying53]
attribute [go_sem] mi53
theorem mi54 (H : Heap) (ρ : Operand → AV) (x : Operand) : apure Try.prog H ρ (.makeInterface 54 x) = some (.ifc 54 (ρ x)) := by simp only [apure, Try.underlying54]
attribute [go_sem] mi54
theorem mi55 (H : Heap) (ρ : Operand → AV) (x : Operand) : apure Try.prog H ρ (.makeInterface 55 x) = some (.ifc 55 (ρ x)) := by simp only [apure, Try.underlying55]
attribute [go_sem] mi55
theorem mi56 (H : Heap) (ρ : Operand → AV) (x : Operand) : apure Try.prog H ρ (.makeInterface 56 x) = some (.ifc 56 (ρ x)) := by simp only [apure, Try.underlying56]
attribute [go_sem] mi56
theorem mi57 (H : Heap) (ρ : Operand → AV) (x : Operand) : apure Try.prog H ρ (.makeInterface 57 x) = some (.ifc 57 (ρ x)) := by simp only [apure, Try.underlying57]
attribute [go_sem] mi57
theorem ln58 (xs : List AV) (n : Nat) (f : Bool) : abuiltin Try.prog .len [58] [.sl xs n f] = some (.v (.int .i64 n)) := abuiltin_len_sl Try.underlying58
theorem lo58 (j o n : Nat) : abuiltin Try.prog .len [58] [.own j o n] = some (.v (.int .i64 n)) := abuiltin_len_own Try.underlying58
theorem lz58 (n c : Nat) : abuiltin Try.prog .len [58] [.v (.slice none n c)] = some (.v (.int .i64 n)) := abuiltin_len_nil Try.underlying58
attribute [go_sem] ln58 lo58 lz58
theorem mi58 (H : Heap) (ρ : Operand → AV) (x : Operand) : apure Try.prog H ρ (.makeInterface 58 x) = some (.ifc 58 (ρ x)) := by simp only [apure, Try.underlying58]
attribute [go_sem] mi58
theorem mi59 (H : Heap) (ρ : Operand → AV) (x : Operand) : apure Try.prog H ρ (.makeInterface 59 x) = some (.ifc 59 (ρ x)) := by simp only [apure, Try.underlying59]
attribute [go_sem] mi59
theorem ln60 (xs : List AV) (n : Nat) (f : Bool) : abuiltin Try.prog .len [60] [.sl xs n f] = some (.v (.int .i64 n)) := abuiltin_len_sl Try.underlying60
theorem lo60 (j o n : Nat) : abuiltin Try.prog .len [60] [.own j o n] = some (.v (.int .i64 n)) := abuiltin_len_own Try.underlying60
theorem lz60 (n c : Nat) : abuiltin Try.prog .len [60] [.v (.slice none n c)] = some (.v (.int .i64 n)) := abuiltin_len_nil Try.underlying60
attribute [go_sem] ln60 lo60 lz60
theorem mi60 (H : Heap) (ρ : Operand → AV) (x : Operand) : apure Try.prog H ρ (.makeInterface 60 x) = some (.ifc 60 (ρ x)) := by simp only [apure, Try.underlying60]
attribute [go_sem] mi60
theorem mi61 (H : Heap) (ρ : Operand → AV) (x : Operand) : apure Try.prog H ρ (.makeInterface 61 x) = some (.ifc 61 (ρ x)) := by simp only [apure, Try.underlying61]
attribute [go_sem] mi61
theorem mi62 (H : Heap) (ρ : Operand → AV) (x : Operand) : apure Try.prog H ρ (.makeInterface 62 x) = some (.ifc 62 (ρ x)) := by simp only [apure, Try.underlying62]
attribute [go_sem] mi62
theorem mi63 (H : Heap) (ρ : Operand → AV) (x : Operand) : apure Try.prog H ρ (.makeInterface 63 x) = some (.ifc 63 (ρ x)) := by simp only [apure, Try.underlying63]
attribute [go_sem] mi63
theorem mi64 (H : Heap) (ρ : Operand → AV) (x : Operand) : apure Try.prog H ρ (.makeInterface 64 x) = some (.ifc 64 (ρ x)) := by simp only [apure, Try.underlying64]
attribute [go_sem] mi64
theorem mi65 (H : Heap) (ρ : Operand → AV) (x : Operand) : apure Try.prog H ρ (.makeInterface 65 x) = some (.ifc 65 (ρ x)) := by simp only [apure, Try.underlying65]
attribute [go_sem] mi65
theorem mi66 (H : Heap) (ρ : Operand → AV) (x : Operand) : apure Try.prog H ρ (.makeInterface 66 x) = some (.ifc 66 (ρ x)) := by simp only [apure, Try.underlying66]
attribute [go_sem] mi66
theorem mi67 (H : Heap) (ρ : Operand → AV) (x : Operand) : apure Try.prog H ρ (.makeInterface 67 x) = some (.ifc 67 (ρ x)) := by simp only [apure, Try.underlying67]
attribute [go_sem] mi67
theorem mi68 (H : Heap) (ρ : Operand → AV) (x : Operand) : apure Try.prog H ρ (.makeInterface 68 x) = some (.ifc 68 (ρ x)) := by simp only [apure, Try.underlying68]
attribute [go_sem] mi68
theorem ln69 (xs : List AV) (n : Nat) (f : Bool) : abuiltin Try.prog .len [69] [.sl xs n f] = some (.v (.int .i64 n)) := abuiltin_len_sl Try.underlying69
theorem lo69 (j o n : Nat) : abuiltin Try.prog .len [69] [.own j o n] = some (.v (.int .i64 n)) := abuiltin_len_own Try.underlying69
theorem lz69 (n c : Nat) : abuiltin Try.prog .len [69] [.v (.slice none n c)] = some (.v (.int .i64 n)) := abuiltin_len_nil Try.underlying69
attribute [go_sem] ln69 lo69 lz69
theorem mi69 (H : Heap) (ρ : Operand → AV) (x : Operand) : apure Try.prog H ρ (.makeInterface 69 x) = some (.ifc 69 (ρ x)) := by simp only [apure, Try.underlying69]
attribute [go_sem] mi69
theorem mi70 (H : Heap) (ρ : Operand → AV) (x : Operand) : apure Try.prog H ρ (.makeInterface 70 x) = some (.ifc 70 (ρ x)) := by simp only [apure, Try.underlying70]
attribute [go_sem] mi70
theorem mi71 (H : Heap) (ρ : Operand → AV) (x : Operand) : apure Try.prog H ρ (.makeInterface 71 x) = some (.ifc 71 (ρ x)) := by simp only [apure, Try.underlying71]
attribute [go_sem] mi71
theorem mi72 (H : Heap) (ρ : Operand → AV) (x : Operand) : apure Try.prog H ρ (.makeInterface 72 x) = some (.ifc 72 (ρ x)) := by simp only [apure, Try.underlying72]
attribute [go_sem] mi72
theorem mi73 (H : Heap) (ρ : Operand → AV) (x : Operand) : apure Try.prog H ρ (.makeInterface 73 x) = some (.ifc 73 (ρ x)) := by simp only [apure, Try.underlying73]
attribute [go_sem] mi73
theorem mi74 (H : Heap) (ρ : Operand → AV) (x : Operand) : apure Try.prog H ρ (.makeInterface 74 x) = some (.ifc 74 (ρ x)) := by simp only [apure, Try.underlying74]
attribute [go_sem] mi74
theorem mi75 (H : Heap) (ρ : Operand → AV) (x : Operand) : apure Try.prog H ρ (.makeInterface 75 x) = some (.ifc 75 (ρ x)) := by simp only [apure, Try.underlying75]
attribute [go_sem] mi75
theorem ln76 (xs : List AV) (n : Nat) (f : Bool) : abuiltin Try.prog .len [76] [.sl xs n f] = some (.v (.int .i64 n)) := abuiltin_len_sl Try.underlying76
theorem lo76 (j o n : Nat) : abuiltin Try.prog .len [76] [.own j o n] = some (.v (.int .i64 n)) := abuiltin_len_own Try.underlying76
theorem lz76 (n c : Nat) : abuiltin Try.prog .len [76] [.v (.slice none n c)] = some (.v (.int .i64 n)) := abuiltin_len_nil Try.underlying76
attribute [go_sem] ln76 lo76 lz76
theorem mi76 (H : Heap) (ρ : Operand → AV) (x : Operand) : apure Try.prog H ρ (.makeInterface 76 x) = some (.ifc 76 (ρ x)) := by simp only [apure, Try.underlying76]
attribute [go_sem] mi76
theorem mi77 (H : Heap) (ρ : Operand → AV) (x : Operand) : apure Try.prog H ρ (.makeInterface 77 x) = some (.ifc 77 (ρ x)) := by simp only [apure, Try.underlying77]
attribute [go_sem] mi77
theorem mi78 (H : Heap) (ρ : Operand → AV) (x : Operand) : apure Try.prog H ρ (.makeInterface 78 x) = some (.ifc 78 (ρ x)) := by simp only [apure, Try.underlying78]
attribute [go_sem] mi78
theorem mi79 (H : Heap) (ρ : Operand → AV) (x : Operand) : apure Try.prog H ρ (.makeInterface 79 x) = some (.ifc 79 (ρ x)) := by simp only [apure, Try.underlying79]
attribute [go_sem] mi79
theorem mi80 (H : Heap) (ρ : Operand → AV) (x : Operand) : apure Try.prog H ρ (.makeInterface 80 x) = some (.ifc 80 (ρ x)) := by simp only [apure, Try.underlying80]
attribute [go_sem] mi80
theorem mi81 (H : Heap) (ρ : Operand → AV) (x : Operand) : apure Try.prog H ρ (.makeInterface 81 x) = some (.ifc 81 (ρ x)) := by simp only [apure, Try.underlying81]
attribute [go_sem] mi81
theorem mi82 (H : Heap) (ρ : Operand → AV) (x : Operand) : apure Try.prog H ρ (.makeInterface 82 x) = some (.ifc 82 (ρ x)) := by simp only [apure, Try.underlying82]
attribute [go_sem] mi82
theorem mi83 (H : Heap) (ρ : Operand → AV) (x : Operand) : apure Try.prog H ρ (.makeInterface 83 x) = some (.ifc 83 (ρ x)) := by simp only [apure, Try.underlying83]
attribute [go_sem] mi83
theorem mi84 (H : Heap) (ρ : Operand → AV) (x : Operand) : apure Try.prog H ρ (.makeInterface 84 x) = some (.ifc 84 (ρ x)) := by simp only [apure, Try.underlying84]
attribute [go_sem] mi84
theorem mi85 (H : Heap) (ρ : Operand → AV) (x : Operand) : apure Try.prog H ρ (.makeInterface 85 x) = some (.ifc 85 (ρ x)) := by simp only [apure, Try.underlying85]
attribute [go_sem] mi85
theorem mi86 (H : Heap) (ρ : Operand → AV) (x : Operand) : apure Try.prog H ρ (.makeInterface 86 x) = some (.ifc 86 (ρ x)) := by simp only [apure, Try.underlying86]
attribute [go_sem] mi86
theorem mi87 (H : Heap) (ρ : Operand → AV) (x : Operand) : apure Try.prog H ρ (.makeInterface 87 x) = some (.ifc 87 (ρ x)) := by simp only [apure, Try.underlying87]
attribute [go_sem] mi87
theorem mi88 (H : Heap) (ρ : Operand → AV) (x : Operand) : apure Try.prog H ρ (.makeInterface 88 x) = some (.ifc 88 (ρ x)) := by simp only [apure, Try.underlying88]
attribute [go_sem] mi88
theorem mi89 (H : Heap) (ρ : Operand → AV) (x : Operand) : apure Try.prog H ρ (.makeInterface 89 x) = some (.ifc 89 (ρ x)) := by simp only [apure, Try.underlying89]
attribute [go_sem] mi89
theorem mi90 (H : Heap) (ρ : Operand → AV) (x : Operand) : apure Try.prog H ρ (.makeInterface 90 x) = some (.ifc 90 (ρ x)) := by simp only [apure, Try.underlying90]
attribute [go_sem] mi90
theorem mi91 (H : Heap) (ρ : Operand → AV) (x : Operand) : apure Try.prog H ρ (.makeInterface 91 x) = some (.ifc 91 (ρ x)) := by simp only [apure, Try.underlying91]
attribute [go_sem] mi91
theorem mi92 (H : Heap) (ρ : Operand → AV) (x : Operand) : apure Try.prog H ρ (.makeInterface 92 x) = some (.ifc 92 (ρ x)) := by simp only [apure, Try.underlying92]
attribute [go_sem] mi92
theorem mi93 (H : Heap) (ρ : Operand → AV) (x : Operand) : apure Try.prog H ρ (.makeInterface 93 x) = some (.ifc 93 (ρ x)) := by simp only [apure, Try.underlying93]
attribute [go_sem] mi93
theorem mi94 (H : Heap) (ρ : Operand → AV) (x : Operand) : apure Try.prog H ρ (.makeInterface 94 x) = some (.ifc 94 (ρ x)) := by simp only [apure, Try.underlying94]
attribute [go_sem] mi94
theorem mi95 (H : Heap) (ρ : Operand → AV) (x : Operand) : apure Try.prog H ρ (.makeInterface 95 x) = some (.ifc 95 (ρ x)) := by simp only [apure, Try.underlying95]
attribute [go_sem] mi95
theorem mi96 (H : Heap) (ρ : Operand → AV) (x : Operand) : apure Try.prog H ρ (.makeInterface 96 x) = some (.ifc 96 (ρ x)) := by simp only [apure, Try.underlying96]
attribute [go_sem] mi96
theorem mi97 (H : Heap) (ρ : Operand → AV) (x : Operand) : apure Try.prog H ρ (.makeInterface 97 x) = some (.ifc 97 (ρ x)) := by simp only [apure, Try.underlying97]
attribute [go_sem] mi97
theorem mi98 (H : Heap) (ρ : Operand → AV) (x : Operand) : apure Try.prog H ρ (.makeInterface 98 x) = some (.ifc 98 (ρ x)) := by simp only [apure, Try.underlying98]
attribute [go_sem] mi98
theorem mi99 (H : Heap) (ρ : Operand → AV) (x : Operand) : apure Try.prog H ρ (.makeInterface 99 x) = some (.ifc 99 (ρ x)) := by simp only [apure, Try.underlying99]
attribute [go_sem] mi99
theorem mi100 (H : Heap) (ρ : Operand → AV) (x : Operand) : apure Try.prog H ρ (.makeInterface 100 x) = some (.ifc 100 (ρ x)) := by simp only [apure, Try.underlying100]
attribute [go_sem] mi100
theorem mi101 (H : Heap) (ρ : Operand → AV) (x : Operand) : apure Try.prog H ρ (.makeInterface 101 x) = some (.ifc 101 (ρ x)) := by simp only [apure, Try.underlying101]
attribute [go_sem] mi101
theorem mi102 (H : Heap) (ρ : Operand → AV) (x : Operand) : apure Try.prog H ρ (.makeInterface 102 x) = some (.ifc 102 (ρ x)) := by simp only [apure, Try.underlying102]
attribute [go_sem] mi102
theorem mi103 (H : Heap) (ρ : Operand → AV) (x : Operand) : apure Try.prog H ρ (.makeInterface 103 x) = some (.ifc 103 (ρ x)) := by simp only [apure, Try.underlying103]
attribute [go_sem] mi103
theorem mi104 (H : Heap) (ρ : Operand → AV) (x : Operand) : apure Try.prog H ρ (.makeInterface 104 x) = some (.ifc 104 (ρ x)) := by simp only [apure, Try.underlying104]
attribute [go_sem] mi104
theorem mi105 (H : Heap) (ρ : Operand → AV) (x : Operand) : apure Try.prog H ρ (.makeInterface 105 x) = some (.ifc 105 (ρ x)) := by simp only [apure, Try.underlying105]
attribute [go_sem] mi105
theorem mi106 (H : Heap) (ρ : Operand → AV) (x : Operand) : apure Try.prog H ρ (.makeInterface 106 x) = some (.ifc 106 (ρ x)) := by simp only [apure, Try.underlying106]
attribute [go_sem] mi106
theorem mi107 (H : Heap) (ρ : Operand → AV) (x : Operand) : apure Try.prog H ρ (.makeInterface 107 x) = some (.ifc 107 (ρ x)) := by simp only [apure, Try.underlying107]
attribute [go_sem] mi107
theorem mi108 (H : Heap) (ρ : Operand → AV) (x : Operand) : apure Try.prog H ρ (.makeInterface 108 x) = some (.ifc 108 (ρ x)) := by simp only [apure, Try.underlying108]
attribute [go_sem] mi108
theorem mi109 (H : Heap) (ρ : Operand → AV) (x : Operand) : apure Try.prog H ρ (.makeInterface 109 x) = some (.ifc 109 (ρ x)) := by simp only [apure, Try.underlying109]
attribute [go_sem] mi109
theorem mi110 (H : Heap) (ρ : Operand → AV) (x : Operand) : apure Try.prog H ρ (.makeInterface 110 x) = some (.ifc 110 (ρ x)) := by simp only [apure, Try.underlying110]
attribute [go_sem] mi110
theorem mi111 (H : Heap) (ρ : Operand → AV) (x : Operand) : apure Try.prog H ρ (.makeInterface 111 x) = some (.ifc 111 (ρ x)) := by simp only [apure, Try.underlying111]
attribute [go_sem] mi111
theorem mi112 (H : Heap) (ρ : Operand → AV) (x : Operand) : apure Try.prog H ρ (.makeInterface 112 x) = some (.ifc 112 (ρ x)) := by simp only [apure, Try.underlying112]
attribute [go_sem] mi112
theorem mi113 (H : Heap) (ρ : Operand → AV) (x : Operand) : apure Try.prog H ρ (.makeInterface 113 x) = some (.ifc 113 (ρ x)) := by simp only [apure, Try.underlying113]
attribute [go_sem] mi113
theorem mi114 (H : Heap) (ρ : Operand → AV) (x : Operand) : apure Try.prog H ρ (.makeInterface 114 x) = some (.ifc 114 (ρ x)) := by simp only [apure, Try.underlying114]
attribute [go_sem] mi114
theorem mi115 (H : Heap) (ρ : Operand → AV) (x : Operand) : apure Try.prog H ρ (.makeInterface 115 x) = some (.ifc 115 (ρ x)) := by simp only [apure, Try.underlying115]
attribute [go_sem] mi115
theorem mi116 (H : Heap) (ρ : Operand → AV) (x : Operand) : apure Try.prog H ρ (.makeInterface 116 x) = some (.ifc 116 (ρ x)) := by simp only [apure, Try.underlying116]
attribute [go_sem] mi116
theorem mi117 (H : Heap) (ρ : Operand → AV) (x : Operand) : apure Try.prog H ρ (.makeInterface 117 x) = some (.ifc 117 (ρ x)) := by simp only [apure, Try.underlying117]
attribute [go_sem] mi117
theorem mi118 (H : Heap) (ρ : Operand → AV) (x : Operand) : apure Try.prog H ρ (.makeInterface 118 x) = some (.ifc 118 (ρ x)) := by simp only [apure, Try.underlying118]
attribute [go_sem] mi118
theorem mi119 (H : Heap) (ρ : Operand → AV) (x : Operand) : apure Try.prog H ρ (.makeInterface 119 x) = some (.ifc 119 (ρ x)) := by simp only [apure, Try.underlying119]
attribute [go_sem] mi119
theorem mi120 (H : Heap) (ρ : Operand → AV) (x : Operand) : apure Try.prog H ρ (.makeInterface 120 x) = some (.ifc 120 (ρ x)) := by simp only [apure, Try.underlying120]
attribute [go_sem] mi120
theorem mi121 (H : Heap) (ρ : Operand → AV) (x : Operand) : apure Try.prog H ρ (.makeInterface 121 x) = some (.ifc 121 (ρ x)) := by simp only [apure, Try.underlying121]
attribute [go_sem] mi121
theorem mi122 (H : Heap) (ρ : Operand → AV) (x : Operand) : apure Try.prog H ρ (.makeInterface 122 x) = some (.ifc 122 (ρ x)) := by simp only [apure, Try.underlying122]
attribute [go_sem] mi122
theorem mi123 (H : Heap) (ρ : Operand → AV) (x : Operand) : apure Try.prog H ρ (.makeInterface 123 x) = some (.ifc 123 (ρ x)) := by simp only [apure, Try.underlying123]
attribute [go_sem] mi123
theorem mi124 (H : Heap) (ρ : Operand → AV) (x : Operand) : apure Try.prog H ρ (.makeInterface 124 x) = some (.ifc 124 (ρ x)) := by simp only [apure, Try.underlying124]
attribute [go_sem] mi124
theorem mi125 (H : Heap) (ρ : Operand → AV) (x : Operand) : apure Try.prog H ρ (.makeInterface 125 x) = some (.ifc 125 (ρ x)) := by simp only [apure, Try.underlying125]
attribute [go_sem] mi125
theorem mi126 (H : Heap) (ρ : Operand → AV) (x : Operand) : apure Try.prog H ρ (.makeInterface 126 x) = some (.ifc 126 (ρ x)) := by simp only [apure, Try.underlying126]
attribute [go_sem] mi126
theorem mi127 (H : Heap) (ρ : Operand → AV) (x : Operand) : apure Try.prog H ρ (.makeInterface 127 x) = some (.ifc 127 (ρ x)) := by simp only [apure, Try.underlying127]
attribute [go_sem] mi127
theorem mi128 (H : Heap) (ρ : Operand → AV) (x : Operand) : apure Try.prog H ρ (.makeInterface 128 x) = some (.ifc 128 (ρ x)) := by simp only [apure, Try.underlying128]
attribute [go_sem] mi128
theorem mi129 (H : Heap) (ρ : Operand → AV) (x : Operand) : apure Try.prog H ρ (.makeInterface 129 x) = some (.ifc 129 (ρ x)) := by simp only [apure, Try.underlying129]
attribute [go_sem] mi129
theorem mi130 (H : Heap) (ρ : Operand → AV) (x : Operand) : apure Try.prog H ρ (.makeInterface 130 x) = some (.ifc 130 (ρ x)) := by simp only [apure, Try.underlying130]
attribute [go_sem] mi130
theorem mi131 (H : Heap) (ρ : Operand → AV) (x : Operand) : apure Try.prog H ρ (.makeInterface 131 x) = some (.ifc 131 (ρ x)) := by simp only [apure, Try.underlying131]
attribute [go_sem] mi131
theorem ln132 (xs : List AV) (n : Nat) (f : Bool) : abuiltin Try.prog .len [132] [.sl xs n f] = some (.v (.int .i64 n)) := abuiltin_len_sl Try.underlying132
theorem lo132 (j o n : Nat) : abuiltin Try.prog .len [132] [.own j o n] = some (.v (.int .i64 n)) := abuiltin_len_own Try.underlying132
theorem lz132 (n c : Nat) : abuiltin Try.prog .len [132] [.v (.slice none n c)] = some (.v (.int .i64 n)) := abuiltin_len_nil Try.underlying132
attribute [go_sem] ln132 lo132 lz132
theorem mi132 (H : Heap) (ρ : Operand → AV) (x : Operand) : apure Try.prog H ρ (.makeInterface 132 x) = some (.ifc 132 (ρ x)) := by simp only [apure, Try.underlying132]
attribute [go_sem] mi132
theorem mi133 (H : Heap) (ρ : Operand → AV) (x : Operand) : apure Try.prog H ρ (.makeInterface 133 x) = some (.ifc 133 (ρ x)) := by simp only [apure, Try.underlying133]
attribute [go_sem] mi133
theorem mi134 (H : Heap) (ρ : Operand → AV) (x : Operand) : apure Try.prog H ρ (.makeInterface 134 x) = some (.ifc 134 (ρ x)) := by simp only [apure, Try.underlying134]
attribute [go_sem] mi134
theorem mi135 (H : Heap) (ρ : Operand → AV) (x : Operand) : apure Try.prog H ρ (.makeInterface 135 x) = some (.ifc 135 (ρ x)) := by simp only [apure, Try.underlying135]
attribute [go_sem] mi135
theorem mi136 (H : Heap) (ρ : Operand → AV) (x : Operand) : apure Try.prog H ρ (.makeInterface 136 x) = some (.ifc 136 (ρ x)) := by simp only [apure, Try.underlying136]
attribute [go_sem] mi136
theorem ln137 (xs : List AV) (n : Nat) (f : Bool) : abuiltin Try.prog .len [137] [.sl xs n f] = some (.v (.int .i64 n)) := abuiltin_len_sl Try.underlying137
theorem lo137 (j o n : Nat) : abuiltin Try.prog .len [137] [.own j o n] = some (.v (.int .i64 n)) := abuiltin_len_own Try.underlying137
theorem lz137 (n c : Nat) : abuiltin Try.prog .len [137] [.v (.slice none n c)] = some (.v (.int .i64 n)) := abuiltin_len_nil Try.underlying137
attribute [go_sem] ln137 lo137 lz137
theorem mi137 (H : Heap) (ρ : Operand → AV) (x : Operand) : apure Try.prog H ρ (.makeInterface 137 x) = some (.ifc 137 (ρ x)) := by simp only [apure, Try.underlying137]
attribute [go_sem] mi137
theorem mi138 (H : Heap) (ρ : Operand → AV) (x : Operand) : apure Try.prog H ρ (.makeInterface 138 x) = some (.ifc 138 (ρ x)) := by simp only [apure, Try.underlying138]
attribute [go_sem] mi138
theorem mi139 (H : Heap) (ρ : Operand → AV) (x : Operand) : apure Try.prog H ρ (.makeInterface 139 x) = some (.ifc 139 (ρ x)) := by simp only [apure, Try.underlying139]
attribute [go_sem] mi139
theorem mi140 (H : Heap) (ρ : Operand → AV) (x : Operand) : apure Try.prog H ρ (.makeInterface 140 x) = some (.ifc 140 (ρ x)) := by simp only [apure, Try.underlying140]
attribute [go_sem] mi140
theorem mi141 (H : Heap) (ρ : Operand → AV) (x : Operand) : apure Try.prog H ρ (.makeInterface 141 x) = some (.ifc 141 (ρ x)) := by simp only [apure, Try.underlying141]
attribute [go_sem] mi141
theorem mi142 (H : Heap) (ρ : Operand → AV) (x : Operand) : apure Try.prog H ρ (.makeInterface 142 x) = some (.ifc 142 (ρ x)) := by simp only [apure, Try.underlying142]
attribute [go_sem] mi142
theorem ln143 (xs : List AV) (n : Nat) (f : Bool) : abuiltin Try.prog .len [143] [.sl xs n f] = some (.v (.int .i64 n)) := abuiltin_len_sl Try.underlying143
theorem lo143 (j o n : Nat) : abuiltin Try.prog .len [143] [.own j o n] = some (.v (.int .i64 n)) := abuiltin_len_own Try.underlying143
theorem lz143 (n c : Nat) : abuiltin Try.prog .len [143] [.v (.slice none n c)] = some (.v (.int .i64 n)) := abuiltin_len_nil Try.underlying143
attribute [go_sem] ln143 lo143 lz143
theorem mi143 (H : Heap) (ρ : Operand → AV) (x : Operand) : apure Try.prog H ρ (.makeInterface 143 x) = some (.ifc 143 (ρ x)) := by simp only [apure, Try.underlying143]
attribute [go_sem] mi143
theorem mi144 (H : Heap) (ρ : Operand → AV) (x : Operand) : apure Try.prog H ρ (.makeInterface 144 x) = some (.ifc 144 (ρ x)) := by simp only [apure, Try.underlying144]
attribute [go_sem] mi144
theorem mi145 (H : Heap) (ρ : Operand → AV) (x : Operand) : apure Try.prog H ρ (.makeInterface 145 x) = some (.ifc 145 (ρ x)) := by simp only [apure, Try.underlying145]
attribute [go_sem] mi145
theorem mi146 (H : Heap) (ρ : Operand → AV) (x : Operand) : apure Try.prog H ρ (.makeInterface 146 x) = some (.ifc 146 (ρ x)) := by simp only [apure, Try.underlying146]
attribute [go_sem] mi146
theorem mi147 (H : Heap) (ρ : Operand → AV) (x : Operand) : apure Try.prog H ρ (.makeInterface 147 x) = some (.ifc 147 (ρ x)) := by simp only [apure, Try.underlying147]
attribute [go_sem] mi147
theorem mi148 (H : Heap) (ρ : Operand → AV) (x : Operand) : apure Try.prog H ρ (.makeInterface 148 x) = some (.ifc 148 (ρ x)) := by simp only [apure, Try.underlying148]
attribute [go_sem] mi148
theorem mi151 (H : Heap) (ρ : Operand → AV) (x : Operand) : apure Try.prog H ρ (.makeInterface 151 x) = some (.ifc 151 (ρ x)) := by simp only [apure, Try.underlying151]
attribute [go_sem] mi151
theorem mi152 (H : Heap) (ρ : Operand → AV) (x : Operand) : apure Try.prog H ρ (.makeInterface 152 x) = some (.ifc 152 (ρ x)) := by simp only [apure, Try.underlying152]
attribute [go_sem] mi152
theorem mi153 (H : Heap) (ρ : Operand → AV) (x : Operand) : apure Try.prog H ρ (.makeInterface 153 x) = some (.ifc 153 (ρ x)) := by simp only [apure, Try.underlying153]
attribute [go_sem] mi153
theorem mi154 (H : Heap) (ρ : Operand → AV) (x : Operand) : apure Try.prog H ρ (.makeInterface 154 x) = some (.ifc 154 (ρ x)) := by simp only [apure, Try.underlying154]
attribute [go_sem] mi154
theorem mi155 (H : Heap) (ρ : Operand → AV) (x : Operand) : apure Try.prog H ρ (.makeInterface 155 x) = some (.ifc 155 (ρ x)) := by simp only [apure, Try.underlying155]
attribute [go_sem] mi155
theorem mi156 (H : Heap) (ρ : Operand → AV) (x : Operand) : apure Try.prog H ρ (.makeInterface 156 x) = some (.ifc 156 (ρ x)) := by simp only [apure, Try.underlying156]
attribute [go_sem] mi156
theorem mi157 (H : Heap) (ρ : Operand → AV) (x : Operand) : apure Try.prog H ρ (.makeInterface 157 x) = some (.ifc 157 (ρ x)) := by simp only [apure, Try.underlying157]
attribute [go_sem] mi157
theorem mi158 (H : Heap) (ρ : Operand → AV) (x : Operand) : apure Try.prog H ρ (.makeInterface 158 x) = some (.ifc 158 (ρ x)) := by simp only [apure, Try.underlying158]
attribute [go_sem] mi158
theorem mi159 (H : Heap) (ρ : Operand → AV) (x : Operand) : apure Try.prog H ρ (.makeInterface 159 x) = some (.ifc 159 (ρ x)) := by simp only [apure, Try.underlying159]
attribute [go_sem] mi159
theorem mi160 (H : Heap) (ρ : Operand → AV) (x : Operand) : apure Try.prog H ρ (.makeInterface 160 x) = some (.ifc 160 (ρ x)) := by simp only [apure, Try.underlying160]
attribute [go_sem] mi160
theorem mi161 (H : Heap) (ρ : Operand → AV) (x : Operand) : apure Try.prog H ρ (.makeInterface 161 x) = some (.ifc 161 (ρ x)) := by simp only [apure, Try.underlying161]
attribute [go_sem] mi161
theorem mi162 (H : Heap) (ρ : Operand → AV) (x : Operand) : apure Try.prog H ρ (.makeInterface 162 x) = some (.ifc 162 (ρ x)) := by simp only [apure, Try.underlying162]
attribute [go_sem] mi162
theorem mi163 (H : Heap) (ρ : Operand → AV) (x : Operand) : apure Try.prog H ρ (.makeInterface 163 x) = some (.ifc 163 (ρ x)) := by simp only [apure, Try.underlying163]
attribute [go_sem] mi163
theorem mi164 (H : Heap) (ρ : Operand → AV) (x : Operand) : apure Try.prog H ρ (.makeInterface 164 x) = some (.ifc 164 (ρ x)) := by simp only [apure, Try.underlying164]
attribute [go_sem] mi164
theorem mi165 (H : Heap) (ρ : Operand → AV) (x : Operand) : apure Try.prog H ρ (.makeInterface 165 x) = some (.ifc 165 (ρ x)) := by simp only [apure, Try.underlying165]
attribute [go_sem] mi165
theorem mi166 (H : Heap) (ρ : Operand → AV) (x : Operand) : apure Try.prog H ρ (.makeInterface 166 x) = some (.ifc 166 (ρ x)) := by simp only [apure, Try.underlying166]
attribute [go_sem] mi166
attribute [go_sem] Try.underlying0 sz0 Try.underlying1 sz1 Try.underlying2 sz2 Try.underlying3 sz3 Try.underlying4 sz4 Try.underlying5 sz5 Try.underlying6 sz6 Try.underlying7 sz7 Try.underlying8 sz8 Try.underlying9 sz9 Try.underlying10 sz10 Try.underlying11 sz11 Try.underlying12 sz12 Try.underlying13 sz13 Try.underlying14 sz14 Try.underlying15 sz15 Try.underlying16 sz16 Try.underlying17 sz17 Try.underlying18 sz18 Try.underlying19 sz19 Try.underlying20 sz20 Try.underlying21 sz21 Try.underlying22 sz22 Try.underlying23 sz23 Try.underlying24 sz24 Try.underlying25 sz25 Try.underlying26 sz26 Try.underlying27 sz27 Try.underlying28 sz28 Try.underlying29 sz29 Try.underlying30 sz30 Try.underlying31 sz31 Try.underlying32 sz32 Try.underlying33 sz33 Try.underlying34 sz34 Try.underlying35 sz35 Try.underlying36 sz36 Try.underlying37 sz37 Try.underlying38 sz38 Try.underlying39 sz39 Try.underlying40 sz40 Try.underlying41 sz41 Try.underlying42 sz42 Try.underlying43 sz43 Try.underlying44 sz44 Try.underlying45 sz45 Try.underlying46 sz46 Try.underlying47 sz47 Try.underlying48 sz48 Try.underlying49 sz49 Try.underlying50 sz50 Try.underlying51 sz51 Try.underlying52 sz52 Try.underlying53 sz53 Try.underlying54 sz54 Try.underlying55 sz55 Try.underlying56 sz56 Try.underlying57 sz57 Try.underlying58 sz58 Try.underlying59 sz59 Try.underlying60 sz60 Try.underlying61 sz61 Try.underlying62 sz62 Try.underlying63 sz63 Try.underlying64 sz64 Try.underlying65 sz65 Try.underlying66 sz66 Try.underlying67 sz67 Try.underlying68 sz68 Try.underlying69 sz69 Try.underlying70 sz70 Try.underlying71 sz71 Try.underlying72 sz72 Try.underlying73 sz73 Try.underlying74 sz74 Try.underlying75 sz75 Try.underlying76 sz76 Try.underlying77 sz77 Try.underlying78 sz78 Try.underlying79 sz79 Try.underlying80 sz80 Try.underlying81 sz81 Try.underlying82 sz82 Try.underlying83 sz83 Try.underlying84 sz84 Try.underlying85 sz85 Try.underlying86 sz86 Try.underlying87 sz87 Try.underlying88 sz88 Try.underlying89 sz89 Try.underlying90 sz90 Try.underlying91 sz91 Try.underlying92 sz92 Try.underlying93 sz93 Try.underlying94 sz94 Try.underlying95 sz95 Try.underlying96 sz96 Try.underlying97 sz97 Try.underlying98 sz98 Try.underlying99 sz99 Try.underlying100 sz100 Try.underlying101 sz101 Try.underlying102 sz102 Try.underlying103 sz103 Try.underlying104 sz104 Try.underlying105 sz105 Try.underlying106 sz106 Try.underlying107 sz107 Try.underlying108 sz108 Try.underlying109 sz109 Try.underlying110 sz110 Try.underlying111 sz111 Try.underlying112 sz112 Try.underlying113 sz113 Try.underlying114 sz114 Try.underlying115 sz115 Try.underlying116 sz116 Try.underlying117 sz117 Try.underlying118 sz118 Try.underlying119 sz119 Try.underlying120 sz120 Try.underlying121 sz121 Try.underlying122 sz122 Try.underlying123 sz123 Try.underlying124 sz124 Try.underlying125 sz125 Try.underlying126 sz126 Try.underlying127 sz127 Try.underlying128 sz128 Try.underlying129 sz129 Try.underlying130 sz130 Try.underlying131 sz131 Try.underlying132 sz132 Try.underlying133 sz133 Try.underlying134 sz134 Try.underlying135 sz135 Try.underlying136 sz136 Try.underlying137 sz137 Try.underlying138 sz138 Try.underlying139 sz139 Try.underlying140 sz140 Try.underlying141 sz141 Try.underlying142 sz142 Try.underlying143 sz143 Try.underlying144 sz144 Try.underlying145 sz145 Try.underlying146 sz146 Try.underlying147 sz147 Try.underlying148 sz148 Try.underlying149 sz149 Try.underlying150 sz150 Try.underlying151 sz151 Try.underlying152 sz152 Try.underlying153 sz153 Try.underlying154 sz154 Try.underlying155 sz155 Try.underlying156 sz156 Try.underlying157 sz157 Try.underlying158 sz158 Try.underlying159 sz159 Try.underlying160 sz160 Try.underlying161 sz161 Try.underlying162 sz162 Try.underlying163 sz163 Try.underlying164 sz164 Try.underlying165 sz165 Try.underlying166 sz166
end Go.Proofs.Ytibnmlbjahcjmaa
