/- Facts. No condition. -/
import Derived.Test.YtkdohhmacfoolaaGreatDoorOcAmT
import Derived.Test.YtkdohhmacfoolaaGreatDoorOcFacts
import Derived.Shelf.Strings.Builder1
import Derived.Shelf.Small.Strs
import Derived.Shelf.Strconv.Itoa3
import Derived.Shelf.Strings.Search1
import Derived.Test.YtkdohhmacfoolaaGreatDoorProg
namespace Go.Proofs.YtkdohhmacfoolaaGreatDoor
open Go.Proofs.Tryz Go Go.AM
theorem Za{p:Prop}(h:p:=by simp only [cP,beq_self_eq_true,Nat.reduceBEq,cond_true,cond_false];try rfl):p:=h
theorem Zb{p:Prop}(h:p:=by intro _;simp only [go_sem,Nat.reduceBEq];try with_reducible rfl):p:=h
theorem Zc{p:Prop}(h:p:=by simp only [aM3];try rfl):p:=h
theorem Ze{p:Prop}(h:p:=by simp only [cP,hne1,hne2,Nat.reduceLeDiff,beq_self_eq_true,Nat.reduceBEq,cond_true,cond_false];try rfl):p:=h
theorem Zf{p:Prop}(h:p:=by simp only [cP,Nat.reduceBEq,cond_true,cond_false];try rfl):p:=h
theorem Zi{p:Prop}(h:p:=by funext q;simp only [upd];all_goals ((repeat' split)<;>first|rfl|omega)):p:=h
theorem Zj{p:Prop}(h:p:=by simp only [go_sem,Nat.reduceBEq,Int.reduceEq,Int.reduceLE];try with_reducible rfl):p:=h
instance:FB prog 8:=fbU func8 (by kernel_rfl)
instance:FB prog 10:=fbU func10 (by kernel_rfl)
instance:FB prog 12:=fbU func12 (by kernel_rfl)
instance:FB prog 20:=fbU func20 (by kernel_rfl)
instance:FB prog 25:=fbU func25 (by kernel_rfl)
instance:FB prog 27:=fbU func27 (by kernel_rfl)
instance:FB prog 28:=fbU func28 (by kernel_rfl)
instance:FB prog 31:=fbU func31 (by kernel_rfl)
instance:FB prog 32:=fbU func32 (by kernel_rfl)
instance:FB prog 33:=fbU func33 (by kernel_rfl)
instance:FB prog 34:=fbU func34 (by kernel_rfl)
instance:FB prog 35:=fbU func35 (by kernel_rfl)
instance:FB prog 36:=fbU func36 (by kernel_rfl)
instance:FB prog 37:=fbU func37 (by kernel_rfl)
instance:FB prog 38:=fbU func38 (by kernel_rfl)
instance:FB prog 39:=fbU func39 (by kernel_rfl)
instance:FB prog 40:=fbU func40 (by kernel_rfl)
instance:FB prog 41:=fbU func41 (by kernel_rfl)
instance:FB prog 45:=fbU func45 (by kernel_rfl)
instance:FB prog 50:=fbU func50 (by kernel_rfl)
instance:FB prog 52:=fbU func52 (by kernel_rfl)
instance:FB prog 54:=fbU func54 (by kernel_rfl)
instance:FB prog 55:=fbU func55 (by kernel_rfl)
instance:FB prog 56:=fbU func56 (by kernel_rfl)
instance:FB prog 57:=fbU func57 (by kernel_rfl)
instance:FB prog 58:=fbU func58 (by kernel_rfl)
instance:FB prog 59:=fbU func59 (by kernel_rfl)
instance:FB prog 60:=fbU func60 (by kernel_rfl)
instance:FB prog 62:=fbU func62 (by kernel_rfl)
instance:FB prog 63:=fbU func63 (by kernel_rfl)
instance:FB prog 64:=fbU func64 (by kernel_rfl)
instance:FB prog 68:=fbU func68 (by kernel_rfl)
instance:FB prog 69:=fbU func69 (by kernel_rfl)
instance:FB prog 73:=fbU func73 (by kernel_rfl)
instance:FB prog 74:=fbU func74 (by kernel_rfl)
instance:FB prog 75:=fbU func75 (by kernel_rfl)
instance:FB prog 76:=fbU func76 (by kernel_rfl)
instance:FB prog 77:=fbU func77 (by kernel_rfl)
instance:FB prog 78:=fbU func78 (by kernel_rfl)
instance:FB prog 79:=fbU func79 (by kernel_rfl)
instance:FB prog 80:=fbU func80 (by kernel_rfl)
instance:FB prog 81:=fbU func81 (by kernel_rfl)
instance:FB prog 82:=fbU func82 (by kernel_rfl)
instance:FB prog 83:=fbU func83 (by kernel_rfl)
instance:FB prog 84:=fbU func84 (by kernel_rfl)
instance:FB prog 85:=fbU func85 (by kernel_rfl)
instance:FB prog 86:=fbU func86 (by kernel_rfl)
instance:FB prog 87:=fbU func87 (by kernel_rfl)
instance:FB prog 88:=fbU func88 (by kernel_rfl)
instance:FB prog 89:=fbU func89 (by kernel_rfl)
instance:FB prog 90:=fbU func90 (by kernel_rfl)
instance:FB prog 92:=fbU func92 (by kernel_rfl)
instance:FB prog 93:=fbU func93 (by kernel_rfl)
instance:FB prog 96:=fbU func96 (by kernel_rfl)
instance:FB prog 98:=fbU func98 (by kernel_rfl)
instance:FB prog 99:=fbU func99 (by kernel_rfl)
instance:FB prog 100:=fbU func100 (by kernel_rfl)
instance:FB prog 102:=fbU func102 (by kernel_rfl)
instance:FB prog 104:=fbU func104 (by kernel_rfl)
instance:FB prog 106:=fbU func106 (by kernel_rfl)
instance:FB prog 107:=fbU func107 (by kernel_rfl)
instance:FB prog 110:=fbU func110 (by kernel_rfl)
instance:FB prog 115:=fbU func115 (by kernel_rfl)
instance:FB prog 118:=fbU func118 (by kernel_rfl)
instance:FB prog 119:=fbU func119 (by kernel_rfl)
instance:FB prog 120:=fbU func120 (by kernel_rfl)
instance:FB prog 122:=fbU func122 (by kernel_rfl)
instance:FB prog 124:=fbU func124 (by kernel_rfl)
instance:FB prog 125:=fbU func125 (by kernel_rfl)
instance:FB prog 126:=fbU func126 (by kernel_rfl)
instance:FB prog 127:=fbU func127 (by kernel_rfl)
instance:FB prog 128:=fbU func128 (by kernel_rfl)
instance:FB prog 130:=fbU func130 (by kernel_rfl)
instance:FB prog 131:=fbU func131 (by kernel_rfl)
instance:FB prog 132:=fbU func132 (by kernel_rfl)
instance:FB prog 133:=fbU func133 (by kernel_rfl)
instance:FB prog 134:=fbU func134 (by kernel_rfl)
instance:FB prog 135:=fbU func135 (by kernel_rfl)
instance:FB prog 136:=fbU func136 (by kernel_rfl)
instance:FB prog 137:=fbU func137 (by kernel_rfl)
instance:FB prog 138:=fbU func138 (by kernel_rfl)
instance:FB prog 139:=fbU func139 (by kernel_rfl)
instance:FB prog 140:=fbU func140 (by kernel_rfl)
instance:FB prog 141:=fbU func141 (by kernel_rfl)
instance:FB prog 142:=fbU func142 (by kernel_rfl)
instance:FB prog 143:=fbU func143 (by kernel_rfl)
instance:FB prog 144:=fbU func144 (by kernel_rfl)
instance:FB prog 145:=fbU func145 (by kernel_rfl)
instance:FB prog 153:=fbU func153 (by kernel_rfl)
instance:FB prog 154:=fbU func154 (by kernel_rfl)
instance:FB prog 155:=fbU func155 (by kernel_rfl)
instance:FB prog 156:=fbU func156 (by kernel_rfl)
instance:FB prog 157:=fbU func157 (by kernel_rfl)
instance:FB prog 158:=fbU func158 (by kernel_rfl)
instance:FB prog 160:=fbU func160 (by kernel_rfl)
instance:FB prog 162:=fbU func162 (by kernel_rfl)
instance:FB prog 163:=fbU func163 (by kernel_rfl)
instance:FB prog 164:=fbU func164 (by kernel_rfl)
instance:FB prog 165:=fbU func165 (by kernel_rfl)
instance:FB prog 166:=fbU func166 (by kernel_rfl)
instance:FB prog 167:=fbU func167 (by kernel_rfl)
instance:FB prog 168:=fbU func168 (by kernel_rfl)
instance:FB prog 169:=fbU func169 (by kernel_rfl)
instance:FB prog 170:=fbU func170 (by kernel_rfl)
instance:FB prog 171:=fbU func171 (by kernel_rfl)
instance:FB prog 173:=fbU func173 (by kernel_rfl)
instance:FB prog 174:=fbU func174 (by kernel_rfl)
instance:FB prog 175:=fbU func175 (by kernel_rfl)
instance:FB prog 176:=fbU func176 (by kernel_rfl)
instance:FB prog 191:=fbU func191 (by kernel_rfl)
instance:FB prog 192:=fbU func192 (by kernel_rfl)
instance:FB prog 199:=fbU func199 (by kernel_rfl)
instance:FB prog 203:=fbU func203 (by kernel_rfl)
instance:FB prog 212:=fbU func212 (by kernel_rfl)
instance:FB prog 213:=fbU func213 (by kernel_rfl)
instance:FB prog 214:=fbU func214 (by kernel_rfl)
instance:FB prog 215:=fbU func215 (by kernel_rfl)
instance:FB prog 216:=fbU func216 (by kernel_rfl)
instance:FB prog 217:=fbU func217 (by kernel_rfl)
instance:FB prog 219:=fbU func219 (by kernel_rfl)
instance:FB prog 220:=fbU func220 (by kernel_rfl)
instance:FB prog 221:=fbU func221 (by kernel_rfl)
instance:FB prog 222:=fbU func222 (by kernel_rfl)
instance:FB prog 236:=fbU func236 (by kernel_rfl)
instance:FB prog 237:=fbU func237 (by kernel_rfl)
instance:FB prog 246:=fbU func246 (by kernel_rfl)
instance:FB prog 247:=fbU func247 (by kernel_rfl)
instance:FB prog 248:=fbU func248 (by kernel_rfl)
instance:TI prog 3 1:=⟨_,_,in3,ts3,by rw [tb3];decide,by rw [tb3];decide,tz3,by decide,by decide⟩
instance:TI prog 4 1:=⟨_,_,in4,ts4,by rw [tb4];decide,by rw [tb4];decide,tz4,by decide,by decide⟩
instance:TI prog 9 1:=⟨_,_,in9,ts9,by rw [tb9];decide,by rw [tb9];decide,tz9,by decide,by decide⟩
instance:TI prog 24 1:=⟨_,_,bPe,cA0,by rw [bVx];decide,by rw [bVx];decide,bW3,by decide,by decide⟩
instance:TI prog 36 1:=⟨_,_,bPf,cA1,by rw [bVy];decide,by rw [bVy];decide,bW4,by decide,by decide⟩
instance:TI prog 40 1:=⟨_,_,bMw,bO0,by rw [bDj];decide,by rw [bDj];decide,bO4,by decide,by decide⟩
instance:TI prog 61 3:=⟨_,_,bIy,bKz,by rw [aVh];decide,by rw [aVh];decide,bL0,by decide,by decide⟩
instance:TI prog 69 1:=⟨_,_,bMx,bO1,by rw [bDk];decide,by rw [bDk];decide,bO5,by decide,by decide⟩
instance:TI prog 94 2:=⟨_,_,bMy,bO2,by rw [bDl];decide,by rw [bDl];decide,bO6,by decide,by decide⟩
instance:TI prog 96 2:=⟨_,_,bMz,bO3,by rw [bDm];decide,by rw [bDm];decide,bO7,by decide,by decide⟩
instance:TI prog 157 1:=⟨_,_,bLq,bW0,by rw [bLz];decide,by rw [bLz];decide,bM1,by decide,by decide⟩
instance:TI prog 180 2:=⟨_,_,bPd,bW1,by rw [bM0];decide,by rw [bM0];decide,bW2,by decide,by decide⟩
instance:MX prog:=⟨mix⟩
attribute [go_sem] zc3 zc4 zc5 zc9 cA6 bOe cA7 cA8 cA9 bL4 cAa aYy cAc bOf bL5 bL6 bM7 bW6 bW7 bW8
instance:BD prog 30 (fun i=>[(0,3),(3,1),(4,1)][i]?) [.v (Value.int IntKind.i64 0),.v (Value.int IntKind.i64 0),.v (Value.int IntKind.i64 0),.v (Value.slice none 0 0),.v (Value.slice none 0 0)]:=⟨fun _=>by kernel_rfl⟩
instance:BD prog 61 (fun i=>[(0,1),(1,1),(2,1)][i]?) [.v (Value.int IntKind.i64 0),.v (Value.int IntKind.i64 0),.v (Value.int IntKind.i64 0)]:=⟨fun _=>by kernel_rfl⟩
instance:BD prog 94 (fun i=>[(0,1),(1,1)][i]?) [.v (Value.int IntKind.u64 0),.v (Value.int IntKind.u64 0)]:=⟨fun _=>by kernel_rfl⟩
instance:BD prog 147 (fun i=>[(0,1)][i]?) [.v (Value.pointer none)]:=⟨fun _=>by kernel_rfl⟩
instance:CE prog 24 (ci .u64) 1 0:=⟨_,underlying24,aLo,bL4,inferInstance,(CFi .u64),by decide,by decide⟩
instance:CE prog 56 (ci .i64) 1 0:=⟨_,underlying56,sz3,zc3,inferInstance,(CFi .i64),by decide,by decide⟩
end Go.Proofs.YtkdohhmacfoolaaGreatDoor
set_option linter.unusedSimpArgs false
set_option linter.unusedVariables false
namespace Go.Proofs
open Go.Shelf
def Tryz.lays169_ren:Go.Shelf.Ren:=⟨fun|169=>72|n=>n,fun|70=>131|9=>9|0=>0|72=>133|37=>91|127=>191|3=>3|5=>5|n=>n,fun|n=>n⟩
theorem Tryz.lays169:Go.Proofs.Lays.n169 prog Tryz.lays169_ren:= {
 mixed:=by kernel_rfl
 f169:=Tryz.func72.trans (congrArg some (by kernel_rfl))
 t0:=underlying0
 a0:=Tryz.isAgg0
 z0:=Tryz.sizeOf0
 v0:=Tryz.zeroValue0
 t3:=underlying3
 a3:=Tryz.isAgg3
 z3:=Tryz.sizeOf3
 v3:=Tryz.zeroValue3
 t9:=underlying9
 a9:=Tryz.isAgg9
 z9:=Tryz.sizeOf9
 v9:=Tryz.zeroValue9
 t37:=underlying91
 a37:=Tryz.isAgg91
 z37:=Tryz.sizeOf91
 v37:=Tryz.zeroValue91
 t70:=underlying131
 a70:=Tryz.isAgg131
 z70:=Tryz.sizeOf131
 v70:=Tryz.zeroValue131
 t72:=underlying133
 a72:=Tryz.isAgg133
 z72:=Tryz.sizeOf133
 v72:=Tryz.zeroValue133
 t127:=underlying191
 a127:=Tryz.isAgg191
 z127:=Tryz.sizeOf191
 v127:=Tryz.zeroValue191 }
theorem Tryz.Builder_Extra_169:Builder.Extra prog Tryz.lays169_ren:= {
 sizeBuilder:=by kernel_rfl
 liesBuilder:=by kernel_rfl
 t5:=underlying5
 a5:=Tryz.isAgg5
 z5:=Tryz.sizeOf5
 v5:=Tryz.zeroValue5
 infoByte:=by kernel_rfl
 cellsByte:=by kernel_rfl
 sizeByte:=by kernel_rfl
 neB5:=by decide }
open Go.RowKit in
theorem Tryz.Builder_String_any(B b:Nat)(l:List UInt8)(w:World)(h:Lib.IsBuilder 133 5 B b (Lib.byteCells l) w)(hBw:B≤w.heap.size):
 Calls prog 72 #[.pointer (some ⟨b,0,none⟩)] w fun e w'=>e= .returned (.string ⟨l.toArray⟩)∧Below B w w':=Any.Builder_String_any Tryz.lays169 Tryz.Builder_Extra_169 B b l w h hBw
def Tryz.lays283_ren:Go.Shelf.Ren:=⟨fun|283=>187|n=>n,fun|3=>3|9=>9|4=>4|n=>n,fun|n=>n⟩
theorem Tryz.lays283:Go.Proofs.Lays.n283 prog Tryz.lays283_ren:= {
 mixed:=by kernel_rfl
 f283:=Tryz.func187.trans (congrArg some (by kernel_rfl))
 t3:=underlying3
 a3:=Tryz.isAgg3
 z3:=Tryz.sizeOf3
 v3:=Tryz.zeroValue3
 t4:=underlying4
 a4:=Tryz.isAgg4
 z4:=Tryz.sizeOf4
 v4:=Tryz.zeroValue4
 t9:=underlying9
 a9:=Tryz.isAgg9
 z9:=Tryz.sizeOf9
 v9:=Tryz.zeroValue9 }
open Go.Lib in
theorem Tryz.internal_strconv_small(i:Nat)(h:i<100)(w:World):
 Calls prog 187 #[.int .i64 i] w fun e w'=>e= .returned (.string ⟨(Lib.decDigits i).toArray⟩)∧w'=w:=Any.internal_strconv_small Tryz.lays283 i h w
def Tryz.lays171_ren:Go.Shelf.Ren:=⟨fun|171=>69|243=>116|246=>151|283=>187|284=>188|285=>189|286=>190|129=>203|317=>232|318=>233|319=>234|320=>235|337=>253|338=>254|n=>n,fun|3=>3|9=>9|2=>2|4=>4|171=>261|0=>0|53=>40|37=>91|5=>5|173=>264|212=>298|51=>277|20=>20|213=>299|46=>162|232=>316|233=>317|n=>n,fun|17=>3|18=>4|19=>5|n=>n⟩
theorem Tryz.lays171:Go.Proofs.Lays.n171 prog Tryz.lays171_ren:= {
 mixed:=by kernel_rfl
 f129:=Tryz.func203.trans (congrArg some (by kernel_rfl))
 f171:=Tryz.func69.trans (congrArg some (by kernel_rfl))
 f243:=Tryz.func116.trans (congrArg some (by kernel_rfl))
 f246:=Tryz.func151.trans (congrArg some (by kernel_rfl))
 f283:=Tryz.func187.trans (congrArg some (by kernel_rfl))
 f284:=Tryz.func188.trans (congrArg some (by kernel_rfl))
 f285:=Tryz.func189.trans (congrArg some (by kernel_rfl))
 f286:=Tryz.func190.trans (congrArg some (by kernel_rfl))
 f317:=Tryz.func232.trans (congrArg some (by kernel_rfl))
 f318:=Tryz.func233.trans (congrArg some (by kernel_rfl))
 f319:=Tryz.func234.trans (congrArg some (by kernel_rfl))
 f320:=Tryz.func235.trans (congrArg some (by kernel_rfl))
 f337:=Tryz.func253.trans (congrArg some (by kernel_rfl))
 f338:=Tryz.func254.trans (congrArg some (by kernel_rfl))
 t0:=underlying0
 a0:=Tryz.isAgg0
 z0:=Tryz.sizeOf0
 v0:=Tryz.zeroValue0
 t2:=underlying2
 a2:=Tryz.isAgg2
 z2:=Tryz.sizeOf2
 v2:=Tryz.zeroValue2
 t3:=underlying3
 a3:=Tryz.isAgg3
 z3:=Tryz.sizeOf3
 v3:=Tryz.zeroValue3
 t4:=underlying4
 a4:=Tryz.isAgg4
 z4:=Tryz.sizeOf4
 v4:=Tryz.zeroValue4
 t5:=underlying5
 a5:=Tryz.isAgg5
 z5:=Tryz.sizeOf5
 v5:=Tryz.zeroValue5
 t9:=underlying9
 a9:=Tryz.isAgg9
 z9:=Tryz.sizeOf9
 v9:=Tryz.zeroValue9
 t20:=underlying20
 a20:=Tryz.isAgg20
 z20:=Tryz.sizeOf20
 v20:=Tryz.zeroValue20
 t37:=underlying91
 a37:=Tryz.isAgg91
 z37:=Tryz.sizeOf91
 v37:=Tryz.zeroValue91
 t46:=underlying162
 a46:=Tryz.isAgg162
 z46:=Tryz.sizeOf162
 v46:=Tryz.zeroValue162
 t51:=underlying277
 a51:=Tryz.isAgg277
 z51:=Tryz.sizeOf277
 v51:=Tryz.zeroValue277
 t53:=underlying40
 a53:=Tryz.isAgg40
 z53:=Tryz.sizeOf40
 v53:=Tryz.zeroValue40
 t171:=underlying261
 a171:=Tryz.isAgg261
 z171:=Tryz.sizeOf261
 v171:=Tryz.zeroValue261
 t173:=underlying264
 a173:=Tryz.isAgg264
 z173:=Tryz.sizeOf264
 v173:=Tryz.zeroValue264
 t212:=underlying298
 a212:=Tryz.isAgg298
 z212:=Tryz.sizeOf298
 v212:=Tryz.zeroValue298
 t213:=underlying299
 a213:=Tryz.isAgg299
 z213:=Tryz.sizeOf299
 t232:=underlying316
 a232:=Tryz.isAgg316
 z232:=Tryz.sizeOf316
 v232:=Tryz.zeroValue316
 t233:=underlying317
 a233:=Tryz.isAgg317
 z233:=Tryz.sizeOf317
 v233:=Tryz.zeroValue317
 g17:=by kernel_rfl
 g18:=by kernel_rfl
 g19:=by kernel_rfl }
open Go.RowKit Go.Sort Go.Lib in
theorem Tryz.strconv_Itoa_small(i:Nat)(hi:i<100)(w:World):
 Calls prog 69 #[.int .i64 i] w fun e w'=>e= .returned (.string ⟨(Lib.decDigits i).toArray⟩)∧w'=w:=Any.strconv_Itoa_small Tryz.lays171 i hi w
end Go.Proofs
