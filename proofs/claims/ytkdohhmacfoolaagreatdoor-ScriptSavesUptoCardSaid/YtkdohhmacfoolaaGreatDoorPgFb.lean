/- Facts. No condition. -/
import Derived.Test.YtkdohhmacfoolaaGreatDoorPgAmT
import Derived.Test.YtkdohhmacfoolaaGreatDoorPgFacts
namespace Go.Proofs.YtkdohhmacfoolaaGreatDoor
open Go.Proofs.Tryz Go Go.AM
theorem Za{p:Prop}(h:p:=by simp only [dM,beq_self_eq_true,Nat.reduceBEq,cond_true,cond_false];try rfl):p:=h
theorem Zb{p:Prop}(h:p:=by intro _;simp only [go_sem,Nat.reduceBEq];try with_reducible rfl):p:=h
theorem Zc{p:Prop}(h:p:=by simp only [aF7];try rfl):p:=h
theorem Ze{p:Prop}(h:p:=by simp only [dM,hne1,hne2,Nat.reduceLeDiff,beq_self_eq_true,Nat.reduceBEq,cond_true,cond_false];try rfl):p:=h
theorem Zf{p:Prop}(h:p:=by simp only [dM,Nat.reduceBEq,cond_true,cond_false];try rfl):p:=h
theorem Zi{p:Prop}(h:p:=by funext q;simp only [upd];all_goals ((repeat' split)<;>first|rfl|omega)):p:=h
theorem Zj{p:Prop}(h:p:=by simp only [go_sem,Nat.reduceBEq,Int.reduceEq,Int.reduceLE];try with_reducible rfl):p:=h
instance:FB prog 6:=fbU func6 (by kernel_rfl)
instance:FB prog 10:=fbU func10 (by kernel_rfl)
instance:FB prog 12:=fbU func12 (by kernel_rfl)
instance:FB prog 13:=fbU func13 (by kernel_rfl)
instance:FB prog 14:=fbU func14 (by kernel_rfl)
instance:FB prog 20:=fbU func20 (by kernel_rfl)
instance:FB prog 25:=fbU func25 (by kernel_rfl)
instance:FB prog 26:=fbU func26 (by kernel_rfl)
instance:FB prog 27:=fbU func27 (by kernel_rfl)
instance:FB prog 28:=fbU func28 (by kernel_rfl)
instance:FB prog 32:=fbU func32 (by kernel_rfl)
instance:FB prog 33:=fbU func33 (by kernel_rfl)
instance:FB prog 34:=fbU func34 (by kernel_rfl)
instance:FB prog 35:=fbU func35 (by kernel_rfl)
instance:FB prog 36:=fbU func36 (by kernel_rfl)
instance:FB prog 37:=fbU func37 (by kernel_rfl)
instance:FB prog 38:=fbU func38 (by kernel_rfl)
instance:FB prog 39:=fbU func39 (by kernel_rfl)
instance:FB prog 40:=fbU func40 (by kernel_rfl)
instance:FB prog 41:=fbU func41 (by kernel_rfl)
instance:FB prog 43:=fbU func43 (by kernel_rfl)
instance:FB prog 44:=fbU func44 (by kernel_rfl)
instance:FB prog 45:=fbU func45 (by kernel_rfl)
instance:FB prog 50:=fbU func50 (by kernel_rfl)
instance:FB prog 52:=fbU func52 (by kernel_rfl)
instance:FB prog 54:=fbU func54 (by kernel_rfl)
instance:FB prog 55:=fbU func55 (by kernel_rfl)
instance:FB prog 56:=fbU func56 (by kernel_rfl)
instance:FB prog 57:=fbU func57 (by kernel_rfl)
instance:FB prog 58:=fbU func58 (by kernel_rfl)
instance:FB prog 59:=fbU func59 (by kernel_rfl)
instance:FB prog 60:=fbU func60 (by kernel_rfl)
instance:FB prog 61:=fbU func61 (by kernel_rfl)
instance:FB prog 62:=fbU func62 (by kernel_rfl)
instance:FB prog 63:=fbU func63 (by kernel_rfl)
instance:FB prog 64:=fbU func64 (by kernel_rfl)
instance:FB prog 68:=fbU func68 (by kernel_rfl)
instance:FB prog 69:=fbU func69 (by kernel_rfl)
instance:FB prog 73:=fbU func73 (by kernel_rfl)
instance:FB prog 74:=fbU func74 (by kernel_rfl)
instance:FB prog 75:=fbU func75 (by kernel_rfl)
instance:FB prog 76:=fbU func76 (by kernel_rfl)
instance:FB prog 77:=fbU func77 (by kernel_rfl)
instance:FB prog 78:=fbU func78 (by kernel_rfl)
instance:FB prog 79:=fbU func79 (by kernel_rfl)
instance:FB prog 80:=fbU func80 (by kernel_rfl)
instance:FB prog 81:=fbU func81 (by kernel_rfl)
instance:FB prog 82:=fbU func82 (by kernel_rfl)
instance:FB prog 83:=fbU func83 (by kernel_rfl)
instance:FB prog 84:=fbU func84 (by kernel_rfl)
instance:FB prog 85:=fbU func85 (by kernel_rfl)
instance:FB prog 86:=fbU func86 (by kernel_rfl)
instance:FB prog 87:=fbU func87 (by kernel_rfl)
instance:FB prog 88:=fbU func88 (by kernel_rfl)
instance:FB prog 89:=fbU func89 (by kernel_rfl)
instance:FB prog 90:=fbU func90 (by kernel_rfl)
instance:FB prog 91:=fbU func91 (by kernel_rfl)
instance:FB prog 92:=fbU func92 (by kernel_rfl)
instance:FB prog 93:=fbU func93 (by kernel_rfl)
instance:FB prog 96:=fbU func96 (by kernel_rfl)
instance:FB prog 98:=fbU func98 (by kernel_rfl)
instance:FB prog 99:=fbU func99 (by kernel_rfl)
instance:FB prog 100:=fbU func100 (by kernel_rfl)
instance:FB prog 102:=fbU func102 (by kernel_rfl)
instance:FB prog 104:=fbU func104 (by kernel_rfl)
instance:FB prog 106:=fbU func106 (by kernel_rfl)
instance:FB prog 107:=fbU func107 (by kernel_rfl)
instance:FB prog 108:=fbU func108 (by kernel_rfl)
instance:FB prog 109:=fbU func109 (by kernel_rfl)
instance:FB prog 110:=fbU func110 (by kernel_rfl)
instance:FB prog 111:=fbU func111 (by kernel_rfl)
instance:FB prog 115:=fbU func115 (by kernel_rfl)
instance:FB prog 118:=fbU func118 (by kernel_rfl)
instance:FB prog 119:=fbU func119 (by kernel_rfl)
instance:FB prog 120:=fbU func120 (by kernel_rfl)
instance:FB prog 122:=fbU func122 (by kernel_rfl)
instance:FB prog 127:=fbU func127 (by kernel_rfl)
instance:FB prog 128:=fbU func128 (by kernel_rfl)
instance:FB prog 130:=fbU func130 (by kernel_rfl)
instance:FB prog 131:=fbU func131 (by kernel_rfl)
instance:FB prog 132:=fbU func132 (by kernel_rfl)
instance:FB prog 133:=fbU func133 (by kernel_rfl)
instance:FB prog 134:=fbU func134 (by kernel_rfl)
instance:FB prog 135:=fbU func135 (by kernel_rfl)
instance:FB prog 136:=fbU func136 (by kernel_rfl)
instance:FB prog 137:=fbU func137 (by kernel_rfl)
instance:FB prog 138:=fbU func138 (by kernel_rfl)
instance:FB prog 139:=fbU func139 (by kernel_rfl)
instance:FB prog 140:=fbU func140 (by kernel_rfl)
instance:FB prog 141:=fbU func141 (by kernel_rfl)
instance:FB prog 142:=fbU func142 (by kernel_rfl)
instance:FB prog 143:=fbU func143 (by kernel_rfl)
instance:FB prog 144:=fbU func144 (by kernel_rfl)
instance:FB prog 145:=fbU func145 (by kernel_rfl)
instance:FB prog 147:=fbU func147 (by kernel_rfl)
instance:FB prog 148:=fbU func148 (by kernel_rfl)
instance:FB prog 149:=fbU func149 (by kernel_rfl)
instance:FB prog 153:=fbU func153 (by kernel_rfl)
instance:FB prog 154:=fbU func154 (by kernel_rfl)
instance:FB prog 155:=fbU func155 (by kernel_rfl)
instance:FB prog 156:=fbU func156 (by kernel_rfl)
instance:FB prog 157:=fbU func157 (by kernel_rfl)
instance:FB prog 158:=fbU func158 (by kernel_rfl)
instance:FB prog 160:=fbU func160 (by kernel_rfl)
instance:FB prog 162:=fbU func162 (by kernel_rfl)
instance:FB prog 163:=fbU func163 (by kernel_rfl)
instance:FB prog 164:=fbU func164 (by kernel_rfl)
instance:FB prog 165:=fbU func165 (by kernel_rfl)
instance:FB prog 166:=fbU func166 (by kernel_rfl)
instance:FB prog 167:=fbU func167 (by kernel_rfl)
instance:FB prog 168:=fbU func168 (by kernel_rfl)
instance:FB prog 169:=fbU func169 (by kernel_rfl)
instance:FB prog 170:=fbU func170 (by kernel_rfl)
instance:FB prog 171:=fbU func171 (by kernel_rfl)
instance:FB prog 173:=fbU func173 (by kernel_rfl)
instance:FB prog 174:=fbU func174 (by kernel_rfl)
instance:FB prog 175:=fbU func175 (by kernel_rfl)
instance:FB prog 176:=fbU func176 (by kernel_rfl)
instance:FB prog 180:=fbU func180 (by kernel_rfl)
instance:FB prog 181:=fbU func181 (by kernel_rfl)
instance:FB prog 182:=fbU func182 (by kernel_rfl)
instance:FB prog 183:=fbU func183 (by kernel_rfl)
instance:FB prog 184:=fbU func184 (by kernel_rfl)
instance:FB prog 185:=fbU func185 (by kernel_rfl)
instance:FB prog 186:=fbU func186 (by kernel_rfl)
instance:FB prog 191:=fbU func191 (by kernel_rfl)
instance:FB prog 192:=fbU func192 (by kernel_rfl)
instance:FB prog 196:=fbU func196 (by kernel_rfl)
instance:FB prog 199:=fbU func199 (by kernel_rfl)
instance:FB prog 203:=fbU func203 (by kernel_rfl)
instance:FB prog 212:=fbU func212 (by kernel_rfl)
instance:FB prog 213:=fbU func213 (by kernel_rfl)
instance:FB prog 214:=fbU func214 (by kernel_rfl)
instance:FB prog 215:=fbU func215 (by kernel_rfl)
instance:FB prog 216:=fbU func216 (by kernel_rfl)
instance:FB prog 217:=fbU func217 (by kernel_rfl)
instance:FB prog 219:=fbU func219 (by kernel_rfl)
instance:FB prog 220:=fbU func220 (by kernel_rfl)
instance:FB prog 221:=fbU func221 (by kernel_rfl)
instance:FB prog 222:=fbU func222 (by kernel_rfl)
instance:FB prog 225:=fbU func225 (by kernel_rfl)
instance:FB prog 226:=fbU func226 (by kernel_rfl)
instance:FB prog 227:=fbU func227 (by kernel_rfl)
instance:FB prog 228:=fbU func228 (by kernel_rfl)
instance:FB prog 229:=fbU func229 (by kernel_rfl)
instance:FB prog 230:=fbU func230 (by kernel_rfl)
instance:FB prog 231:=fbU func231 (by kernel_rfl)
instance:FB prog 236:=fbU func236 (by kernel_rfl)
instance:FB prog 237:=fbU func237 (by kernel_rfl)
instance:FB prog 239:=fbU func239 (by kernel_rfl)
instance:FB prog 246:=fbU func246 (by kernel_rfl)
instance:FB prog 247:=fbU func247 (by kernel_rfl)
instance:FB prog 248:=fbU func248 (by kernel_rfl)
instance:FB prog 250:=fbU func250 (by kernel_rfl)
instance:FB prog 251:=fbU func251 (by kernel_rfl)
instance:FB prog 252:=fbU func252 (by kernel_rfl)
instance:TI prog 3 1:=⟨_,_,in3,ts3,by rw [tb3];decide,by rw [tb3];decide,tz3,by decide,by decide⟩
instance:TI prog 4 1:=⟨_,_,in4,ts4,by rw [tb4];decide,by rw [tb4];decide,tz4,by decide,by decide⟩
instance:TI prog 5 1:=⟨_,_,in5,ts5,by rw [tb5];decide,by rw [tb5];decide,tz5,by decide,by decide⟩
instance:TI prog 9 1:=⟨_,_,in9,ts9,by rw [tb9];decide,by rw [tb9];decide,tz9,by decide,by decide⟩
instance:TI prog 24 1:=⟨_,_,bZx,cLx,by rw [cHj];decide,by rw [cHj];decide,cHq,by decide,by decide⟩
instance:TI prog 36 1:=⟨_,_,bZz,cLy,by rw [cHk];decide,by rw [cHk];decide,cHs,by decide,by decide⟩
instance:TI prog 40 1:=⟨_,_,bX0,bYd,by rw [bLk];decide,by rw [bLk];decide,bYf,by decide,by decide⟩
instance:TI prog 61 3:=⟨_,_,bO2,bQl,by rw [aUy];decide,by rw [aUy];decide,bQm,by decide,by decide⟩
instance:TI prog 69 1:=⟨_,_,bX1,bYe,by rw [bLl];decide,by rw [bLl];decide,bYg,by decide,by decide⟩
instance:TI prog 94 2:=⟨_,_,bSa,bUy,by rw [bC1];decide,by rw [bC1];decide,bV0,by decide,by decide⟩
instance:TI prog 96 2:=⟨_,_,bSb,bUz,by rw [bC2];decide,by rw [bC2];decide,bV1,by decide,by decide⟩
instance:TI prog 157 1:=⟨_,_,bVm,cHm,by rw [bVy];decide,by rw [bVy];decide,bW1,by decide,by decide⟩
instance:TI prog 180 2:=⟨_,_,bZw,cHn,by rw [bVz];decide,by rw [bVz];decide,cHp,by decide,by decide⟩
instance:TI prog 277 1:=⟨_,_,bZy,cHo,by rw [bW0];decide,by rw [bW0];decide,cHr,by decide,by decide⟩
instance:MX prog:=⟨mix⟩
attribute [go_sem] zc3 zc4 zc5 zc9 cHy bYn cM4 bYo cM5 bQs cM6 aZ4 cM8 bYp bQt bQu bW6 cHv cHw cHx cI0
instance:BD prog 23 (fun i=>[(0,1),(1,1),(2,1)][i]?) [.v (Value.int IntKind.i64 0),.v (Value.int IntKind.i64 0),.v (Value.int IntKind.i64 0)]:=⟨fun _=>by kernel_rfl⟩
instance:BD prog 30 (fun i=>[(0,3),(3,1),(4,1)][i]?) [.v (Value.int IntKind.i64 0),.v (Value.int IntKind.i64 0),.v (Value.int IntKind.i64 0),.v (Value.slice none 0 0),.v (Value.slice none 0 0)]:=⟨fun _=>by kernel_rfl⟩
instance:BD prog 33 (fun i=>[(0,5),(5,1)][i]?) [.v (Value.int IntKind.i64 0),.v (Value.int IntKind.i64 0),.v (Value.int IntKind.i64 0),.v (Value.slice none 0 0),.v (Value.slice none 0 0),.v (Value.slice none 0 0)]:=⟨fun _=>by kernel_rfl⟩
instance:BD prog 42 (fun i=>[(0,1),(1,1),(2,1),(3,1)][i]?) [.v (Value.int IntKind.i64 0),.v (Value.int IntKind.u64 0),.v (Value.int IntKind.u64 0),.v (Value.string { data:= #[] })]:=⟨fun _=>by kernel_rfl⟩
instance:BD prog 61 (fun i=>[(0,1),(1,1),(2,1)][i]?) [.v (Value.int IntKind.i64 0),.v (Value.int IntKind.i64 0),.v (Value.int IntKind.i64 0)]:=⟨fun _=>by kernel_rfl⟩
instance:BD prog 68 (fun i=>[(0,6),(6,2),(8,1)][i]?) [.v (Value.int IntKind.i64 0),.v (Value.int IntKind.i64 0),.v (Value.int IntKind.i64 0),.v (Value.slice none 0 0),.v (Value.slice none 0 0),.v (Value.slice none 0 0),.v (Value.slice none 0 0),.v (Value.int IntKind.i64 0),.v (Value.bool false)]:=⟨fun _=>by kernel_rfl⟩
instance:BD prog 94 (fun i=>[(0,1),(1,1)][i]?) [.v (Value.int IntKind.u64 0),.v (Value.int IntKind.u64 0)]:=⟨fun _=>by kernel_rfl⟩
instance:BD prog 147 (fun i=>[(0,1)][i]?) [.v (Value.pointer none)]:=⟨fun _=>by kernel_rfl⟩
instance:BD prog 215 (fun i=>[(0,1),(1,1),(2,1)][i]?) [.v (Value.int IntKind.i64 0),.v (Value.int IntKind.i64 0),.v (Value.slice none 0 0)]:=⟨fun _=>by kernel_rfl⟩
instance:CE prog 24 (ci .u64) 1 0:=⟨_,underlying24,aM8,bQs,inferInstance,(CFi .u64),by decide,by decide⟩
instance:CE prog 56 (ci .i64) 1 0:=⟨_,underlying56,sz3,zc3,inferInstance,(CFi .i64),by decide,by decide⟩
end Go.Proofs.YtkdohhmacfoolaaGreatDoor
