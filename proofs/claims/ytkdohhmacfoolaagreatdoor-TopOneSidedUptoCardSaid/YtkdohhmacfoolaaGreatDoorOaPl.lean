/- Facts. No condition. -/
import Derived.Test.YtkdohhmacfoolaaGreatDoorOaAmT
import Derived.Test.YtkdohhmacfoolaaGreatDoorOaFacts
import Derived.Laws.RangeAny
namespace Go.Proofs.YtkdohhmacfoolaaGreatDoor
open Go.Proofs.Tryz Go Go.AM
theorem Za{p:Prop}(h:p:=by simp only [cC,beq_self_eq_true,Nat.reduceBEq,cond_true,cond_false];try rfl):p:=h
theorem Zb{p:Prop}(h:p:=by intro _;simp only [go_sem,Nat.reduceBEq];try with_reducible rfl):p:=h
theorem Zc{p:Prop}(h:p:=by simp only [aKl];try rfl):p:=h
theorem Ze{p:Prop}(h:p:=by simp only [cC,hne1,hne2,Nat.reduceLeDiff,beq_self_eq_true,Nat.reduceBEq,cond_true,cond_false];try rfl):p:=h
theorem Zf{p:Prop}(h:p:=by simp only [cC,Nat.reduceBEq,cond_true,cond_false];try rfl):p:=h
theorem Zi{p:Prop}(h:p:=by funext q;simp only [upd];all_goals ((repeat' split)<;>first|rfl|omega)):p:=h
theorem Zj{p:Prop}(h:p:=by simp only [go_sem,Nat.reduceBEq,Int.reduceEq,Int.reduceLE];try with_reducible rfl):p:=h
instance:FB prog 4:=fbU func4 (by kernel_rfl)
instance:FB prog 10:=fbU func10 (by kernel_rfl)
instance:FB prog 11:=fbU func11 (by kernel_rfl)
instance:FB prog 12:=fbU func12 (by kernel_rfl)
instance:FB prog 15:=fbU func15 (by kernel_rfl)
instance:FB prog 19:=fbU func19 (by kernel_rfl)
instance:FB prog 20:=fbU func20 (by kernel_rfl)
instance:FB prog 21:=fbU func21 (by kernel_rfl)
instance:FB prog 22:=fbU func22 (by kernel_rfl)
instance:FB prog 23:=fbU func23 (by kernel_rfl)
instance:FB prog 24:=fbU func24 (by kernel_rfl)
instance:FB prog 25:=fbU func25 (by kernel_rfl)
instance:FB prog 28:=fbU func28 (by kernel_rfl)
instance:FB prog 32:=fbU func32 (by kernel_rfl)
instance:FB prog 33:=fbU func33 (by kernel_rfl)
instance:FB prog 34:=fbU func34 (by kernel_rfl)
instance:FB prog 35:=fbU func35 (by kernel_rfl)
instance:FB prog 36:=fbU func36 (by kernel_rfl)
instance:FB prog 37:=fbU func37 (by kernel_rfl)
instance:FB prog 38:=fbU func38 (by kernel_rfl)
instance:FB prog 39:=fbU func39 (by kernel_rfl)
instance:FB prog 40:=fbU func40 (by kernel_rfl)
instance:FB prog 41:=fbU func41 (by kernel_rfl)
instance:FB prog 45:=fbU func45 (by kernel_rfl)
instance:FB prog 46:=fbU func46 (by kernel_rfl)
instance:FB prog 47:=fbU func47 (by kernel_rfl)
instance:FB prog 49:=fbU func49 (by kernel_rfl)
instance:FB prog 50:=fbU func50 (by kernel_rfl)
instance:FB prog 51:=fbU func51 (by kernel_rfl)
instance:FB prog 52:=fbU func52 (by kernel_rfl)
instance:FB prog 53:=fbU func53 (by kernel_rfl)
instance:FB prog 54:=fbU func54 (by kernel_rfl)
instance:FB prog 55:=fbU func55 (by kernel_rfl)
instance:FB prog 56:=fbU func56 (by kernel_rfl)
instance:FB prog 57:=fbU func57 (by kernel_rfl)
instance:FB prog 58:=fbU func58 (by kernel_rfl)
instance:FB prog 59:=fbU func59 (by kernel_rfl)
instance:FB prog 60:=fbU func60 (by kernel_rfl)
instance:FB prog 62:=fbU func62 (by kernel_rfl)
instance:FB prog 63:=fbU func63 (by kernel_rfl)
instance:FB prog 64:=fbU func64 (by kernel_rfl)
instance:FB prog 68:=fbU func68 (by kernel_rfl)
instance:FB prog 69:=fbU func69 (by kernel_rfl)
instance:FB prog 73:=fbU func73 (by kernel_rfl)
instance:FB prog 74:=fbU func74 (by kernel_rfl)
instance:FB prog 75:=fbU func75 (by kernel_rfl)
instance:FB prog 76:=fbU func76 (by kernel_rfl)
instance:FB prog 77:=fbU func77 (by kernel_rfl)
instance:FB prog 78:=fbU func78 (by kernel_rfl)
instance:FB prog 79:=fbU func79 (by kernel_rfl)
instance:FB prog 80:=fbU func80 (by kernel_rfl)
instance:FB prog 81:=fbU func81 (by kernel_rfl)
instance:FB prog 82:=fbU func82 (by kernel_rfl)
instance:FB prog 83:=fbU func83 (by kernel_rfl)
instance:FB prog 84:=fbU func84 (by kernel_rfl)
instance:FB prog 85:=fbU func85 (by kernel_rfl)
instance:FB prog 87:=fbU func87 (by kernel_rfl)
instance:FB prog 88:=fbU func88 (by kernel_rfl)
instance:FB prog 89:=fbU func89 (by kernel_rfl)
instance:FB prog 90:=fbU func90 (by kernel_rfl)
instance:FB prog 92:=fbU func92 (by kernel_rfl)
instance:FB prog 93:=fbU func93 (by kernel_rfl)
instance:FB prog 94:=fbU func94 (by kernel_rfl)
instance:FB prog 95:=fbU func95 (by kernel_rfl)
instance:FB prog 96:=fbU func96 (by kernel_rfl)
instance:FB prog 97:=fbU func97 (by kernel_rfl)
instance:FB prog 98:=fbU func98 (by kernel_rfl)
instance:FB prog 99:=fbU func99 (by kernel_rfl)
instance:FB prog 100:=fbU func100 (by kernel_rfl)
instance:FB prog 101:=fbU func101 (by kernel_rfl)
instance:FB prog 102:=fbU func102 (by kernel_rfl)
instance:FB prog 104:=fbU func104 (by kernel_rfl)
instance:FB prog 110:=fbU func110 (by kernel_rfl)
instance:FB prog 115:=fbU func115 (by kernel_rfl)
instance:FB prog 118:=fbU func118 (by kernel_rfl)
instance:FB prog 119:=fbU func119 (by kernel_rfl)
instance:FB prog 120:=fbU func120 (by kernel_rfl)
instance:FB prog 122:=fbU func122 (by kernel_rfl)
instance:FB prog 127:=fbU func127 (by kernel_rfl)
instance:FB prog 128:=fbU func128 (by kernel_rfl)
instance:FB prog 130:=fbU func130 (by kernel_rfl)
instance:FB prog 131:=fbU func131 (by kernel_rfl)
instance:FB prog 132:=fbU func132 (by kernel_rfl)
instance:FB prog 133:=fbU func133 (by kernel_rfl)
instance:FB prog 134:=fbU func134 (by kernel_rfl)
instance:FB prog 135:=fbU func135 (by kernel_rfl)
instance:FB prog 136:=fbU func136 (by kernel_rfl)
instance:FB prog 137:=fbU func137 (by kernel_rfl)
instance:FB prog 138:=fbU func138 (by kernel_rfl)
instance:FB prog 139:=fbU func139 (by kernel_rfl)
instance:FB prog 140:=fbU func140 (by kernel_rfl)
instance:FB prog 141:=fbU func141 (by kernel_rfl)
instance:FB prog 142:=fbU func142 (by kernel_rfl)
instance:FB prog 143:=fbU func143 (by kernel_rfl)
instance:FB prog 153:=fbU func153 (by kernel_rfl)
instance:FB prog 154:=fbU func154 (by kernel_rfl)
instance:FB prog 155:=fbU func155 (by kernel_rfl)
instance:FB prog 156:=fbU func156 (by kernel_rfl)
instance:FB prog 157:=fbU func157 (by kernel_rfl)
instance:FB prog 158:=fbU func158 (by kernel_rfl)
instance:FB prog 160:=fbU func160 (by kernel_rfl)
instance:FB prog 162:=fbU func162 (by kernel_rfl)
instance:FB prog 163:=fbU func163 (by kernel_rfl)
instance:FB prog 164:=fbU func164 (by kernel_rfl)
instance:FB prog 165:=fbU func165 (by kernel_rfl)
instance:FB prog 166:=fbU func166 (by kernel_rfl)
instance:FB prog 167:=fbU func167 (by kernel_rfl)
instance:FB prog 168:=fbU func168 (by kernel_rfl)
instance:FB prog 169:=fbU func169 (by kernel_rfl)
instance:FB prog 170:=fbU func170 (by kernel_rfl)
instance:FB prog 171:=fbU func171 (by kernel_rfl)
instance:FB prog 173:=fbU func173 (by kernel_rfl)
instance:FB prog 174:=fbU func174 (by kernel_rfl)
instance:FB prog 175:=fbU func175 (by kernel_rfl)
instance:FB prog 176:=fbU func176 (by kernel_rfl)
instance:FB prog 191:=fbU func191 (by kernel_rfl)
instance:FB prog 192:=fbU func192 (by kernel_rfl)
instance:FB prog 199:=fbU func199 (by kernel_rfl)
instance:FB prog 203:=fbU func203 (by kernel_rfl)
instance:FB prog 212:=fbU func212 (by kernel_rfl)
instance:FB prog 213:=fbU func213 (by kernel_rfl)
instance:FB prog 214:=fbU func214 (by kernel_rfl)
instance:FB prog 215:=fbU func215 (by kernel_rfl)
instance:FB prog 216:=fbU func216 (by kernel_rfl)
instance:FB prog 217:=fbU func217 (by kernel_rfl)
instance:FB prog 219:=fbU func219 (by kernel_rfl)
instance:FB prog 220:=fbU func220 (by kernel_rfl)
instance:FB prog 221:=fbU func221 (by kernel_rfl)
instance:FB prog 222:=fbU func222 (by kernel_rfl)
instance:FB prog 236:=fbU func236 (by kernel_rfl)
instance:FB prog 237:=fbU func237 (by kernel_rfl)
instance:FB prog 246:=fbU func246 (by kernel_rfl)
instance:FB prog 247:=fbU func247 (by kernel_rfl)
instance:FB prog 248:=fbU func248 (by kernel_rfl)
instance:TI prog 3 1:=⟨_,_,in3,ts3,by rw [tb3];decide,by rw [tb3];decide,tz3,by decide,by decide⟩
instance:TI prog 4 1:=⟨_,_,in4,ts4,by rw [tb4];decide,by rw [tb4];decide,tz4,by decide,by decide⟩
instance:TI prog 9 1:=⟨_,_,in9,ts9,by rw [tb9];decide,by rw [tb9];decide,tz9,by decide,by decide⟩
instance:TI prog 24 1:=⟨_,_,bKg,bUp,by rw [bQl];decide,by rw [bQl];decide,bQr,by decide,by decide⟩
instance:TI prog 36 1:=⟨_,_,bKh,bUq,by rw [bQm];decide,by rw [bQm];decide,bQs,by decide,by decide⟩
instance:TI prog 40 1:=⟨_,_,bIe,bJa,by rw [bA5];decide,by rw [bA5];decide,bJe,by decide,by decide⟩
instance:TI prog 61 3:=⟨_,_,bEu,bGs,by rw [aSz];decide,by rw [aSz];decide,bGt,by decide,by decide⟩
instance:TI prog 69 1:=⟨_,_,bIf,bJb,by rw [bA6];decide,by rw [bA6];decide,bJf,by decide,by decide⟩
instance:TI prog 94 2:=⟨_,_,bIg,bJc,by rw [bA7];decide,by rw [bA7];decide,bJg,by decide,by decide⟩
instance:TI prog 96 2:=⟨_,_,bIh,bJd,by rw [bA8];decide,by rw [bA8];decide,bJh,by decide,by decide⟩
instance:TI prog 157 1:=⟨_,_,bHc,bQo,by rw [bHk];decide,by rw [bHk];decide,bHm,by decide,by decide⟩
instance:TI prog 170 2:=⟨_,_,bKf,bQp,by rw [bHl];decide,by rw [bHl];decide,bQq,by decide,by decide⟩
instance:MX prog:=⟨mix⟩
attribute [go_sem] zc3 zc4 zc9 bUu bJk bUv bUw bUx bGv bUy aVz bV0 bJl bGw bGx bQu bHp bQv bQw bQx
instance:BD prog 30 (fun i=>[(0,3),(3,1),(4,1)][i]?) [.v (Value.int IntKind.i64 0),.v (Value.int IntKind.i64 0),.v (Value.int IntKind.i64 0),.v (Value.slice none 0 0),.v (Value.slice none 0 0)]:=⟨fun _=>by kernel_rfl⟩
instance:BD prog 61 (fun i=>[(0,1),(1,1),(2,1)][i]?) [.v (Value.int IntKind.i64 0),.v (Value.int IntKind.i64 0),.v (Value.int IntKind.i64 0)]:=⟨fun _=>by kernel_rfl⟩
instance:BD prog 94 (fun i=>[(0,1),(1,1)][i]?) [.v (Value.int IntKind.u64 0),.v (Value.int IntKind.u64 0)]:=⟨fun _=>by kernel_rfl⟩
instance:BD prog 147 (fun i=>[(0,1)][i]?) [.v (Value.pointer none)]:=⟨fun _=>by kernel_rfl⟩
instance:CE prog 24 (ci .u64) 1 0:=⟨_,underlying24,aK9,bGv,inferInstance,(CFi .u64),by decide,by decide⟩
instance:CE prog 56 (ci .i64) 1 0:=⟨_,underlying56,sz3,zc3,inferInstance,(CFi .i64),by decide,by decide⟩
end Go.Proofs.YtkdohhmacfoolaaGreatDoor
set_option linter.unusedVariables false
set_option linter.unusedSimpArgs false
set_option maxRecDepth 20000
set_option maxHeartbeats 4000000
namespace Go.Proofs.YtkdohhmacfoolaaGreatDoor
open Go.Proofs.Tryz Go Go.AM
@[go_sem] theorem bFm(H:aG)(x:AV)(xs:List AV):bP prog H 3 (.ptr (x::xs))=some x:=by kernel_rfl
def tA(rec1:List Int→Int→Option (Int×List Int))(p_0:List Int)(v_1:Int):Option (Int×List Int):=
 ((idx p_0 v_1).bind fun x2=>
 (bif (x2 !=v_1) then
  ((idx p_0 v_1).bind fun x4=>
  ((idx p_0 x4).bind fun x6=>
  ((idx p_0 v_1).bind fun x8=>
  ((stt p_0 v_1 x6).bind fun l10=>
  ((idx l10 v_1).bind fun x12=>
  rec1 l10 x12)))))
 else
  some (v_1,p_0)))
def pP:Nat→List Int→Int→Option (Int×List Int)
 |0=>fun _ _=>none
 |n+1=>tA (pP n)
def aBm(p_0:List Int)(v_1:Int):Option (Int×List Int):=
 pP aZ p_0 v_1
theorem aVk{p_0:List Int}{v_1:Int}{r:Int×List Int}(hm:aBm p_0 v_1=some r){H:aG}{i0:Nat}(he:H.ent i0= .cells 1 (p_0.flatMap (ci .i64)) 0):eC prog 105 [.own i0 0 p_0.length,.v (.int .i64 v_1)] H (.v (.int .i64 r.1)) (H.put i0 (.cells 1 (r.2.flatMap (ci .i64)) 0)):=by
 refine eC.of_bodyM func105 rfl he ?_;generalize H.ent=h0;simp only [ntmps105,List.length_cons,List.length_nil,Nat.reduceAdd,Nat.reduceSub];unfold aBm at hm;refine sN 64 (pA ?_);refine fs (AWp.seq' (AWp.block (AWp.loopM (fun m s=> ∃(p_0:List Int) (v_1:Int),s=(⟨26,(aD (aD (fun _=>AV.any) 0 (.own i0 0 p_0.length)) 1 (.v (.int .i64 v_1))),⟨(upd h0 i0 (.cells 1 (p_0.flatMap (ci .i64)) 0)),64⟩⟩:St)∧pP m p_0 v_1=some r) aZ ?_ ?_ ?_)))
 · rintro s ⟨_,_,_,h⟩;cases h
 · refine ⟨_,?_,p_0,v_1,rfl,hm⟩;exact aFe (eB 1 _ Z1 (eB 0 _ (aFh Z1 Z6) aBg)) (by simp only [aKl];try rfl)
 ·
  rintro n1 s ⟨p_0,v_1,rfl,hm⟩;replace hm:tA (pP n1) p_0 v_1=some r:=hm;unfold tA at hm;refine AWp.seq' (sN 128 ?_)
  iterate 2 refine pA ?_
  obtain ⟨x2,h1,hm⟩:=bnd hm;refine pu rfl (eK underlying56 sz3 Z1 (by simp only [cC,beq_self_eq_true,Nat.reduceBEq,cond_true,cond_false];try rfl) Z6 Z1 h1) ?_;refine pu rfl (rQ (CFi .i64) Z1 (by simp only [cC,beq_self_eq_true,Nat.reduceBEq,cond_true,cond_false];try rfl) h1 (fun _=>by simp only [go_sem,Nat.reduceBEq];try with_reducible rfl)) ?_
  iterate 2 refine pA ?_
  refine fs (AWp.condM hm Z1 (fun _ hm=>?_) (fun _ hm=>?_))
  ·
   refine AWp.skip (bI (AWp.block (sN 192 ?_)))
   iterate 5 refine pA ?_
   obtain ⟨x4,h3,hm⟩:=bnd hm;refine pu rfl (eK underlying56 sz3 Z1 (by simp only [cC,beq_self_eq_true,Nat.reduceBEq,cond_true,cond_false];try rfl) Z6 Z1 h3) ?_;refine pu rfl (rQ (CFi .i64) Z1 (by simp only [cC,beq_self_eq_true,Nat.reduceBEq,cond_true,cond_false];try rfl) h3 (fun _=>by simp only [go_sem,Nat.reduceBEq];try with_reducible rfl)) ?_;obtain ⟨x6,h5,hm⟩:=bnd hm;refine pu rfl (eK underlying56 sz3 Z1 (by simp only [cC,beq_self_eq_true,Nat.reduceBEq,cond_true,cond_false];try rfl) Z6 Z1 h5) ?_;refine pu rfl (rQ (CFi .i64) Z1 (by simp only [cC,beq_self_eq_true,Nat.reduceBEq,cond_true,cond_false];try rfl) h5 (fun _=>by simp only [go_sem,Nat.reduceBEq];try with_reducible rfl)) ?_;obtain ⟨x8,h7,hm⟩:=bnd hm;refine pu rfl (eK underlying56 sz3 Z1 (by simp only [cC,beq_self_eq_true,Nat.reduceBEq,cond_true,cond_false];try rfl) Z6 Z1 h7) ?_;obtain ⟨l10,h9,hm⟩:=bnd hm;have qh9:=kF h9;refine aR.heap0 (id:=138) rfl (aAp (CFi .i64) sz3 Z1 Z1 (by simp only [cC,beq_self_eq_true,Nat.reduceBEq,cond_true,cond_false];try rfl) rfl h9) ?_;refine fs (AWp.reg 64 (N':=256) rfl ?_)
   iterate 2 refine pA ?_
   obtain ⟨x12,h11,hm⟩:=bnd hm;refine pu rfl (eK underlying56 sz3 Z1 (by simp only [cC,beq_self_eq_true,Nat.reduceBEq,cond_true,cond_false];try rfl) Z6 Z1 h11) ?_;refine pu rfl (rQ (CFi .i64) Z1 (by simp only [cC,beq_self_eq_true,Nat.reduceBEq,cond_true,cond_false];try rfl) h11 (fun _=>by simp only [go_sem,Nat.reduceBEq];try with_reducible rfl)) ?_;refine pA ?_;refine aR.fin (fY (eX ?_));refine ⟨_,?_,l10,x12,rfl,hm⟩;exact aFe (eB 1 _ Z1 (eB 0 _ (aFh Z1 Z6) aBg)) (by simp only [aKl];try rfl)
  ·
   refine AWp.exit (gX (fF (fE (bI (sN 192 ?_)))))
   iterate 2 refine pA ?_
   refine fs (AWp.ret ?_);cases hm;exact bLb (.inr rfl) Tryz.results105 Z1 (by simp only [aKl];try rfl)
end Go.Proofs.YtkdohhmacfoolaaGreatDoor
namespace Go.Pl
theorem bDr{n:Int}(h1: -9223372036854775808≤n)(h2:n≤9223372036854775807):IntKind.i64.wrap n=n:=by rw [IntKind.wrap_i64];omega
end Go.Pl
