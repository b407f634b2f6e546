/- Facts. No condition. -/
import Derived.Test.YtkdohhmacfoolaaGreatNqAmT
import Derived.Test.YtkdohhmacfoolaaGreatNqFacts
import Derived.Laws.RangeAny
namespace Go.Proofs.YtkdohhmacfoolaaGreat
open Go.Proofs.Tryz Go Go.AM
theorem Za{p:Prop}(h:p:=by simp only [gS,beq_self_eq_true,Nat.reduceBEq,cond_true,cond_false];try rfl):p:=h
theorem Zb{p:Prop}(h:p:=by intro _;simp only [go_sem,Nat.reduceBEq];try with_reducible rfl):p:=h
theorem Zc{p:Prop}(h:p:=by simp only [aSg];try rfl):p:=h
theorem Ze{p:Prop}(h:p:=by simp only [gS,hne1,hne2,Nat.reduceLeDiff,beq_self_eq_true,Nat.reduceBEq,cond_true,cond_false];try rfl):p:=h
theorem Zf{p:Prop}(h:p:=by simp only [gS,Nat.reduceBEq,cond_true,cond_false];try rfl):p:=h
theorem Zi{p:Prop}(h:p:=by funext q;simp only [upd];all_goals ((repeat' split)<;>first|rfl|omega)):p:=h
theorem Zj{p:Prop}(h:p:=by simp only [go_sem,Nat.reduceBEq,Int.reduceEq,Int.reduceLE];try with_reducible rfl):p:=h
instance:FB prog 6:=fbU func6 (by kernel_rfl)
instance:FB prog 12:=fbU func12 (by kernel_rfl)
instance:FB prog 13:=fbU func13 (by kernel_rfl)
instance:FB prog 14:=fbU func14 (by kernel_rfl)
instance:FB prog 15:=fbU func15 (by kernel_rfl)
instance:FB prog 16:=fbU func16 (by kernel_rfl)
instance:FB prog 17:=fbU func17 (by kernel_rfl)
instance:FB prog 19:=fbU func19 (by kernel_rfl)
instance:FB prog 21:=fbU func21 (by kernel_rfl)
instance:FB prog 24:=fbU func24 (by kernel_rfl)
instance:FB prog 27:=fbU func27 (by kernel_rfl)
instance:FB prog 28:=fbU func28 (by kernel_rfl)
instance:FB prog 29:=fbU func29 (by kernel_rfl)
instance:FB prog 33:=fbU func33 (by kernel_rfl)
instance:FB prog 35:=fbU func35 (by kernel_rfl)
instance:FB prog 36:=fbU func36 (by kernel_rfl)
instance:FB prog 37:=fbU func37 (by kernel_rfl)
instance:FB prog 38:=fbU func38 (by kernel_rfl)
instance:FB prog 39:=fbU func39 (by kernel_rfl)
instance:FB prog 40:=fbU func40 (by kernel_rfl)
instance:FB prog 41:=fbU func41 (by kernel_rfl)
instance:FB prog 42:=fbU func42 (by kernel_rfl)
instance:FB prog 43:=fbU func43 (by kernel_rfl)
instance:FB prog 44:=fbU func44 (by kernel_rfl)
instance:FB prog 49:=fbU func49 (by kernel_rfl)
instance:FB prog 50:=fbU func50 (by kernel_rfl)
instance:FB prog 61:=fbU func61 (by kernel_rfl)
instance:FB prog 64:=fbU func64 (by kernel_rfl)
instance:FB prog 65:=fbU func65 (by kernel_rfl)
instance:FB prog 67:=fbU func67 (by kernel_rfl)
instance:FB prog 68:=fbU func68 (by kernel_rfl)
instance:FB prog 69:=fbU func69 (by kernel_rfl)
instance:FB prog 70:=fbU func70 (by kernel_rfl)
instance:FB prog 71:=fbU func71 (by kernel_rfl)
instance:FB prog 72:=fbU func72 (by kernel_rfl)
instance:FB prog 73:=fbU func73 (by kernel_rfl)
instance:FB prog 74:=fbU func74 (by kernel_rfl)
instance:FB prog 75:=fbU func75 (by kernel_rfl)
instance:FB prog 76:=fbU func76 (by kernel_rfl)
instance:FB prog 77:=fbU func77 (by kernel_rfl)
instance:FB prog 78:=fbU func78 (by kernel_rfl)
instance:FB prog 79:=fbU func79 (by kernel_rfl)
instance:FB prog 80:=fbU func80 (by kernel_rfl)
instance:FB prog 81:=fbU func81 (by kernel_rfl)
instance:FB prog 82:=fbU func82 (by kernel_rfl)
instance:FB prog 83:=fbU func83 (by kernel_rfl)
instance:FB prog 84:=fbU func84 (by kernel_rfl)
instance:FB prog 85:=fbU func85 (by kernel_rfl)
instance:FB prog 86:=fbU func86 (by kernel_rfl)
instance:FB prog 87:=fbU func87 (by kernel_rfl)
instance:FB prog 88:=fbU func88 (by kernel_rfl)
instance:FB prog 89:=fbU func89 (by kernel_rfl)
instance:FB prog 90:=fbU func90 (by kernel_rfl)
instance:FB prog 91:=fbU func91 (by kernel_rfl)
instance:FB prog 96:=fbU func96 (by kernel_rfl)
instance:FB prog 97:=fbU func97 (by kernel_rfl)
instance:FB prog 98:=fbU func98 (by kernel_rfl)
instance:FB prog 99:=fbU func99 (by kernel_rfl)
instance:FB prog 101:=fbU func101 (by kernel_rfl)
instance:FB prog 102:=fbU func102 (by kernel_rfl)
instance:FB prog 103:=fbU func103 (by kernel_rfl)
instance:FB prog 105:=fbU func105 (by kernel_rfl)
instance:FB prog 106:=fbU func106 (by kernel_rfl)
instance:FB prog 107:=fbU func107 (by kernel_rfl)
instance:FB prog 108:=fbU func108 (by kernel_rfl)
instance:FB prog 109:=fbU func109 (by kernel_rfl)
instance:FB prog 111:=fbU func111 (by kernel_rfl)
instance:FB prog 112:=fbU func112 (by kernel_rfl)
instance:FB prog 113:=fbU func113 (by kernel_rfl)
instance:FB prog 115:=fbU func115 (by kernel_rfl)
instance:FB prog 116:=fbU func116 (by kernel_rfl)
instance:FB prog 117:=fbU func117 (by kernel_rfl)
instance:FB prog 118:=fbU func118 (by kernel_rfl)
instance:FB prog 119:=fbU func119 (by kernel_rfl)
instance:FB prog 120:=fbU func120 (by kernel_rfl)
instance:FB prog 121:=fbU func121 (by kernel_rfl)
instance:FB prog 122:=fbU func122 (by kernel_rfl)
instance:FB prog 125:=fbU func125 (by kernel_rfl)
instance:FB prog 126:=fbU func126 (by kernel_rfl)
instance:FB prog 127:=fbU func127 (by kernel_rfl)
instance:FB prog 128:=fbU func128 (by kernel_rfl)
instance:FB prog 129:=fbU func129 (by kernel_rfl)
instance:FB prog 130:=fbU func130 (by kernel_rfl)
instance:FB prog 134:=fbU func134 (by kernel_rfl)
instance:FB prog 135:=fbU func135 (by kernel_rfl)
instance:FB prog 137:=fbU func137 (by kernel_rfl)
instance:FB prog 138:=fbU func138 (by kernel_rfl)
instance:FB prog 139:=fbU func139 (by kernel_rfl)
instance:FB prog 140:=fbU func140 (by kernel_rfl)
instance:FB prog 141:=fbU func141 (by kernel_rfl)
instance:FB prog 142:=fbU func142 (by kernel_rfl)
instance:FB prog 143:=fbU func143 (by kernel_rfl)
instance:FB prog 144:=fbU func144 (by kernel_rfl)
instance:FB prog 148:=fbU func148 (by kernel_rfl)
instance:FB prog 151:=fbU func151 (by kernel_rfl)
instance:FB prog 155:=fbU func155 (by kernel_rfl)
instance:FB prog 159:=fbU func159 (by kernel_rfl)
instance:FB prog 164:=fbU func164 (by kernel_rfl)
instance:FB prog 165:=fbU func165 (by kernel_rfl)
instance:FB prog 166:=fbU func166 (by kernel_rfl)
instance:FB prog 168:=fbU func168 (by kernel_rfl)
instance:FB prog 169:=fbU func169 (by kernel_rfl)
instance:FB prog 170:=fbU func170 (by kernel_rfl)
instance:FB prog 171:=fbU func171 (by kernel_rfl)
instance:FB prog 172:=fbU func172 (by kernel_rfl)
instance:FB prog 173:=fbU func173 (by kernel_rfl)
instance:FB prog 174:=fbU func174 (by kernel_rfl)
instance:FB prog 176:=fbU func176 (by kernel_rfl)
instance:FB prog 183:=fbU func183 (by kernel_rfl)
instance:FB prog 184:=fbU func184 (by kernel_rfl)
instance:FB prog 185:=fbU func185 (by kernel_rfl)
instance:FB prog 186:=fbU func186 (by kernel_rfl)
instance:FB prog 187:=fbU func187 (by kernel_rfl)
instance:FB prog 188:=fbU func188 (by kernel_rfl)
instance:FB prog 189:=fbU func189 (by kernel_rfl)
instance:FB prog 190:=fbU func190 (by kernel_rfl)
instance:FB prog 191:=fbU func191 (by kernel_rfl)
instance:FB prog 192:=fbU func192 (by kernel_rfl)
instance:FB prog 196:=fbU func196 (by kernel_rfl)
instance:FB prog 197:=fbU func197 (by kernel_rfl)
instance:FB prog 198:=fbU func198 (by kernel_rfl)
instance:FB prog 199:=fbU func199 (by kernel_rfl)
instance:FB prog 200:=fbU func200 (by kernel_rfl)
instance:FB prog 201:=fbU func201 (by kernel_rfl)
instance:FB prog 202:=fbU func202 (by kernel_rfl)
instance:FB prog 203:=fbU func203 (by kernel_rfl)
instance:FB prog 204:=fbU func204 (by kernel_rfl)
instance:FB prog 205:=fbU func205 (by kernel_rfl)
instance:FB prog 206:=fbU func206 (by kernel_rfl)
instance:FB prog 207:=fbU func207 (by kernel_rfl)
instance:FB prog 208:=fbU func208 (by kernel_rfl)
instance:FB prog 210:=fbU func210 (by kernel_rfl)
instance:FB prog 211:=fbU func211 (by kernel_rfl)
instance:FB prog 212:=fbU func212 (by kernel_rfl)
instance:FB prog 213:=fbU func213 (by kernel_rfl)
instance:TI prog 3 1:=⟨_,_,in3,ts3,by rw [tb3];decide,by rw [tb3];decide,tz3,by decide,by decide⟩
instance:TI prog 4 1:=⟨_,_,in4,ts4,by rw [tb4];decide,by rw [tb4];decide,tz4,by decide,by decide⟩
instance:TI prog 9 1:=⟨_,_,in9,ts9,by rw [tb9];decide,by rw [tb9];decide,tz9,by decide,by decide⟩
instance:TI prog 24 1:=⟨_,_,bR9,cI7,by rw [cE7];decide,by rw [cE7];decide,bTn,by decide,by decide⟩
instance:TI prog 36 1:=⟨_,_,bAw,cI8,by rw [cE8];decide,by rw [cE8];decide,cEd,by decide,by decide⟩
instance:TI prog 43 1:=⟨_,_,bVh,bWk,by rw [bM4];decide,by rw [bM4];decide,bWl,by decide,by decide⟩
instance:TI prog 69 2:=⟨_,_,cEw,cI9,by rw [cE9];decide,by rw [cE9];decide,cIa,by decide,by decide⟩
instance:TI prog 102 3:=⟨_,_,bAv,bCo,by rw [aM2];decide,by rw [aM2];decide,bCp,by decide,by decide⟩
instance:TI prog 104 2:=⟨_,_,bHp,bIk,by rw [aRb];decide,by rw [aRb];decide,bIm,by decide,by decide⟩
instance:TI prog 120 2:=⟨_,_,bHq,bIl,by rw [aRc];decide,by rw [aRc];decide,bIn,by decide,by decide⟩
instance:TI prog 151 2:=⟨_,_,bYa,cEb,by rw [bUl];decide,by rw [bUl];decide,cEc,by decide,by decide⟩
instance:MX prog:=⟨mix⟩
attribute [go_sem] zc3 zc4 zc5 cEl bWr cIc bWs cId bM8 cIe cIf cIg aOz bCw bCx bUq cEi cEj cEm
instance:BD prog 30 (fun i=>[(0,3),(3,1),(4,1)][i]?) [.v (Value.int IntKind.i64 0),.v (Value.int IntKind.i64 0),.v (Value.int IntKind.i64 0),.v (Value.slice none 0 0),.v (Value.slice none 0 0)]:=⟨fun _=>by kernel_rfl⟩
instance:BD prog 56 (fun i=>[(0,5),(5,1)][i]?) [.v (Value.int IntKind.i64 0),.v (Value.int IntKind.i64 0),.v (Value.int IntKind.i64 0),.v (Value.slice none 0 0),.v (Value.slice none 0 0),.v (Value.slice none 0 0)]:=⟨fun _=>by kernel_rfl⟩
instance:BD prog 102 (fun i=>[(0,1),(1,1),(2,1)][i]?) [.v (Value.int IntKind.i64 0),.v (Value.int IntKind.i64 0),.v (Value.int IntKind.i64 0)]:=⟨fun _=>by kernel_rfl⟩
instance:BD prog 120 (fun i=>[(0,1),(1,1)][i]?) [.v (Value.int IntKind.u64 0),.v (Value.int IntKind.u64 0)]:=⟨fun _=>by kernel_rfl⟩
instance:BD prog 130 (fun i=>[(0,1)][i]?) [.v (Value.pointer none)]:=⟨fun _=>by kernel_rfl⟩
instance:CE prog 24 (ci .u64) 1 0:=⟨_,underlying24,fF,bM8,inferInstance,(CFi .u64),by decide,by decide⟩
instance:CE prog 112 (ci .i64) 1 0:=⟨_,underlying112,sz3,zc3,inferInstance,(CFi .i64),by decide,by decide⟩
end Go.Proofs.YtkdohhmacfoolaaGreat
set_option linter.unusedVariables false
set_option linter.unusedSimpArgs false
set_option maxRecDepth 20000
set_option maxHeartbeats 4000000
namespace Go.Proofs.YtkdohhmacfoolaaGreat
open Go.Proofs.Tryz Go Go.AM
@[go_sem] theorem bSe(H:aM)(x:AV)(xs:List AV):cZ prog H 3 (.ptr (x::xs))=some x:=by kernel_rfl
def aD8(rec1:List Int→Int→Option (Int×List Int))(p_0:List Int)(v_1:Int):Option (Int×List Int):=
 ((idx p_0 v_1).bind fun x2=>
 (bif (x2 !=v_1) then
  ((idx p_0 v_1).bind fun x4=>
  ((idx p_0 x4).bind fun x6=>
  ((idx p_0 v_1).bind fun x8=>
  ((stt p_0 v_1 x6).bind fun l10=>
  ((idx l10 v_1).bind fun x12=>
  rec1 l10 x12)))))
 else
  some (v_1,p_0)))
def aAk:Nat→List Int→Int→Option (Int×List Int)
 |0=>fun _ _=>none
 |n+1=>aD8 (aAk n)
def aIl(p_0:List Int)(v_1:Int):Option (Int×List Int):=
 aAk aZ p_0 v_1
theorem bG8{p_0:List Int}{v_1:Int}{r:Int×List Int}(hm:aIl p_0 v_1=some r){H:aM}{i0:Nat}(he:H.ent i0= .cells 1 (p_0.flatMap (ci .i64)) 0):dR prog 132 [.own i0 0 p_0.length,.v (.int .i64 v_1)] H (.v (.int .i64 r.1)) (H.put i0 (.cells 1 (r.2.flatMap (ci .i64)) 0)):=by
 refine dR.of_bodyM func132 rfl he ?_;generalize H.ent=h0;simp only [ntmps132,List.length_cons,List.length_nil,Nat.reduceAdd,Nat.reduceSub];unfold aIl at hm;refine sN 64 (pA ?_);refine fs (AWp.seq' (AWp.block (AWp.loopM (fun m s=> ∃(p_0:List Int) (v_1:Int),s=(⟨26,(aG (aG (fun _=>AV.any) 0 (.own i0 0 p_0.length)) 1 (.v (.int .i64 v_1))),⟨(upd h0 i0 (.cells 1 (p_0.flatMap (ci .i64)) 0)),64⟩⟩:St)∧aAk m p_0 v_1=some r) aZ ?_ ?_ ?_)))
 · rintro s ⟨_,_,_,h⟩;cases h
 · refine ⟨_,?_,p_0,v_1,rfl,hm⟩;exact bN (aD 1 _ Z1 (aD 0 _ (bO Z1 Z6) bF)) (by simp only [aSg];try rfl)
 ·
  rintro n1 s ⟨p_0,v_1,rfl,hm⟩;replace hm:aD8 (aAk n1) p_0 v_1=some r:=hm;unfold aD8 at hm;refine AWp.seq' (sN 128 ?_)
  iterate 2 refine pA ?_
  obtain ⟨x2,h1,hm⟩:=bnd hm;refine pu rfl (aN underlying112 sz3 Z1 (by simp only [gS,beq_self_eq_true,Nat.reduceBEq,cond_true,cond_false];try rfl) Z6 Z1 h1) ?_;refine pu rfl (bM (CFi .i64) Z1 (by simp only [gS,beq_self_eq_true,Nat.reduceBEq,cond_true,cond_false];try rfl) h1 (fun _=>by simp only [go_sem,Nat.reduceBEq];try with_reducible rfl)) ?_
  iterate 2 refine pA ?_
  refine fs (AWp.condM hm Z1 (fun _ hm=>?_) (fun _ hm=>?_))
  ·
   refine AWp.skip (aV (AWp.block (sN 192 ?_)))
   iterate 5 refine pA ?_
   obtain ⟨x4,h3,hm⟩:=bnd hm;refine pu rfl (aN underlying112 sz3 Z1 (by simp only [gS,beq_self_eq_true,Nat.reduceBEq,cond_true,cond_false];try rfl) Z6 Z1 h3) ?_;refine pu rfl (bM (CFi .i64) Z1 (by simp only [gS,beq_self_eq_true,Nat.reduceBEq,cond_true,cond_false];try rfl) h3 (fun _=>by simp only [go_sem,Nat.reduceBEq];try with_reducible rfl)) ?_;obtain ⟨x6,h5,hm⟩:=bnd hm;refine pu rfl (aN underlying112 sz3 Z1 (by simp only [gS,beq_self_eq_true,Nat.reduceBEq,cond_true,cond_false];try rfl) Z6 Z1 h5) ?_;refine pu rfl (bM (CFi .i64) Z1 (by simp only [gS,beq_self_eq_true,Nat.reduceBEq,cond_true,cond_false];try rfl) h5 (fun _=>by simp only [go_sem,Nat.reduceBEq];try with_reducible rfl)) ?_;obtain ⟨x8,h7,hm⟩:=bnd hm;refine pu rfl (aN underlying112 sz3 Z1 (by simp only [gS,beq_self_eq_true,Nat.reduceBEq,cond_true,cond_false];try rfl) Z6 Z1 h7) ?_;obtain ⟨l10,h9,hm⟩:=bnd hm;have qh9:=cY h9;refine aI.heap0 (id:=138) rfl (eR (CFi .i64) sz3 Z1 Z1 (by simp only [gS,beq_self_eq_true,Nat.reduceBEq,cond_true,cond_false];try rfl) rfl h9) ?_;refine fs (AWp.reg 64 (N':=256) rfl ?_)
   iterate 2 refine pA ?_
   obtain ⟨x12,h11,hm⟩:=bnd hm;refine pu rfl (aN underlying112 sz3 Z1 (by simp only [gS,beq_self_eq_true,Nat.reduceBEq,cond_true,cond_false];try rfl) Z6 Z1 h11) ?_;refine pu rfl (bM (CFi .i64) Z1 (by simp only [gS,beq_self_eq_true,Nat.reduceBEq,cond_true,cond_false];try rfl) h11 (fun _=>by simp only [go_sem,Nat.reduceBEq];try with_reducible rfl)) ?_;refine pA ?_;refine aI.fin (eT (cO ?_));refine ⟨_,?_,l10,x12,rfl,hm⟩;exact bN (aD 1 _ Z1 (aD 0 _ (bO Z1 Z6) bF)) (by simp only [aSg];try rfl)
  ·
   refine AWp.exit (dJ (dA (cW (aV (sN 192 ?_)))))
   iterate 2 refine pA ?_
   refine fs (AWp.ret ?_);cases hm;exact aGc (.inr rfl) Tryz.results132 Z1 (by simp only [aSg];try rfl)
end Go.Proofs.YtkdohhmacfoolaaGreat
namespace Go.Pl
theorem bQ2{n:Int}(h1: -9223372036854775808≤n)(h2:n≤9223372036854775807):IntKind.i64.wrap n=n:=by rw [IntKind.wrap_i64];omega
theorem bWq{n:Int}(h1:0≤n)(h2:n≤18446744073709551615):IntKind.u64.wrap n=n:=by rw [IntKind.wrap_u64];omega
end Go.Pl
