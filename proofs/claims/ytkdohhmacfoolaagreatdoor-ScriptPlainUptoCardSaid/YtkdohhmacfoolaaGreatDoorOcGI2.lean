/- Facts. No condition. -/
import Derived.Test.YtkdohhmacfoolaaGreatDoorOcGI1
set_option linter.unusedVariables false
set_option linter.unusedSimpArgs false
set_option maxRecDepth 20000
set_option maxHeartbeats 4000000
namespace Go.Proofs.YtkdohhmacfoolaaGreatDoor
open Go.Proofs.Tryz Go Go.AM
attribute [local irreducible] bF
structure eF where
 Do:Int
 A:Int
 B:Int
 Text:ByteArray
deriving DecidableEq
def sA(e:eF):List AV:=[.v (.int .i64 e.Do),.v (.int .u64 e.A),.v (.int .u64 e.B),.v (.string e.Text)]
theorem aL3:CF sA 4:=⟨fun _=>rfl,fun a x hx=>by
 simp only [sA,List.mem_cons,List.not_mem_nil,or_false] at hx;rcases hx with rfl|rfl|rfl|rfl
 · exact (.v _)
 · exact (.v _)
 · exact (.v _)
 · exact (.v _),fun _=>rfl⟩
instance:CC sA 4:=⟨aL3⟩
abbrev nV(e:eF):AV:= .agg [.v (.int .i64 e.Do),vu e.A,vu e.B,.v (.string e.Text)]
@[go_sem] theorem aGb(e:eF)(r:List AV):sA e++r= .v (.int .i64 e.Do):: .v (.int .u64 e.A):: .v (.int .u64 e.B):: .v (.string e.Text)::r:=rfl
structure aJ where
 List:List Int
 At:Int
deriving DecidableEq
def zZ(e:aJ):List AV:=[.sl (e.List.flatMap (ci .u64)) e.List.length false,.v (.int .i64 e.At)]
theorem aQv:CF zZ 2:=⟨fun _=>rfl,fun a x hx=>by
 simp only [zZ,List.mem_cons,List.not_mem_nil,or_false] at hx;rcases hx with rfl|rfl
 · exact ((CFi .u64).sl _ _ _)
 · exact (.v _),fun _=>rfl⟩
instance:CC zZ 2:=⟨aQv⟩
abbrev jI(e:aJ):AV:= .agg [vl (ci .u64) e.List,vi e.At]
@[go_sem] theorem aL8(e:aJ)(r:List AV):zZ e++r= .sl (e.List.flatMap (ci .u64)) e.List.length false:: .v (.int .i64 e.At)::r:=rfl
structure aE where
 State:aD
 Words:aJ
 On:Bool
deriving DecidableEq
def qT(e:aE):List AV:=[.v (.int .i64 e.State.Graph.Config.N),.v (.int .i64 e.State.Graph.Config.L),.v (.int .i64 e.State.Graph.Config.R),.sl (e.State.Graph.Hashes.flatMap bS) e.State.Graph.Hashes.length false,.sl (e.State.Graph.Edges.flatMap aU) e.State.Graph.Edges.length false,.sl (e.State.Slots.flatMap aX) e.State.Slots.length false,.sl (e.Words.List.flatMap (ci .u64)) e.Words.List.length false,.v (.int .i64 e.Words.At),.v (.bool e.On)]
theorem aJ3:CF qT 9:=⟨fun _=>rfl,fun a x hx=>by
 simp only [qT,List.mem_cons,List.not_mem_nil,or_false] at hx;rcases hx with rfl|rfl|rfl|rfl|rfl|rfl|rfl|rfl|rfl
 · exact (.v _)
 · exact (.v _)
 · exact (.v _)
 · exact (mL.sl _ _ _)
 · exact (bT.sl _ _ _)
 · exact (dM.sl _ _ _)
 · exact ((CFi .u64).sl _ _ _)
 · exact (.v _)
 · exact (.v _),fun _=>rfl⟩
instance:CC qT 9:=⟨aJ3⟩
abbrev jU(e:aE):AV:= .agg [.v (.int .i64 e.State.Graph.Config.N),vi e.State.Graph.Config.L,vi e.State.Graph.Config.R,vl bS e.State.Graph.Hashes,vl aU e.State.Graph.Edges,vl aX e.State.Slots,vl (ci .u64) e.Words.List,vi e.Words.At,vb e.On]
@[go_sem] theorem aFl(e:aE)(r:List AV):qT e++r= .v (.int .i64 e.State.Graph.Config.N):: .v (.int .i64 e.State.Graph.Config.L):: .v (.int .i64 e.State.Graph.Config.R):: .sl (e.State.Graph.Hashes.flatMap bS) e.State.Graph.Hashes.length false:: .sl (e.State.Graph.Edges.flatMap aU) e.State.Graph.Edges.length false:: .sl (e.State.Slots.flatMap aX) e.State.Slots.length false:: .sl (e.Words.List.flatMap (ci .u64)) e.Words.List.length false:: .v (.int .i64 e.Words.At):: .v (.bool e.On)::r:=rfl
@[go_sem] theorem bB3(x0:AV)(xs:List AV):aN prog 96 (.ptr (x0::xs)) 1=some (.ptr xs):=by kernel_rfl
@[go_sem] theorem bBa(i o:Nat):aN prog 23 (.adr i o) 0=some (.adr i (o+0)):=by kernel_rfl
@[go_sem] theorem bBe(i o:Nat):aN prog 23 (.adr i o) 1=some (.adr i (o+1)):=by kernel_rfl
@[go_sem] theorem bBi(i o:Nat):aN prog 23 (.adr i o) 2=some (.adr i (o+2)):=by kernel_rfl
@[go_sem] theorem bBn(i o:Nat):aN prog 30 (.adr i o) 0=some (.adr i (o+0)):=by kernel_rfl
@[go_sem] theorem bBu(i o:Nat):aN prog 30 (.adr i o) 2=some (.adr i (o+4)):=by kernel_rfl
@[go_sem] theorem bBw(i o:Nat):aN prog 33 (.adr i o) 0=some (.adr i (o+0)):=by kernel_rfl
@[go_sem] theorem bBy(i o:Nat):aN prog 33 (.adr i o) 1=some (.adr i (o+5)):=by kernel_rfl
@[go_sem] theorem bBz(i o:Nat):aN prog 35 (.adr i o) 0=some (.adr i (o+0)):=by kernel_rfl
@[go_sem] theorem bC0(i o:Nat):aN prog 35 (.adr i o) 1=some (.adr i (o+1)):=by kernel_rfl
@[go_sem] theorem bC1(i o:Nat):aN prog 42 (.adr i o) 0=some (.adr i (o+0)):=by kernel_rfl
@[go_sem] theorem bC2(i o:Nat):aN prog 42 (.adr i o) 1=some (.adr i (o+1)):=by kernel_rfl
@[go_sem] theorem bC3(i o:Nat):aN prog 42 (.adr i o) 2=some (.adr i (o+2)):=by kernel_rfl
@[go_sem] theorem bC4(i o:Nat):aN prog 42 (.adr i o) 3=some (.adr i (o+3)):=by kernel_rfl
@[go_sem] theorem bC9(i o:Nat):aN prog 61 (.adr i o) 0=some (.adr i (o+0)):=by kernel_rfl
@[go_sem] theorem bCf(i o:Nat):aN prog 61 (.adr i o) 1=some (.adr i (o+1)):=by kernel_rfl
@[go_sem] theorem bCk(i o:Nat):aN prog 68 (.adr i o) 0=some (.adr i (o+0)):=by kernel_rfl
@[go_sem] theorem bCl(i o:Nat):aN prog 68 (.adr i o) 1=some (.adr i (o+6)):=by kernel_rfl
@[go_sem] theorem bCm(i o:Nat):aN prog 68 (.adr i o) 2=some (.adr i (o+8)):=by kernel_rfl
@[go_sem] theorem bCs(i o:Nat):aN prog 96 (.adr i o) 0=some (.adr i (o+0)):=by kernel_rfl
@[go_sem] theorem bG0(H:aG)(x0:AV)(xs:List AV):cE prog H 147 (.ptr (x0::xs))=some (.agg [x0]):=by kernel_rfl
@[go_sem] theorem bJ4(H:aG)(x0 x1 x2:AV)(xs:List AV):cE prog H 23 (.ptr (x0::x1::x2::xs))=some (.agg [x0,x1,x2]):=by kernel_rfl
@[go_sem] theorem bJ6(H:aG)(x:AV)(xs:List AV):cE prog H 24 (.ptr (x::xs))=some x:=by kernel_rfl
@[go_sem] theorem bJd(H:aG)(x:AV)(xs:List AV):cE prog H 28 (.ptr (x::xs))=some x:=by kernel_rfl
@[go_sem] theorem bN4(H:aG)(x:AV)(xs:List AV):cE prog H 3 (.ptr (x::xs))=some x:=by kernel_rfl
@[go_sem] theorem bJi(H:aG)(x0 x1 x2 x3 x4:AV)(xs:List AV):cE prog H 30 (.ptr (x0::x1::x2::x3::x4::xs))=some (.agg [x0,x1,x2,x3,x4]):=by kernel_rfl
@[go_sem] theorem bJk(H:aG)(x:AV)(xs:List AV):cE prog H 31 (.ptr (x::xs))=some x:=by kernel_rfl
@[go_sem] theorem bJm(H:aG)(x0 x1 x2 x3 x4 x5:AV)(xs:List AV):cE prog H 33 (.ptr (x0::x1::x2::x3::x4::x5::xs))=some (.agg [x0,x1,x2,x3,x4,x5]):=by kernel_rfl
@[go_sem] theorem bJn(H:aG)(x0 x1:AV)(xs:List AV):cE prog H 35 (.ptr (x0::x1::xs))=some (.agg [x0,x1]):=by kernel_rfl
@[go_sem] theorem bN8(H:aG)(x:AV)(xs:List AV):cE prog H 4 (.ptr (x::xs))=some x:=by kernel_rfl
@[go_sem] theorem bJs(H:aG)(x:AV)(xs:List AV):cE prog H 40 (.ptr (x::xs))=some x:=by kernel_rfl
@[go_sem] theorem bJu(H:aG)(x0 x1 x2 x3:AV)(xs:List AV):cE prog H 42 (.ptr (x0::x1::x2::x3::xs))=some (.agg [x0,x1,x2,x3]):=by kernel_rfl
@[go_sem] theorem bJz(H:aG)(x0 x1 x2:AV)(xs:List AV):cE prog H 61 (.ptr (x0::x1::x2::xs))=some (.agg [x0,x1,x2]):=by kernel_rfl
@[go_sem] theorem bK0(H:aG)(x0 x1 x2 x3 x4 x5 x6 x7 x8:AV)(xs:List AV):cE prog H 68 (.ptr (x0::x1::x2::x3::x4::x5::x6::x7::x8::xs))=some (.agg [x0,x1,x2,x3,x4,x5,x6,x7,x8]):=by kernel_rfl
@[go_sem] theorem bNa(H:aG)(x:AV)(xs:List AV):cE prog H 9 (.ptr (x::xs))=some x:=by kernel_rfl
@[go_sem] theorem bK4(H:aG)(x0 x1:AV)(xs:List AV):cE prog H 96 (.ptr (x0::x1::xs))=some (.agg [x0,x1]):=by kernel_rfl
@[go_sem] theorem aWw(H:aG)(k:IntKind)(n:Int):mV prog H 21 40 (.v (.int k n))=some (.v (.int .u64 (IntKind.u64.wrap n))):=iA underlying21 underlying40
@[go_sem] theorem bAs(H:aG)(k:IntKind)(n:Int):mV prog H 40 3 (.v (.int k n))=some (.v (.int .i64 (IntKind.i64.wrap n))):=iA underlying40 underlying3
def aMu(rec1:aD→List aI→List aC→Int→Int→Option ((List aI)))(s_1:aD)(aA9:List aI)(t19:List aC)(t20:Int)(t21:Int):Option ((List aI)):=
 (bif (decide (t21<t20)) then
  ((idx t19 t21).bind fun x4=>
  ((idx s_1.Slots x4.U).bind fun x6=>
  ((idx s_1.Slots x4.V).bind fun x8=>
  ((app aA9 [(aI.mk (if x8.Key<x6.Key then x8.Key else x6.Key) (if x6.Key<x8.Key then x8.Key else x6.Key))]).bind fun l10=>
  rec1 s_1 l10 t19 t20 (IntKind.i64.wrap (t21+1))))))
 else
  ((aI3 (fun x=>x.length) aA9.length (lL aA9 (fun x0 x1=>vQ x0 x1))).bind fun l12=>
  some l12))
def yU:Nat→aD→List aI→List aC→Int→Int→Option ((List aI))
 |0=>fun _ _ _ _ _=>none
 |n+1=>aMu (yU n)
def aAr(s_0:aD):Option ((List aI)):=
 ((iN s_0.Graph.Config.N s_0.Graph.Edges s_0.Graph.Config.L).bind fun r2=>
 yU bF s_0 [] r2 (r2.length:Int) 0)
theorem aOt{s_0:aD}{r:(List aI)}(hm:aAr s_0=some r):bN prog 86 [.agg [vi s_0.Graph.Config.N,vi s_0.Graph.Config.L,vi s_0.Graph.Config.R,vl bS s_0.Graph.Hashes,vl aU s_0.Graph.Edges,vl aX s_0.Slots]] (vl eW r):=by
 refine bd 53 func86 ?_;obtain ⟨r2,h1,hm⟩:=bnd hm;refine W ?_;refine cq (aG1 h1) ?_;refine W ?_;refine lp (fun m s=> ∃s_1 aA9 t19 t20 t21,s=⟨53,(aF (aF (aF (aF (aF fa 1 (.adr 1 0)) 4 (.own 2 0 aA9.length)) 19 (vl aU t19)) 20 (vi t20)) 21 (vi t21)),⟨(upd (upd bD 1 (.cells 1 [vi s_1.Graph.Config.N,vi s_1.Graph.Config.L,vi s_1.Graph.Config.R,vl bS s_1.Graph.Hashes,vl aU s_1.Graph.Edges,vl aX s_1.Slots] 0)) 2 (.cells 2 (aA9.flatMap eW) 0)),64⟩⟩∧yU m s_1 aA9 t19 t20 t21=some r) ?_ ?_
 · refine ⟨_,?_,s_0,[],r2,(r2.length:Int),0,rfl,hm⟩;refine St.Le.trans (sL 4 900004 2 Z1 Z5) ?_;exact cn (fun j=>bif j==1 then 0 else bif j==2 then 900004 else 0)
 rintro n1 s ⟨s_1,aA9,t19,t20,t21,rfl,hm⟩;refine W ?_;refine cm hm (fun hm=>?_) fun hm=>?_
 · obtain ⟨x4,h3,hm⟩:=bnd hm;obtain ⟨x6,h5,hm⟩:=bnd hm;obtain ⟨x8,h7,hm⟩:=bnd hm;refine W ?_;refine bU (.agg [.v (.int .u64 (if x8.Key<x6.Key then x8.Key else x6.Key)),.v (.int .u64 (if x6.Key<x8.Key then x8.Key else x6.Key))]) ?_;refine aL iW [(aI.mk (if x8.Key<x6.Key then x8.Key else x6.Key) (if x6.Key<x8.Key then x8.Key else x6.Key))] ?_;obtain ⟨l10,h9,hm⟩:=bnd hm;refine W ?_;exact Lr (fun j=>bif j==1 then 1 else bif j==2 then 265 else 0)
 obtain ⟨l12,h11,hm⟩:=bnd hm;refine W ?_;have qh11:=aJj h11;refine aV.callM Zd Z1 bOx Z1 (aCy (aGj h11) aDw bOy (fun h=>aDc h) Z3) ?_;exact E
instance:Ct prog 86 (K1 prog dI (vl eW) 86 aAr):=⟨fun hm=>aOt hm⟩
def gP(s_0:aD)(tJ:Int)(u_2:Int)(v_3:Int):Option (GA):=
 ((lC s_0.Graph).bind fun r2=>
 (bif (tJ==5) then
  ((lI s_0.Graph.Edges u_2 v_3).bind fun ⟨r4,r5⟩=>
  some (GA.b 4 r5))
 else
  (bif (tJ==6) then
   ((pY s_0 u_2).bind fun r7=>
   some (GA.i 3 .i64 r7))
  else
   (bif (tJ==7) then
    ((rN s_0 u_2).bind fun r9=>
    ((kZ s_0 r9).bind fun r11=>
    some (GA.lu 24 r11)))
   else
    (bif (tJ==8) then
     ((idx r2 u_2).bind fun x13=>
     ((idx r2 v_3).bind fun x15=>
     some (GA.b 4 (x13==x15))))
    else
     (bif (tJ==9) then
      ((nG r2 u_2).bind fun r17=>
      ((kZ s_0 r17).bind fun r19=>
      some (GA.i 3 .i64 (r19.length:Int))))
     else
      (bif (tJ==10) then
       ((sK s_0 r2).bind fun r21=>
       some (GA.i 3 .i64 r21))
      else
       (bif (tJ==11) then
        ((nG r2 u_2).bind fun r23=>
        ((kZ s_0 r23).bind fun r25=>
        some (GA.lu 24 r25)))
       else
        (bif (tJ==12) then
         ((aAr s_0).bind fun r27=>
         some (GA.lp 157 r27))
        else
         (bif (tJ==13) then
          ((rY s_0.Graph).bind fun r29=>
          some (GA.b 4 r29))
         else
          none))))))))))
theorem aOq:K4 prog dI vi vi vi GA.av 40 gP:=fun hm=>be 98 func40 (h:=G)
instance:Ct prog 40 (K4 prog dI vi vi vi GA.av 40 gP):=⟨aOq⟩
def lK(f_1:(aM→Option (Bool)))(rec1:List aM→Int→Int→Option (Int))(s_0:List aM)(t7:Int)(t8:Int):Option (Int):=
 (bif (decide (t8<t7)) then
  ((idx s_0 t8).bind fun x2=>
  ((f_1 x2).bind fun r4=>
  (bif r4 then
   some t8
  else
   rec1 s_0 t7 (IntKind.i64.wrap (t8+1)))))
 else
  some (-1))
def eX(f_1:(aM→Option (Bool))):Nat→List aM→Int→Int→Option (Int)
 |0=>fun _ _ _=>none
 |n+1=>lK f_1 (eX f_1 n)
def mJ(s_0:List aM)(f_1:(aM→Option (Bool))):Option (Int):=
 eX f_1 bF s_0 (s_0.length:Int) 0
theorem aDi{s_0:List aM}{f_1:(aM→Option (Bool))}{r:Int}(hm:mJ s_0 f_1=some r){aHv:FuncId}{wJ:List AV}(aMq: ∀a,a∈wJ→AM.Data a)(aXq:(Program.funcs prog)[aHv]?.any (fun fn=>fn.body.isSome&&fn.name != "runtime.NumGoroutine")=true)(aXt: ∀ {x0 r},f_1 x0=some r→bN prog aHv ([.agg [vb x0.Used,vu x0.Key]]++wJ) (vb r)):bN prog 127 [vl aX s_0,.clo (.func aHv) [] wJ] (vi r):=by
 refine bd 19 func127 ?_;refine W ?_;refine lp (fun m s=> ∃s_0 t7 t8,s=⟨19,(aF (aF (aF (aF fa 0 (vl aX s_0)) 1 (.clo (.func aHv) [] wJ)) 7 (vi t7)) 8 (vi t8)),⟨bD,64⟩⟩∧eX f_1 m s_0 t7 t8=some r) L ?_;rintro n1 s ⟨s_0,t7,t8,rfl,hm⟩;refine W ?_;refine cm hm (fun hm=>?_) fun hm=>?_
 ·
  obtain ⟨x2,h1,hm⟩:=bnd hm;obtain ⟨r4,h3,hm⟩:=bnd hm;refine W ?_;refine aV.callQC (r:= .v (.bool r4)) Zd Z1 aMq aXq (fun H=>(cD (.agg _ (dM.dat _)) .nil)) (aXt h3) ?_;refine W ?_;refine cm hm (fun hm=>?_) fun hm=>?_
  · exact E
  exact L
 exact E
def jG(bNu:aM):Option (Bool):=
 some (!bNu.Used)
theorem aIz:K1 prog aL2 vb 128 jG:=fun hm=>be 6 func128 (h:=G)
instance:Ct prog 128 (K1 prog aL2 vb 128 jG):=⟨aIz⟩
def gV(l:List aM):Option (List aM):=app [] l
theorem aGy{r:List aM}(hm:some []=some r):dQ prog 129 [.v (.slice none 0 0)] 2 (r.flatMap aX) r.length:=by
 refine dQ.of_body func129 rfl (dM.fmdat r) ?_;simp only [ntmps129,List.length_cons,List.length_nil,Nat.reduceAdd,Nat.reduceSub,fH];refine sN 64 (pA ?_);refine fs (AWp.seq' (sN 128 (pA ?_)));refine pu rfl (vL Z1 Z1 (aH8 underlying31)) ?_;refine fs (AWp.condT Z1 ?_);refine sN 192 (pA ?_);refine fs (AWp.weaken (sL 2 900002 2 Z1 Z5) ?_);refine AWp.ret (iD ?_);cases hm;exact aIg (.inr rfl) Tryz.results129 Z1 Z3 Z6
theorem aGz{a:Addr}{c:Nat}{r:List aM}(hm:((app [] []).bind fun l2=>
some l2)=some r):dQ prog 129 [.v (.slice (some a) 0 c)] 2 (r.flatMap aX) r.length:=by
 refine dQ.of_body func129 rfl (dM.fmdat r) ?_;simp only [ntmps129,List.length_cons,List.length_nil,Nat.reduceAdd,Nat.reduceSub,fH];refine sN 64 (pA ?_);refine fs (AWp.seq' (sN 128 (pA ?_)));refine pu rfl (vL Z1 Z1 (aF4 underlying31)) ?_;refine fs (AWp.condF Z1 ?_);refine AWp.skip (bM (sN 192 (hp (id:=128) rfl rfl (jF dM (l:=[]) underlying31 bKv bL6 Z5 Zd Zd Zd (by simp only [go_sem,Nat.reduceBEq];try rfl) (by kernel_rfl)) ?_)));refine pA ?_;obtain ⟨l2,h1,hm⟩:=bnd hm;refine hp (id:=130) rfl rfl (yA dM underlying31 underlying31 rfl bMz bO3 (by rw [bDm];decide) (by rw [bDm];decide) bO7 Zd Zd Z1 Z3 Z6 (aLq Z1) rfl Z5 h1) ?_;refine pA ?_;refine fs (AWp.ret ?_);cases hm;exact aIg (.inr rfl) Tryz.results129 Z1 Z3 Z6
theorem aH0{x0:aM}{l0:List aM}{r:List aM}(hm:((app [] (x0::l0)).bind fun l2=>
some l2)=some r):dQ prog 129 [.sl ((x0::l0).flatMap aX) (x0::l0).length false] 2 (r.flatMap aX) r.length:=by
 refine dQ.of_body func129 rfl (dM.fmdat r) ?_;simp only [ntmps129,List.length_cons,List.length_nil,Nat.reduceAdd,Nat.reduceSub,fH];refine sN 64 (pA ?_);refine fs (AWp.seq' (sN 128 (pA ?_)));refine pu rfl (vL Z1 Z1 (aF3 underlying31 (by simp))) ?_;refine fs (AWp.condF Z1 ?_);refine AWp.skip (bM (sN 192 (hp (id:=128) rfl rfl (jF dM (l:=[]) underlying31 bKv bL6 Z5 Zd Zd Zd (by simp only [go_sem,Nat.reduceBEq];try rfl) (by kernel_rfl)) ?_)));refine pA ?_;obtain ⟨l2,h1,hm⟩:=bnd hm;refine hp (id:=130) rfl rfl (yA dM underlying31 underlying31 rfl bMz bO3 (by rw [bDm];decide) (by rw [bDm];decide) bO7 Zd Zd Z1 Z3 Z6 (aPk dM Z1 rfl) rfl Z5 h1) ?_;refine pA ?_;refine fs (AWp.ret ?_);cases hm;exact aIg (.inr rfl) Tryz.results129 Z1 Z3 Z6
theorem aAh{l r:List aM}(hm:gV l=some r):dQ prog 129 [.sl (l.flatMap aX) l.length false] 2 (r.flatMap aX) r.length:=by
 cases l with
 |nil=>
  have hr:r=[]:=by unfold gV app at hm;simpa using hm.symm
  subst hr;exact dQ.nil_arg (aGy (r:=[]) rfl) (fun a c=>aGz (r:=[]) rfl)
 |cons x0 l0=>
  refine aH0 ?_;show (app [] (x0::l0)).bind _=_;unfold gV at hm;rw [hm];rfl
def zO(l_0:List aM)(gM:Int):Option ((List aM)×Int×Int):=
 ((kC l_0).bind fun ⟨r2,r3⟩=>
 (bif (!r3) then
  some (l_0,0,1)
 else
  ((rK r2 gM).bind fun ⟨r5,r6⟩=>
  (bif r6 then
   some (l_0,0,4)
  else
   ((mJ l_0 (fun x0=>jG x0)).bind fun r8=>
   (bif (decide (r8<0)) then
    some (l_0,0,10)
   else
    ((gV l_0).bind fun r10=>
    ((idx r10 r8).bind fun x12=>
    ((stt r10 r8 (aM.mk true gM)).bind fun l14=>
    some (l14,r8,0))))))))))
theorem aYs{l_0:List aM}{gM:Int}{r:(List aM)×Int×Int}(hm:zO l_0 gM=some r):bN prog 87 [vl aX l_0,vu gM] (.tup [vl aX r.1,vi r.2.1,vi r.2.2]):=by
 refine bd 43 func87 ?_;refine W ?_;obtain ⟨⟨r2,r3⟩,h1,hm⟩:=bnd hm;refine cq (aD7 h1) ?_;refine W ?_;refine cm hm (fun hm=>?_) fun hm=>?_
 · exact E
 refine W ?_;obtain ⟨⟨r5,r6⟩,h4,hm⟩:=bnd hm;refine cq (aJf h4) ?_;refine W ?_;refine cm hm (fun hm=>?_) fun hm=>?_
 · exact E
 obtain ⟨r8,h7,hm⟩:=bnd hm;refine W ?_;refine aV.callQ (r:= .v (.int .i64 r8)) Zd Z1 bP0 (fun H=>(cD (dM.sl _ _ _) (cD (bF2 aDw) .nil))) (aDi h7 aDw bP1 (fun h=>aIz h)) ?_;refine W ?_;refine cm hm (fun hm=>?_) fun hm=>?_
 · exact E
 obtain ⟨r10,h9,hm⟩:=bnd hm;refine W ?_;refine aV.callF (id:=449) Zd Z1 bLk (fun H=>(cD (dM.sl _ _ _) .nil)) dM Z5 (aAh h9) ?_;refine W ?_;refine bU (.agg [vb true,vu gM]) ?_;obtain ⟨x12,h11,hm⟩:=bnd hm;obtain ⟨l14,h13,hm⟩:=bnd hm;refine W ?_;have qh13:=kM h13;refine aS h13 ?_;exact E
instance:Ct prog 87 (K2 prog (vl aX) vu (t3 (vl aX) vi vi) 87 zO):=⟨fun hm=>aYs hm⟩
def qR(l_0:List aM)(gM:Int):Option ((List aM)×Int):=
 ((kC l_0).bind fun ⟨r2,r3⟩=>
 (bif (!r3) then
  some (l_0,1)
 else
  ((rK r2 gM).bind fun ⟨r5,r6⟩=>
  (bif (!r6) then
   some (l_0,7)
  else
   ((gV l_0).bind fun r8=>
   ((idx r8 r5).bind fun x10=>
   ((stt r8 r5 (aM.mk false 0)).bind fun l12=>
   some (l12,0))))))))
theorem aPe{l_0:List aM}{gM:Int}{r:(List aM)×Int}(hm:qR l_0 gM=some r):bN prog 88 [vl aX l_0,vu gM] (.tup [vl aX r.1,vi r.2]):=by
 refine bd 35 func88 ?_;refine W ?_;obtain ⟨⟨r2,r3⟩,h1,hm⟩:=bnd hm;refine cq (aD7 h1) ?_;refine W ?_;refine cm hm (fun hm=>?_) fun hm=>?_
 · exact E
 refine W ?_;obtain ⟨⟨r5,r6⟩,h4,hm⟩:=bnd hm;refine cq (aJf h4) ?_;refine W ?_;refine cm hm (fun hm=>?_) fun hm=>?_
 · exact E
 obtain ⟨r8,h7,hm⟩:=bnd hm;refine W ?_;refine aV.callF (id:=321) Zd Z1 bLk (fun H=>(cD (dM.sl _ _ _) .nil)) dM Z5 (aAh h7) ?_;refine W ?_;refine bU (.agg [vb false,vu 0]) ?_;obtain ⟨x10,h9,hm⟩:=bnd hm;obtain ⟨l12,h11,hm⟩:=bnd hm;refine W ?_;have qh11:=kM h11;refine aS h11 ?_;exact E
instance:Ct prog 88 (K2 prog (vl aX) vu (t2 (vl aX) vi) 88 qR):=⟨fun hm=>aPe hm⟩
abbrev fI(s_4:aD)(t8:aD)(bMq:Int):Option (aD×Int):=
 some (s_4,bMq)
def iJ(s_0:aD)(c_1:eF)(u_2:Int)(v_3:Int):Option (aD×Int):=
 (bif (c_1.Do==1) then
  ((zO s_0.Slots c_1.A).bind fun ⟨r2,r3,r4⟩=>
  fI (aD.mk s_0.Graph r2) (aD.mk (aH.mk (aY.mk 0 0 0) [] []) []) r4)
 else
  (bif (c_1.Do==2) then
   ((pY s_0 u_2).bind fun r6=>
   (bif (decide (0<r6)) then
    some (s_0,11)
   else
    ((qR s_0.Slots c_1.A).bind fun ⟨r8,r9⟩=>
    fI (aD.mk s_0.Graph r8) (aD.mk (aH.mk (aY.mk 0 0 0) [] []) []) r9)))
  else
   (bif (c_1.Do==3) then
    ((qO s_0.Graph u_2 v_3).bind fun ⟨r11,r12⟩=>
    fI (aD.mk r11 s_0.Slots) (aD.mk (aH.mk (aY.mk 0 0 0) [] []) []) r12)
   else
    (bif (c_1.Do==4) then
     (bif (u_2==v_3) then
      some (s_0,9)
     else
      ((qN s_0.Graph u_2 v_3).bind fun ⟨r14,r15⟩=>
      fI (aD.mk r14 s_0.Slots) (aD.mk (aH.mk (aY.mk 0 0 0) [] []) []) r15))
    else
     (bif (c_1.Do==15) then
      none
     else
      fI s_0 (aD.mk (aH.mk (aY.mk 0 0 0) [] []) []) 0)))))
theorem aOr:K4 prog dI nV vi vi (t2 dI vi) 41 iJ:=fun hm=>be 76 func41 (h:=G)
instance:Ct prog 41 (K4 prog dI nV vi vi (t2 dI vi) 41 iJ):=⟨aOr⟩
def fG(s_0:aD)(c_1:eF):Option (aD×GA):=
 ((gO (((decide (c_1.Do<1))||(decide (15<c_1.Do)))==false) false (rS s_0)).bind fun r2=>
 (bif (((decide (c_1.Do<1))||(decide (15<c_1.Do)))||(!r2)) then
  some (s_0,(GA.i 36 .i64 1))
 else
  ((nW s_0.Slots c_1.A).bind fun ⟨r4,r5⟩=>
  ((nW s_0.Slots c_1.B).bind fun ⟨r7,r8⟩=>
  ((sI c_1.Do).bind fun r10=>
  ((gO ((r10&&(!r5))==false) false (sJ c_1.Do)).bind fun r12=>
  (bif ((r10&&(!r5))||(r12&&(!r8))) then
   some (s_0,(GA.i 36 .i64 7))
  else
   (bif ((decide (4<c_1.Do))&&(c_1.Do !=15)) then
    ((gP s_0 c_1.Do r4 r7).bind fun r14=>
    some (s_0,r14))
   else
    ((iJ s_0 c_1 r4 r7).bind fun ⟨r16,r17⟩=>
    (bif (r17 !=0) then
     some (s_0,(GA.i 36 .i64 r17))
    else
     some (r16,(GA.i 36 .i64 0))))))))))))
theorem aQ2:K2 prog dI nV (t2 dI GA.av) 12 fG:=fun hm=>be 91 func12 (h:=G)
instance:Ct prog 12 (K2 prog dI nV (t2 dI GA.av) 12 fG):=⟨aQ2⟩
def xC(s_0:aE)(c_1:eF):Option (aE×ByteArray):=
 (bif (!s_0.On) then
  ((dF (GA.i 36 .i64 3)).bind fun r2=>
  some (s_0,r2))
 else
  ((fG s_0.State c_1).bind fun ⟨r4,r5⟩=>
  ((dF r5).bind fun r7=>
  some ((aE.mk r4 s_0.Words s_0.On),r7))))
theorem aIl{s_0:aE}{c_1:eF}{r:aE×ByteArray}(hm:xC s_0 c_1=some r):bN prog 62 [.agg [vi s_0.State.Graph.Config.N,vi s_0.State.Graph.Config.L,vi s_0.State.Graph.Config.R,vl bS s_0.State.Graph.Hashes,vl aU s_0.State.Graph.Edges,vl aX s_0.State.Slots,vl (ci .u64) s_0.Words.List,vi s_0.Words.At,vb s_0.On],.agg [vi c_1.Do,vu c_1.A,vu c_1.B,.v (.string c_1.Text)]] (.tup [.agg [vi r.1.State.Graph.Config.N,vi r.1.State.Graph.Config.L,vi r.1.State.Graph.Config.R,vl bS r.1.State.Graph.Hashes,vl aU r.1.State.Graph.Edges,vl aX r.1.State.Slots,vl (ci .u64) r.1.Words.List,vi r.1.Words.At,vb r.1.On],.v (.string r.2)]):=by
 refine bd 26 func62 ?_;refine W ?_;refine cm hm (fun hm=>?_) fun hm=>?_
 · obtain ⟨r2,h1,hm⟩:=bnd hm;refine W ?_;refine cq (fT h1) ?_;exact E
 refine W ?_;obtain ⟨⟨r4,r5⟩,h3,hm⟩:=bnd hm;refine cq (aQ2 h3) ?_;obtain ⟨r7,h6,hm⟩:=bnd hm;refine W ?_;refine cq (fT h6) ?_;exact E
instance:Ct prog 62 (K2 prog jU nV (t2 jU vs) 62 xC):=⟨fun hm=>aIl hm⟩
def aCf(rec2:Int→ByteArray→Nat→Option (Int×Int))(n_6:Int)(t33s:ByteArray)(t33p:Nat):Option (Int×Int):=
 (bif (decide (t33p<t33s.size)) then
  (bif (decide ((IntKind.u64.wrap (Int.tdiv (IntKind.u64.wrap (18446744073709551615-(IntKind.u64.wrap (IntKind.i32.wrap ((((Utf8.decode t33s t33p).1:Nat):Int)-48))))) 10))<n_6)) then
   some (0,6)
  else
   rec2 (IntKind.u64.wrap ((IntKind.u64.wrap (n_6*10))+(IntKind.u64.wrap (IntKind.i32.wrap ((((Utf8.decode t33s t33p).1:Nat):Int)-48))))) t33s (t33p+(Utf8.decode t33s t33p).2))
 else
  some (n_6,0))
def wR:Nat→Int→ByteArray→Nat→Option (Int×Int)
 |0=>fun _ _ _=>none
 |n+1=>aCf (wR n)
def aCe(rec1:ByteArray→ByteArray→Nat→Option (Int×Int))(dV:ByteArray)(t22s:ByteArray)(t22p:Nat):Option (Int×Int):=
 (bif (decide (t22p<t22s.size)) then
  (bif ((decide ((((Utf8.decode t22s t22p).1:Nat):Int)<48))||(decide (57<(((Utf8.decode t22s t22p).1:Nat):Int)))) then
   some (0,2)
  else
   rec1 dV t22s (t22p+(Utf8.decode t22s t22p).2))
 else
  wR bF 0 dV 0)
def wQ:Nat→ByteArray→ByteArray→Nat→Option (Int×Int)
 |0=>fun _ _ _=>none
 |n+1=>aCe (wQ n)
def aA6(dV:ByteArray):Option (Int×Int):=
 ((gO ((decide (dV=⟨#[]⟩))==false) 0 (bH5 dV 0)).bind fun b2=>
 (bif ((decide (dV=⟨#[]⟩))||((b2==48)&&(!decide (dV=⟨#[48]⟩)))) then
  some (0,2)
 else
  wQ bF dV dV 0))
theorem aKq{dV:ByteArray}{r:Int×Int}(hm:aA6 dV=some r):bN prog 110 [.v (.string dV)] (.tup [.v (.int .u64 r.1),.v (.int .i64 r.2)]):=by
 refine bN.of_body func110 rfl ?_;simp only [ntmps110,List.length_cons,List.length_nil,Nat.reduceAdd,Nat.reduceSub,fH];unfold aA6 at hm;refine sr (N':=64) rfl ?_
 iterate 2 refine pA ?_
 refine fs ?_;refine AWp.seq' ?_;refine sr (N':=128) rfl ?_
 iterate 4 first|refine pA ?_|refine pB ?_
 obtain ⟨b2,h1,hm⟩:=bnd hm;refine pg rfl rfl Z2 (fun hb=>(aZ6 underlying9 (Zh hb) (Zh hb) (fP h1 hb))) ?_
 iterate 6 first|refine pA ?_|refine pB ?_
 refine fs ?_;refine AWp.condM hm Z1 (fun _ hm=>?_) (fun _ hm=>?_)
 ·
  refine sr (N':=192) rfl ?_
  iterate 2 refine pA ?_
  refine fs ?_;refine AWp.ret ?_;refine iD ?_;cases hm;exact aBn (.inr rfl) Tryz.results110 (td Z1 (.v _)) (td Z1 (.v _))
 ·
  refine AWp.skip ?_;refine bM ?_;refine AWp.seq' ?_;refine sr (N':=192) rfl ?_;refine pA ?_;refine hp (id:=129) rfl rfl (aDl underlying9 Z1 Z5) ?_;refine fs ?_;refine AWp.block ?_;refine AWp.loopM (fun m s=> ∃(dV:ByteArray) (t22s:ByteArray) (t22p:Nat),s=(⟨50,(aF (aF (fun _=>AV.any) 0 (.v (.string dV))) 22 (.adr 1 0)),⟨(upd bD 1 (.iter t22s t22p)),64⟩⟩:St)∧wQ m dV t22s t22p=some r) bF ?_ ?_ ?_
  · rintro s ⟨_,_,_,_,h⟩;cases h
  · refine ⟨_,?_,dV,dV,0,rfl,hm⟩;exact cN (fun j=>bif j==1 then 129 else 0) (bJ _ _ (tG Z1 rfl Z7) (wV dO)) (hW (cX (iB Z3) cR))
  ·
   rintro n1 s ⟨dV,t22s,t22p,rfl,hm⟩;replace hm:aCe (wQ n1) dV t22s t22p=some r:=hm;unfold aCe at hm;refine sr (N':=128) rfl ?_;refine aSx hm (fun h3 hm=>?_) (fun h3 hm=>?_)
   ·
    refine hp (id:=64) rfl rfl (yC Z1 Z3 (of_decide_eq_true h3)) ?_;refine pA ?_;refine fs ?_;refine AWp.seq' ?_;refine AWp.condT Z1 ?_;refine AWp.skip ?_;refine bM ?_;refine AWp.block ?_;refine sr (N':=192) rfl ?_
    iterate 2 refine pA ?_
    refine fs ?_;refine sr (N':=256) rfl ?_
    iterate 6 first|refine pA ?_|refine pB ?_
    refine fs ?_;refine AWp.condM hm Z1 (fun _ hm=>?_) (fun _ hm=>?_)
    ·
     refine sr (N':=320) rfl ?_
     iterate 2 refine pA ?_
     refine fs ?_;refine AWp.ret ?_;refine qF ?_;refine qW ?_;refine qF ?_;refine iD ?_;cases hm;exact aBn (.inr rfl) Tryz.results110 (td Z1 (.v _)) (td Z1 (.v _))
    · refine AWp.skip ?_;refine hY ?_;refine fK ?_;refine ⟨_,?_,dV,t22s,(t22p+(Utf8.decode t22s t22p).2),rfl,hm⟩;exact cN (fun j=>bif j==1 then 1 else 0) (bJ _ _ (tG Z1 rfl Z7) (wV dO)) (hW (cX (iB Z3) cR))
   ·
    refine hp (id:=64) rfl rfl (aAm Z1 Z3 (of_decide_eq_false h3)) ?_;refine pA ?_;refine fs ?_;refine AWp.seq' ?_;refine AWp.condF Z1 ?_;refine AWp.exit ?_;refine iH ?_;refine fO ?_;refine fN ?_;refine bM ?_;refine sr (N':=192) rfl ?_;refine pA ?_;refine fs ?_;refine AWp.seq' ?_;refine sr (N':=256) rfl ?_;refine pA ?_;refine hp (id:=193) rfl rfl (aDl underlying9 Z1 Z5) ?_;refine fs ?_;refine AWp.block ?_;refine AWp.loopM (fun m s=> ∃(n_6:Int) (t33s:ByteArray) (t33p:Nat),s=(⟨50,(aF (aF (fun _=>AV.any) 6 (.v (.int .u64 n_6))) 33 (.adr 1 0)),⟨(upd bD 1 (.iter t33s t33p)),64⟩⟩:St)∧wR m n_6 t33s t33p=some r) bF ?_ ?_ ?_
    · rintro s ⟨_,_,_,_,h⟩;cases h
    · refine ⟨_,?_,0,dV,0,rfl,hm⟩;exact cN (fun j=>bif j==1 then 193 else 0) (bJ _ _ (tG Z1 rfl Z7) (wV dO)) (hW (cX (iB Z3) cR))
    ·
     rintro n2 s ⟨n_6,t33s,t33p,rfl,hm⟩;replace hm:aCf (wR n2) n_6 t33s t33p=some r:=hm;unfold aCf at hm;refine sr (N':=128) rfl ?_;refine aSx hm (fun h4 hm=>?_) (fun h4 hm=>?_)
     ·
      refine hp (id:=64) rfl rfl (yC Z1 Z3 (of_decide_eq_true h4)) ?_;refine pA ?_;refine fs ?_;refine AWp.seq' ?_;refine AWp.condT Z1 ?_;refine AWp.skip ?_;refine bM ?_;refine AWp.block ?_;refine sr (N':=192) rfl ?_
      iterate 2 refine pA ?_
      refine fs ?_;refine sr (N':=256) rfl ?_
      iterate 4 refine pA ?_
      refine fs ?_;refine AWp.seq' ?_;refine sr (N':=320) rfl ?_
      iterate 5 refine pu rfl Zj ?_
      refine fs ?_;refine AWp.condM hm Z1 (fun _ hm=>?_) (fun _ hm=>?_)
      ·
       refine sr (N':=384) rfl ?_
       iterate 2 refine pA ?_
       refine fs ?_;refine AWp.ret ?_;refine iD ?_;refine qF ?_;refine qW ?_;refine qF ?_;refine iD ?_;cases hm;exact aBn (.inr rfl) Tryz.results110 (td Z1 (.v _)) (td Z1 (.v _))
      ·
       refine AWp.skip ?_;refine bM ?_;refine AWp.reg 64 (N':=384) rfl ?_
       iterate 5 refine pA ?_
       refine aV.fin ?_;refine hY ?_;refine fK ?_;refine ⟨_,?_,(IntKind.u64.wrap ((IntKind.u64.wrap (n_6*10))+(IntKind.u64.wrap (IntKind.i32.wrap ((((Utf8.decode t33s t33p).1:Nat):Int)-48))))),t33s,(t33p+(Utf8.decode t33s t33p).2),rfl,hm⟩;exact cN (fun j=>bif j==1 then 1 else 0) (bJ _ _ (tG Z1 rfl Z7) (wV dO)) (hW (cX (iB Z3) cR))
     ·
      refine hp (id:=64) rfl rfl (aAm Z1 Z3 (of_decide_eq_false h4)) ?_;refine pA ?_;refine fs ?_;refine AWp.seq' ?_;refine AWp.condF Z1 ?_;refine AWp.exit ?_;refine iH ?_;refine fO ?_;refine fN ?_;refine bM ?_;refine sr (N':=192) rfl ?_
      iterate 3 refine pA ?_
      refine fs ?_;refine AWp.ret ?_;cases hm;exact aBn (.inr rfl) Tryz.results110 (td Z1 (.v _)) (td Z1 (.v _))
instance:Ct prog 110 (K1 prog vs (t2 vu vi) 110 aA6):=⟨fun hm=>aKq hm⟩
def aJq(rec1:List Int→List ByteArray→Int→Int→Option ((List Int)×Int))(aNd:List Int)(t9:List ByteArray)(t10:Int)(t11:Int):Option ((List Int)×Int):=
 (bif (decide (t11<t10)) then
  ((idx t9 t11).bind fun x2=>
  ((aA6 x2).bind fun ⟨r4,r5⟩=>
  (bif (r5 !=0) then
   some ([],r5)
  else
   ((app aNd [r4]).bind fun l7=>
   rec1 l7 t9 t10 (IntKind.i64.wrap (t11+1))))))
 else
  some (aNd,0))
def uD:Nat→List Int→List ByteArray→Int→Int→Option ((List Int)×Int)
 |0=>fun _ _ _ _=>none
 |n+1=>aJq (uD n)
def vW(aD9:List ByteArray):Option ((List Int)×Int):=
 uD bF [] aD9 (aD9.length:Int) 0
theorem aDg{aD9:List ByteArray}{r:(List Int)×Int}(hm:vW aD9=some r):bN prog 63 [vl lR aD9] (.tup [vl (ci .u64) r.1,vi r.2]):=by
 refine bd 29 func63 ?_;refine W ?_;refine lp (fun m s=> ∃aNd t9 t10 t11,s=⟨29,(aF (aF (aF (aF fa 4 (.own 1 0 aNd.length)) 9 (vl lR t9)) 10 (vi t10)) 11 (vi t11)),⟨(upd bD 1 (.cells 1 (aNd.flatMap (ci .u64)) 0)),64⟩⟩∧uD m aNd t9 t10 t11=some r) ?_ ?_
 · refine ⟨_,?_,[],aD9,(aD9.length:Int),0,rfl,hm⟩;refine St.Le.trans (sL 4 900004 1 Z1 Z5) ?_;exact cn (fun j=>bif j==1 then 900004 else 0)
 rintro n1 s ⟨aNd,t9,t10,t11,rfl,hm⟩;refine W ?_;refine cm hm (fun hm=>?_) fun hm=>?_
 ·
  obtain ⟨x2,h1,hm⟩:=bnd hm;refine W ?_;obtain ⟨⟨r4,r5⟩,h3,hm⟩:=bnd hm;refine cq (aKq h3) ?_;refine W ?_;refine cm hm (fun hm=>?_) fun hm=>?_
  · exact E
  refine W ?_;refine aL (CFi .u64) [r4] ?_;obtain ⟨l7,h6,hm⟩:=bnd hm;refine W ?_;exact Lr (fun j=>bif j==1 then 323 else 0)
 exact E
instance:Ct prog 63 (K1 prog (vl lR) (t2 (vl (ci .u64)) vi) 63 vW):=⟨fun hm=>aDg hm⟩
def nA(w_0:aJ):Option (Bool):=
 some ((decide (0≤w_0.At))&&(decide (w_0.At≤(w_0.List.length:Int))))
theorem aKj:K1 prog jI vb 73 nA:=fun hm=>be 14 func73 (h:=G)
instance:Ct prog 73 (K1 prog jI vb 73 nA):=⟨aKj⟩
def aC6(rec1:aJ→aJ→Int→Option (Int×aJ×Int))(w_1:aJ)(t3:aJ)(aHb:Int):Option (Int×aJ×Int):=
 (bif (decide (aHb<(w_1.List.length:Int))) then
  ((idx w_1.List aHb).bind fun x4=>
  (bif (decide ((aDm .u64 x4 2305843009213693951)<2305843009213693951)) then
   some ((aDm .u64 x4 2305843009213693951),(aJ.mk w_1.List (IntKind.i64.wrap (aHb+1))),0)
  else
   rec1 w_1 t3 (IntKind.i64.wrap (aHb+1))))
 else
  some (0,w_1,5))
def sF:Nat→aJ→aJ→Int→Option (Int×aJ×Int)
 |0=>fun _ _ _=>none
 |n+1=>aC6 (sF n)
def rL(w_0:aJ):Option (Int×aJ×Int):=
 ((nA w_0).bind fun r2=>
 (bif (!r2) then
  some (0,w_0,1)
 else
  sF bF w_0 (aJ.mk [] 0) w_0.At))
theorem aU4{w_0:aJ}{r:Int×aJ×Int}(hm:rL w_0=some r):bN prog 74 [.agg [vl (ci .u64) w_0.List,vi w_0.At]] (.tup [vu r.1,.agg [vl (ci .u64) r.2.1.List,vi r.2.1.At],vi r.2.2]):=by
 refine bd 35 func74 ?_;obtain ⟨r2,h1,hm⟩:=bnd hm;refine W ?_;refine cq (aKj h1) ?_;refine W ?_;refine cm hm (fun hm=>?_) fun hm=>?_
 · exact E
 refine W ?_;refine lp (fun m s=> ∃w_1 t3 aHb,s=⟨35,(aF (aF (aF fa 1 (.adr 1 0)) 3 (.adr 2 0)) 5 (vi aHb)),⟨(upd (upd bD 1 (.cells 1 [vl (ci .u64) w_1.List,vi w_1.At] 0)) 2 (.cells 1 [vl (ci .u64) t3.List,vi t3.At] 0)),64⟩⟩∧sF m w_1 t3 aHb=some r) ?_ ?_
 · refine ⟨_,?_,w_0,(aJ.mk [] 0),w_0.At,rfl,hm⟩;refine St.Le.trans (aE0 2 (ys:=[.sl (((aJ.mk [] 0).List).flatMap (ci .u64)) ((aJ.mk [] 0).List).length false,.v (.int .i64 ((aJ.mk [] 0).At))]) Z3 (.cons (.nil false) (.cons (.data _ (.v _)) .nil))) ?_;exact cn (fun j=>bif j==1 then 0 else bif j==2 then 2 else 0)
 rintro n1 s ⟨w_1,t3,aHb,rfl,hm⟩;refine W ?_;refine cm hm (fun hm=>?_) fun hm=>?_
 ·
  obtain ⟨x4,h3,hm⟩:=bnd hm;refine W ?_;refine cm hm (fun hm=>?_) fun hm=>?_
  · refine W ?_;refine bU (.agg [vl (ci .u64) w_1.List,.v (.int .i64 (IntKind.i64.wrap (aHb+1)))]) ?_;exact E
  refine W ?_;exact Lr (fun j=>bif j==1 then 1 else bif j==2 then 2 else 0)
 exact E
instance:Ct prog 74 (K1 prog jI (t3 vu jI vi) 74 rL):=⟨fun hm=>aU4 hm⟩
def oZ(rec1:aJ→aJ→List bQ→aJ→Int→Int→Option ((List bQ)×aJ×Int))(w_2:aJ)(t5:aJ)(yS:List bQ)(aJo:aJ)(t31:Int)(t32:Int):Option ((List bQ)×aJ×Int):=
 (bif (decide (t32<t31)) then
  ((rL aJo).bind fun ⟨r6,r7,r8⟩=>
  (bif (r8 !=0) then
   some ([],w_2,r8)
  else
   ((rL r7).bind fun ⟨r10,r11,r12⟩=>
   (bif (r12 !=0) then
    some ([],w_2,r12)
   else
    ((idx yS t32).bind fun x14=>
    ((stt yS t32 (bQ.mk r6 r10)).bind fun l16=>
    rec1 w_2 t5 l16 r11 t31 (IntKind.i64.wrap (t32+1))))))))
 else
  some (yS,aJo,0))
def mB:Nat→aJ→aJ→List bQ→aJ→Int→Int→Option ((List bQ)×aJ×Int)
 |0=>fun _ _ _ _ _ _=>none
 |n+1=>oZ (mB n)
def oD(w_0:aJ)(n_1:Int):Option ((List bQ)×aJ×Int):=
 ((nA w_0).bind fun r2=>
 (bif (((!r2)||(decide (n_1<0)))||(decide (128<n_1))) then
  some ([],w_0,1)
 else
  ((mkc n_1 n_1 (bQ.mk 0 0)).bind fun l4=>
  mB bF w_0 (aJ.mk [] 0) l4 w_0 (l4.length:Int) 0)))
theorem aHp:K2 prog jI vi (t3 (vl bS) jI vi) 33 oD:=by
 intro w_0 n_1 r hm
 let I1:=((fun m s=> ∃w_2 t5 yS aJo t31 t32,s=⟨65,(aF (aF (aF (aF (aF (aF fa 2 (.adr 1 0)) 5 (.adr 2 0)) 7 (.own 3 0 yS.length)) 8 (.adr 4 0)) 31 (vi t31)) 32 (vi t32)),⟨(upd (upd (upd (upd bD 1 (.cells 1 [vl (ci .u64) w_2.List,vi w_2.At] 0)) 2 (.cells 1 [vl (ci .u64) t5.List,vi t5.At] 0)) 3 (.cells 2 (yS.flatMap bS) 0)) 4 (.cells 1 [vl (ci .u64) aJo.List,vi aJo.At] 0)),64⟩⟩∧mB m w_2 t5 yS aJo t31 t32=some r):Nat→St→Prop)
 exact be 65 func33 (h:=G)
instance:Ct prog 33 (K2 prog jI vi (t3 (vl bS) jI vi) 33 oD):=⟨aHp⟩
def aD8(n_0:Int):Option ((List aM)×Int):=
 ((lO n_0).bind fun r2=>
 (bif (!r2) then
  some ([],1)
 else
  ((mkc n_0 n_0 (aM.mk false 0)).bind fun l4=>
  some (l4,0))))
theorem aO7:K1 prog vi (t2 (vl aX) vi) 35 aD8:=fun hm=>be 9 func35 (h:=G)
instance:Ct prog 35 (K1 prog vi (t2 (vl aX) vi) 35 aD8):=⟨aO7⟩
def nC(c_0:aY)(w_1:aJ):Option (aD×aJ×Int):=
 (bif ((((((decide (c_0.N<1))||(decide (1024<c_0.N)))||(decide (c_0.L<1)))||(decide (16<c_0.L)))||(decide (c_0.R<1)))||(decide (8<c_0.R))) then
  some ((aD.mk (aH.mk (aY.mk 0 0 0) [] []) []),w_1,1)
 else
  ((oD w_1 (IntKind.i64.wrap (c_0.L*c_0.R))).bind fun ⟨r2,r3,r4⟩=>
  (bif (r4 !=0) then
   some ((aD.mk (aH.mk (aY.mk 0 0 0) [] []) []),w_1,r4)
  else
   ((zM c_0 r2).bind fun ⟨r6,r7⟩=>
   (bif (r7 !=0) then
    some ((aD.mk (aH.mk (aY.mk 0 0 0) [] []) []),w_1,r7)
   else
    ((aD8 c_0.N).bind fun ⟨r9,r10⟩=>
    (bif (r10 !=0) then
     some ((aD.mk (aH.mk (aY.mk 0 0 0) [] []) []),w_1,r10)
    else
     some ((aD.mk r6 r9),r3,0))))))))
theorem aMv{c_0:aY}{w_1:aJ}{r:aD×aJ×Int}(hm:nC c_0 w_1=some r):bN prog 10 [.agg [vi c_0.N,vi c_0.L,vi c_0.R],.agg [vl (ci .u64) w_1.List,vi w_1.At]] (.tup [.agg [vi r.1.Graph.Config.N,vi r.1.Graph.Config.L,vi r.1.Graph.Config.R,vl bS r.1.Graph.Hashes,vl aU r.1.Graph.Edges,vl aX r.1.Slots],.agg [vl (ci .u64) r.2.1.List,vi r.2.1.At],vi r.2.2]):=by
 refine bd 84 func10 ?_;refine W ?_;refine cm hm (fun hm=>?_) fun hm=>?_
 · refine W ?_;refine AWp.regV [(3,1),(4,2),(5,3)] 64 mix (by kernel_rfl) (by kernel_rfl) (IV.cons (off:=0) Z1 (IV.cons (off:=0) Z1 (IV.cons (off:=0) Z1 IV.nil))) (N':=192) rfl ?_;refine bU (.agg [vi 0,vi 0,vi 0,.v (.slice none 0 0),.v (.slice none 0 0),.v (.slice none 0 0)]) ?_;exact E
 refine W ?_;obtain ⟨⟨r2,r3,r4⟩,h1,hm⟩:=bnd hm;refine cq (aHp h1) ?_;refine W ?_;refine cm hm (fun hm=>?_) fun hm=>?_
 · refine W ?_;refine AWp.regV [(3,1),(4,2),(5,3)] 64 mix (by kernel_rfl) (by kernel_rfl) (IV.cons (off:=0) Z1 (IV.cons (off:=0) Z1 (IV.cons (off:=0) Z1 IV.nil))) (N':=320) rfl ?_;refine bU (.agg [vi 0,vi 0,vi 0,.v (.slice none 0 0),.v (.slice none 0 0),.v (.slice none 0 0)]) ?_;exact E
 refine W ?_;obtain ⟨⟨r6,r7⟩,h5,hm⟩:=bnd hm;refine cq (aO2 h5) ?_;refine W ?_;refine cm hm (fun hm=>?_) fun hm=>?_
 · refine W ?_;refine AWp.regV [(3,1),(4,2),(5,3)] 64 mix (by kernel_rfl) (by kernel_rfl) (IV.cons (off:=0) Z1 (IV.cons (off:=0) Z1 (IV.cons (off:=0) Z1 IV.nil))) (N':=448) rfl ?_;refine bU (.agg [vi 0,vi 0,vi 0,.v (.slice none 0 0),.v (.slice none 0 0),.v (.slice none 0 0)]) ?_;exact E
 refine W ?_;obtain ⟨⟨r9,r10⟩,h8,hm⟩:=bnd hm;refine cq (aO7 h8) ?_;refine W ?_;refine cm hm (fun hm=>?_) fun hm=>?_
 · refine W ?_;refine AWp.regV [(3,1),(4,2),(5,3)] 64 mix (by kernel_rfl) (by kernel_rfl) (IV.cons (off:=0) Z1 (IV.cons (off:=0) Z1 (IV.cons (off:=0) Z1 IV.nil))) (N':=576) rfl ?_;refine bU (.agg [vi 0,vi 0,vi 0,.v (.slice none 0 0),.v (.slice none 0 0),.v (.slice none 0 0)]) ?_;exact E
 refine W ?_;refine AWp.regV [(4,2),(5,3),(8,139),(10,262)] 64 mix (by kernel_rfl) (by kernel_rfl) (IV.cons (off:=0) Z1 (IV.cons (off:=0) Z1 (IV.cons (off:=0) Z1 (IV.cons (off:=0) Z1 IV.nil)))) (N':=576) rfl ?_;refine W ?_;refine bU (.agg [vi r6.Config.N,vi r6.Config.L,vi r6.Config.R,vl bS r6.Hashes,vl aU r6.Edges,vl aX r9]) ?_;exact E
instance:Ct prog 10 (K2 prog aO6 jI (t3 dI jI vi) 10 nC):=⟨fun hm=>aMv hm⟩
abbrev sV(s_3:aE)(t6:aE)(aWp:aY):Option (aE×ByteArray):=
 ((nC aWp s_3.Words).bind fun ⟨r12,r13,r14⟩=>
 (bif (r14 !=0) then
  ((dF (GA.i 36 .i64 r14)).bind fun r16=>
  some (s_3,r16))
 else
  ((dF (GA.i 36 .i64 0)).bind fun r18=>
  some ((aE.mk r12 r13 true),r18))))
def aNl(rec1:Int→List Int→aE→aE→List Int→Int→Int→Option (aE×ByteArray))(tJ:Int)(mI:List Int)(s_3:aE)(t6:aE)(t18:List Int)(t19:Int)(t20:Int):Option (aE×ByteArray):=
 (bif (decide (t20<t19)) then
  ((idx t18 t20).bind fun x2=>
  (bif (decide (2147483647<x2)) then
   ((dF (GA.i 36 .i64 6)).bind fun r4=>
   some (s_3,r4))
  else
   rec1 tJ mI s_3 t6 t18 t19 (IntKind.i64.wrap (t20+1))))
 else
  ((idx mI 0).bind fun x6=>
  ((idx mI 1).bind fun x8=>
  ((idx mI 2).bind fun x10=>
  (bif (tJ==(-2)) then
   none
  else
   sV s_3 t6 (aY.mk (IntKind.i64.wrap x6) (IntKind.i64.wrap x8) (IntKind.i64.wrap x10)))))))
def yZ:Nat→Int→List Int→aE→aE→List Int→Int→Int→Option (aE×ByteArray)
 |0=>fun _ _ _ _ _ _ _=>none
 |n+1=>aNl (yZ n)
def aAw(s_0:aE)(tJ:Int)(mI:List Int):Option (aE×ByteArray):=
 yZ bF tJ mI s_0 (aE.mk (aD.mk (aH.mk (aY.mk 0 0 0) [] []) []) (aJ.mk [] 0) false) mI (mI.length:Int) 0
theorem aFu{s_0:aE}{tJ:Int}{mI:List Int}{r:aE×ByteArray}(hm:aAw s_0 tJ mI=some r):bN prog 64 [.agg [vi s_0.State.Graph.Config.N,vi s_0.State.Graph.Config.L,vi s_0.State.Graph.Config.R,vl bS s_0.State.Graph.Hashes,vl aU s_0.State.Graph.Edges,vl aX s_0.State.Slots,vl (ci .u64) s_0.Words.List,vi s_0.Words.At,vb s_0.On],vi tJ,vl (ci .u64) mI] (.tup [.agg [vi r.1.State.Graph.Config.N,vi r.1.State.Graph.Config.L,vi r.1.State.Graph.Config.R,vl bS r.1.State.Graph.Hashes,vl aU r.1.State.Graph.Edges,vl aX r.1.State.Slots,vl (ci .u64) r.1.Words.List,vi r.1.Words.At,vb r.1.On],.v (.string r.2)]):=by
 refine bd 80 func64 ?_;refine W ?_;refine lp (fun m s=> ∃tJ mI s_3 t6 t18 t19 t20,s=⟨80,(aF (aF (aF (aF (aF (aF (aF fa 1 (vi tJ)) 2 (vl (ci .u64) mI)) 3 (.adr 1 0)) 6 (.adr 2 0)) 18 (vl (ci .u64) t18)) 19 (vi t19)) 20 (vi t20)),⟨(upd (upd bD 1 (.cells 1 [vi s_3.State.Graph.Config.N,vi s_3.State.Graph.Config.L,vi s_3.State.Graph.Config.R,vl bS s_3.State.Graph.Hashes,vl aU s_3.State.Graph.Edges,vl aX s_3.State.Slots,vl (ci .u64) s_3.Words.List,vi s_3.Words.At,vb s_3.On] 0)) 2 (.cells 1 [vi t6.State.Graph.Config.N,vi t6.State.Graph.Config.L,vi t6.State.Graph.Config.R,vl bS t6.State.Graph.Hashes,vl aU t6.State.Graph.Edges,vl aX t6.State.Slots,vl (ci .u64) t6.Words.List,vi t6.Words.At,vb t6.On] 0)),64⟩⟩∧yZ m tJ mI s_3 t6 t18 t19 t20=some r) ?_ ?_
 · refine ⟨_,?_,tJ,mI,s_0,(aE.mk (aD.mk (aH.mk (aY.mk 0 0 0) [] []) []) (aJ.mk [] 0) false),mI,(mI.length:Int),0,rfl,hm⟩;refine St.Le.trans (aE0 1 (ys:=[.v (.int .i64 (((((aE.mk (aD.mk (aH.mk (aY.mk 0 0 0) [] []) []) (aJ.mk [] 0) false).State).Graph).Config).N)),.v (.int .i64 (((((aE.mk (aD.mk (aH.mk (aY.mk 0 0 0) [] []) []) (aJ.mk [] 0) false).State).Graph).Config).L)),.v (.int .i64 (((((aE.mk (aD.mk (aH.mk (aY.mk 0 0 0) [] []) []) (aJ.mk [] 0) false).State).Graph).Config).R)),.sl (((((aE.mk (aD.mk (aH.mk (aY.mk 0 0 0) [] []) []) (aJ.mk [] 0) false).State).Graph).Hashes).flatMap bS) ((((aE.mk (aD.mk (aH.mk (aY.mk 0 0 0) [] []) []) (aJ.mk [] 0) false).State).Graph).Hashes).length false,.sl (((((aE.mk (aD.mk (aH.mk (aY.mk 0 0 0) [] []) []) (aJ.mk [] 0) false).State).Graph).Edges).flatMap aU) ((((aE.mk (aD.mk (aH.mk (aY.mk 0 0 0) [] []) []) (aJ.mk [] 0) false).State).Graph).Edges).length false,.sl ((((aE.mk (aD.mk (aH.mk (aY.mk 0 0 0) [] []) []) (aJ.mk [] 0) false).State).Slots).flatMap aX) (((aE.mk (aD.mk (aH.mk (aY.mk 0 0 0) [] []) []) (aJ.mk [] 0) false).State).Slots).length false,.sl ((((aE.mk (aD.mk (aH.mk (aY.mk 0 0 0) [] []) []) (aJ.mk [] 0) false).Words).List).flatMap (ci .u64)) (((aE.mk (aD.mk (aH.mk (aY.mk 0 0 0) [] []) []) (aJ.mk [] 0) false).Words).List).length false,.v (.int .i64 (((aE.mk (aD.mk (aH.mk (aY.mk 0 0 0) [] []) []) (aJ.mk [] 0) false).Words).At)),.v (.bool ((aE.mk (aD.mk (aH.mk (aY.mk 0 0 0) [] []) []) (aJ.mk [] 0) false).On))]) Z3 (.cons (.data _ (.v _)) (.cons (.data _ (.v _)) (.cons (.data _ (.v _)) (.cons (.nil false) (.cons (.nil false) (.cons (.nil false) (.cons (.nil false) (.cons (.data _ (.v _)) (.cons (.data _ (.v _)) .nil)))))))))) ?_;exact cn (fun j=>bif j==1 then 0 else bif j==2 then 1 else 0)
 rintro n1 s ⟨tJ,mI,s_3,t6,t18,t19,t20,rfl,hm⟩;refine W ?_;refine cm hm (fun hm=>?_) fun hm=>?_
 ·
  obtain ⟨x2,h1,hm⟩:=bnd hm;refine W ?_;refine cm hm (fun hm=>?_) fun hm=>?_
  · obtain ⟨r4,h3,hm⟩:=bnd hm;refine W ?_;refine cq (fT h3) ?_;exact E
  refine W ?_;exact Lr (fun j=>bif j==1 then 1 else bif j==2 then 2 else 0)
 obtain ⟨x6,h5,hm⟩:=bnd hm;obtain ⟨x8,h7,hm⟩:=bnd hm;obtain ⟨x10,h9,hm⟩:=bnd hm;refine W ?_;refine bU (.agg [.v (.int .i64 (IntKind.i64.wrap x6)),.v (.int .i64 (IntKind.i64.wrap x8)),.v (.int .i64 (IntKind.i64.wrap x10))]) ?_;refine V ?_;refine AWp.seqJ (fun s=> ∃s_3 t6 aWp,s=⟨80,(aF (aF (aF fa 3 (.adr 1 0)) 6 (.adr 2 0)) 13 (.adr 3 0)),⟨(upd (upd (upd bD 1 (.cells 1 [vi s_3.State.Graph.Config.N,vi s_3.State.Graph.Config.L,vi s_3.State.Graph.Config.R,vl bS s_3.State.Graph.Hashes,vl aU s_3.State.Graph.Edges,vl aX s_3.State.Slots,vl (ci .u64) s_3.Words.List,vi s_3.Words.At,vb s_3.On] 0)) 2 (.cells 1 [vi t6.State.Graph.Config.N,vi t6.State.Graph.Config.L,vi t6.State.Graph.Config.R,vl bS t6.State.Graph.Hashes,vl aU t6.State.Graph.Edges,vl aX t6.State.Slots,vl (ci .u64) t6.Words.List,vi t6.Words.At,vb t6.On] 0)) 3 (.cells 1 [vi aWp.N,vi aWp.L,vi aWp.R] 0)),64⟩⟩∧sV s_3 t6 aWp=some r) ?_ ?_
 ·
  refine W ?_;refine cm hm (fun hm=>?_) fun hm=>?_
  · cases hm
  refine W ?_;exact Lr (fun j=>bif j==1 then 1 else bif j==2 then 2 else bif j==3 then 196 else 0)
 rintro s ⟨s_3,t6,aWp,rfl,hm⟩;refine W ?_;obtain ⟨⟨r12,r13,r14⟩,h11,hm⟩:=bnd hm;refine cq (aMv h11) ?_;refine W ?_;refine cm hm (fun hm=>?_) fun hm=>?_
 · obtain ⟨r16,h15,hm⟩:=bnd hm;refine W ?_;refine cq (fT h15) ?_;exact E
 refine W ?_;refine bU (.agg [vi r12.Graph.Config.N,vi r12.Graph.Config.L,vi r12.Graph.Config.R,vl bS r12.Graph.Hashes,vl aU r12.Graph.Edges,vl aX r12.Slots,vl (ci .u64) r13.List,vi r13.At,vb true]) ?_;obtain ⟨r18,h17,hm⟩:=bnd hm;refine W ?_;refine cq (fT h17) ?_;exact E
instance:Ct prog 64 (K3 prog jU vi (vl (ci .u64)) (t2 jU vs) 64 aAw):=⟨fun hm=>aFu hm⟩
abbrev qG(s_2:aE)(t4:aE)(aBc:eF):Option (aE×ByteArray):=
 ((xC s_2 aBc).bind fun ⟨r21,r22⟩=>
 some (r21,r22))
abbrev aAx(s_2:aE)(t4:aE)(aN3:Int)(aHa:List Int)(aBc:eF):Option (aE×ByteArray):=
 (bif (decide (1<aN3)) then
  ((idx aHa 1).bind fun x24=>
  qG s_2 t4 (eF.mk aBc.Do aBc.A x24 aBc.Text))
 else
  qG s_2 t4 aBc)
def dE(s_0:aE)(dP:List ByteArray):Option (aE×ByteArray):=
 (bif ((dP.length:Int)==0) then
  ((dF (GA.i 36 .i64 1)).bind fun r2=>
  some (s_0,r2))
 else
  ((idx dP 0).bind fun x4=>
  ((vV x4).bind fun ⟨r6,r7⟩=>
  (bif ((r6==0)||((IntKind.i64.wrap ((dP.length:Int)-1)) !=r7)) then
   ((dF (GA.i 36 .i64 1)).bind fun r9=>
   some (s_0,r9))
  else
   (bif (r6==15) then
    none
   else
    ((slc dP 1 (dP.length:Int)).bind fun l11=>
    ((vW l11).bind fun ⟨r13,r14⟩=>
    (bif (r14 !=0) then
     ((dF (GA.i 36 .i64 r14)).bind fun r16=>
     some (s_0,r16))
    else
     (bif ((r6==(-1))||(r6==(-2))) then
      ((aAw s_0 r6 r13).bind fun ⟨r18,r19⟩=>
      some (r18,r19))
     else
      (bif (decide (0<r7)) then
       ((idx r13 0).bind fun x26=>
       aAx s_0 (aE.mk (aD.mk (aH.mk (aY.mk 0 0 0) [] []) []) (aJ.mk [] 0) false) r7 r13 (eF.mk r6 x26 0 ⟨#[]⟩))
      else
       aAx s_0 (aE.mk (aD.mk (aH.mk (aY.mk 0 0 0) [] []) []) (aJ.mk [] 0) false) r7 r13 (eF.mk r6 0 0 ⟨#[]⟩)))))))))))
theorem aIm{s_0:aE}{dP:List ByteArray}{r:aE×ByteArray}(hm:dE s_0 dP=some r):bN prog 28 [.agg [vi s_0.State.Graph.Config.N,vi s_0.State.Graph.Config.L,vi s_0.State.Graph.Config.R,vl bS s_0.State.Graph.Hashes,vl aU s_0.State.Graph.Edges,vl aX s_0.State.Slots,vl (ci .u64) s_0.Words.List,vi s_0.Words.At,vb s_0.On],vl lR dP] (.tup [.agg [vi r.1.State.Graph.Config.N,vi r.1.State.Graph.Config.L,vi r.1.State.Graph.Config.R,vl bS r.1.State.Graph.Hashes,vl aU r.1.State.Graph.Edges,vl aX r.1.State.Slots,vl (ci .u64) r.1.Words.List,vi r.1.Words.At,vb r.1.On],.v (.string r.2)]):=by
 refine bd 103 func28 ?_;refine W ?_;refine cm hm (fun hm=>?_) fun hm=>?_
 · obtain ⟨r2,h1,hm⟩:=bnd hm;refine W ?_;refine cq (fT h1) ?_;exact E
 obtain ⟨x4,h3,hm⟩:=bnd hm;refine W ?_;obtain ⟨⟨r6,r7⟩,h5,hm⟩:=bnd hm;refine cq (aDf h5) ?_;refine W ?_;refine cm hm (fun hm=>?_) fun hm=>?_
 · obtain ⟨r9,h8,hm⟩:=bnd hm;refine W ?_;refine cq (fT h8) ?_;exact E
 refine W ?_;refine cm hm (fun hm=>?_) fun hm=>?_
 · cases hm
 obtain ⟨l11,h10,hm⟩:=bnd hm;refine W ?_;obtain ⟨⟨r13,r14⟩,h12,hm⟩:=bnd hm;refine cq (aDg h12) ?_;refine W ?_;refine cm hm (fun hm=>?_) fun hm=>?_
 · obtain ⟨r16,h15,hm⟩:=bnd hm;refine W ?_;refine cq (fT h15) ?_;exact E
 refine W ?_;refine cm hm (fun hm=>?_) fun hm=>?_
 · refine W ?_;obtain ⟨⟨r18,r19⟩,h17,hm⟩:=bnd hm;refine cq (aFu h17) ?_;exact E
 refine W ?_;refine bU (.agg [vi r6,vu 0,vu 0,.v (.string ⟨#[]⟩)]) ?_;refine V ?_;refine AWp.seqJ (fun s=> ∃s_2 t4 aN3 aHa aBc,s=⟨103,(aF (aF (aF (aF (aF fa 2 (.adr 1 0)) 4 (.adr 2 0)) 7 (vi aN3)) 10 (vl (ci .u64) aHa)) 12 (.adr 3 0)),⟨(upd (upd (upd bD 1 (.cells 1 [vi s_2.State.Graph.Config.N,vi s_2.State.Graph.Config.L,vi s_2.State.Graph.Config.R,vl bS s_2.State.Graph.Hashes,vl aU s_2.State.Graph.Edges,vl aX s_2.State.Slots,vl (ci .u64) s_2.Words.List,vi s_2.Words.At,vb s_2.On] 0)) 2 (.cells 1 [vi t4.State.Graph.Config.N,vi t4.State.Graph.Config.L,vi t4.State.Graph.Config.R,vl bS t4.State.Graph.Hashes,vl aU t4.State.Graph.Edges,vl aX t4.State.Slots,vl (ci .u64) t4.Words.List,vi t4.Words.At,vb t4.On] 0)) 3 (.cells 1 [vi aBc.Do,vu aBc.A,vu aBc.B,.v (.string aBc.Text)] 0)),64⟩⟩∧aAx s_2 t4 aN3 aHa aBc=some r) ?_ ?_
 ·
  refine W ?_;refine cm hm (fun hm=>?_) fun hm=>?_
  · obtain ⟨x26,h25,hm⟩:=bnd hm;refine W ?_;refine ⟨_,?_,s_0,(aE.mk (aD.mk (aH.mk (aY.mk 0 0 0) [] []) []) (aJ.mk [] 0) false),r7,r13,(eF.mk r6 x26 0 ⟨#[]⟩),rfl,hm⟩;refine St.Le.trans (aE0 1 (ys:=[.v (.int .i64 (((((aE.mk (aD.mk (aH.mk (aY.mk 0 0 0) [] []) []) (aJ.mk [] 0) false).State).Graph).Config).N)),.v (.int .i64 (((((aE.mk (aD.mk (aH.mk (aY.mk 0 0 0) [] []) []) (aJ.mk [] 0) false).State).Graph).Config).L)),.v (.int .i64 (((((aE.mk (aD.mk (aH.mk (aY.mk 0 0 0) [] []) []) (aJ.mk [] 0) false).State).Graph).Config).R)),.sl (((((aE.mk (aD.mk (aH.mk (aY.mk 0 0 0) [] []) []) (aJ.mk [] 0) false).State).Graph).Hashes).flatMap bS) ((((aE.mk (aD.mk (aH.mk (aY.mk 0 0 0) [] []) []) (aJ.mk [] 0) false).State).Graph).Hashes).length false,.sl (((((aE.mk (aD.mk (aH.mk (aY.mk 0 0 0) [] []) []) (aJ.mk [] 0) false).State).Graph).Edges).flatMap aU) ((((aE.mk (aD.mk (aH.mk (aY.mk 0 0 0) [] []) []) (aJ.mk [] 0) false).State).Graph).Edges).length false,.sl ((((aE.mk (aD.mk (aH.mk (aY.mk 0 0 0) [] []) []) (aJ.mk [] 0) false).State).Slots).flatMap aX) (((aE.mk (aD.mk (aH.mk (aY.mk 0 0 0) [] []) []) (aJ.mk [] 0) false).State).Slots).length false,.sl ((((aE.mk (aD.mk (aH.mk (aY.mk 0 0 0) [] []) []) (aJ.mk [] 0) false).Words).List).flatMap (ci .u64)) (((aE.mk (aD.mk (aH.mk (aY.mk 0 0 0) [] []) []) (aJ.mk [] 0) false).Words).List).length false,.v (.int .i64 (((aE.mk (aD.mk (aH.mk (aY.mk 0 0 0) [] []) []) (aJ.mk [] 0) false).Words).At)),.v (.bool ((aE.mk (aD.mk (aH.mk (aY.mk 0 0 0) [] []) []) (aJ.mk [] 0) false).On))]) Z3 (.cons (.data _ (.v _)) (.cons (.data _ (.v _)) (.cons (.data _ (.v _)) (.cons (.nil false) (.cons (.nil false) (.cons (.nil false) (.cons (.nil false) (.cons (.data _ (.v _)) (.cons (.data _ (.v _)) .nil)))))))))) ?_;exact cn (fun j=>bif j==1 then 0 else bif j==2 then 1 else bif j==3 then 514 else 0)
  refine W ?_;refine ⟨_,?_,s_0,(aE.mk (aD.mk (aH.mk (aY.mk 0 0 0) [] []) []) (aJ.mk [] 0) false),r7,r13,(eF.mk r6 0 0 ⟨#[]⟩),rfl,hm⟩;refine St.Le.trans (aE0 1 (ys:=[.v (.int .i64 (((((aE.mk (aD.mk (aH.mk (aY.mk 0 0 0) [] []) []) (aJ.mk [] 0) false).State).Graph).Config).N)),.v (.int .i64 (((((aE.mk (aD.mk (aH.mk (aY.mk 0 0 0) [] []) []) (aJ.mk [] 0) false).State).Graph).Config).L)),.v (.int .i64 (((((aE.mk (aD.mk (aH.mk (aY.mk 0 0 0) [] []) []) (aJ.mk [] 0) false).State).Graph).Config).R)),.sl (((((aE.mk (aD.mk (aH.mk (aY.mk 0 0 0) [] []) []) (aJ.mk [] 0) false).State).Graph).Hashes).flatMap bS) ((((aE.mk (aD.mk (aH.mk (aY.mk 0 0 0) [] []) []) (aJ.mk [] 0) false).State).Graph).Hashes).length false,.sl (((((aE.mk (aD.mk (aH.mk (aY.mk 0 0 0) [] []) []) (aJ.mk [] 0) false).State).Graph).Edges).flatMap aU) ((((aE.mk (aD.mk (aH.mk (aY.mk 0 0 0) [] []) []) (aJ.mk [] 0) false).State).Graph).Edges).length false,.sl ((((aE.mk (aD.mk (aH.mk (aY.mk 0 0 0) [] []) []) (aJ.mk [] 0) false).State).Slots).flatMap aX) (((aE.mk (aD.mk (aH.mk (aY.mk 0 0 0) [] []) []) (aJ.mk [] 0) false).State).Slots).length false,.sl ((((aE.mk (aD.mk (aH.mk (aY.mk 0 0 0) [] []) []) (aJ.mk [] 0) false).Words).List).flatMap (ci .u64)) (((aE.mk (aD.mk (aH.mk (aY.mk 0 0 0) [] []) []) (aJ.mk [] 0) false).Words).List).length false,.v (.int .i64 (((aE.mk (aD.mk (aH.mk (aY.mk 0 0 0) [] []) []) (aJ.mk [] 0) false).Words).At)),.v (.bool ((aE.mk (aD.mk (aH.mk (aY.mk 0 0 0) [] []) []) (aJ.mk [] 0) false).On))]) Z3 (.cons (.data _ (.v _)) (.cons (.data _ (.v _)) (.cons (.data _ (.v _)) (.cons (.nil false) (.cons (.nil false) (.cons (.nil false) (.cons (.nil false) (.cons (.data _ (.v _)) (.cons (.data _ (.v _)) .nil)))))))))) ?_;exact cn (fun j=>bif j==1 then 0 else bif j==2 then 1 else bif j==3 then 514 else 0)
 rintro s ⟨s_2,t4,aN3,aHa,aBc,rfl,hm⟩;refine AWp.seqJ (fun s=> ∃s_2 t4 aBc,s=⟨103,(aF (aF (aF fa 2 (.adr 1 0)) 4 (.adr 2 0)) 12 (.adr 3 0)),⟨(upd (upd (upd bD 1 (.cells 1 [vi s_2.State.Graph.Config.N,vi s_2.State.Graph.Config.L,vi s_2.State.Graph.Config.R,vl bS s_2.State.Graph.Hashes,vl aU s_2.State.Graph.Edges,vl aX s_2.State.Slots,vl (ci .u64) s_2.Words.List,vi s_2.Words.At,vb s_2.On] 0)) 2 (.cells 1 [vi t4.State.Graph.Config.N,vi t4.State.Graph.Config.L,vi t4.State.Graph.Config.R,vl bS t4.State.Graph.Hashes,vl aU t4.State.Graph.Edges,vl aX t4.State.Slots,vl (ci .u64) t4.Words.List,vi t4.Words.At,vb t4.On] 0)) 3 (.cells 1 [vi aBc.Do,vu aBc.A,vu aBc.B,.v (.string aBc.Text)] 0)),64⟩⟩∧qG s_2 t4 aBc=some r) ?_ ?_
 ·
  refine W ?_;refine cm hm (fun hm=>?_) fun hm=>?_
  · obtain ⟨x24,h23,hm⟩:=bnd hm;refine W ?_;exact Lr (fun j=>bif j==1 then 1 else bif j==2 then 2 else bif j==3 then 3 else 0)
  refine W ?_;exact Lr (fun j=>bif j==1 then 1 else bif j==2 then 2 else bif j==3 then 3 else 0)
 rintro s ⟨s_2,t4,aBc,rfl,hm⟩;refine W ?_;obtain ⟨⟨r21,r22⟩,h20,hm⟩:=bnd hm;refine cq (aIl h20) ?_;exact E
instance:Ct prog 28 (K2 prog jU (vl lR) (t2 jU vs) 28 dE):=⟨fun hm=>aIm hm⟩
def aAt(r_0:Int):Option (Bool):=
 some ((((decide (97≤r_0))&&(decide (r_0≤122)))||((decide (48≤r_0))&&(decide (r_0≤57))))||((decide (945≤r_0))&&(decide (r_0≤969))))
theorem aFq{r_0:Int}{r:Bool}(hm:aAt r_0=some r):bN prog 115 [.v (.int .i32 r_0)] (vb r):=by
 refine bd 25 func115 ?_;exact E
instance:Ct prog 115 (K1 prog (vk .i32) vb 115 aAt):=⟨fun hm=>aFq hm⟩
abbrev nE(rec1:ByteArray→List (List ByteArray)→List ByteArray→Int→Bool→Int→ByteArray→Nat→Option ((List (List ByteArray))×Int×Int))(dU:ByteArray)(cO:List (List ByteArray))(dS:List ByteArray)(eP:Int)(cZ:Bool)(eG:Int)(t14s:ByteArray)(t14p:Nat):Option ((List (List ByteArray))×Int×Int):=
 rec1 dU cO dS eP cZ (IntKind.i64.wrap (eG+1)) t14s t14p
abbrev aA4(rec1:ByteArray→List (List ByteArray)→List ByteArray→Int→Bool→Int→ByteArray→Nat→Option ((List (List ByteArray))×Int×Int))(dU:ByteArray)(cO:List (List ByteArray))(dS:List ByteArray)(eP:Int)(cZ:Bool)(eG:Int)(bCw:Int)(aV3:Int)(aBk:Bool)(t14s:ByteArray)(t14p:Nat):Option ((List (List ByteArray))×Int×Int):=
 (bif (aV3==10) then
  ((app cO [dS]).bind fun l5=>
  nE rec1 dU l5 [] eP false eG t14s t14p)
 else
  (bif ((cZ||(aV3==32))||(aV3==9)) then
   nE rec1 dU cO dS eP cZ eG t14s t14p
  else
   (bif (aV3==35) then
    nE rec1 dU cO dS eP true eG t14s t14p
   else
    (bif (!aBk) then
     some ([],eG,2)
    else
     (bif (decide (eP<0)) then
      nE rec1 dU cO dS bCw cZ eG t14s t14p
     else
      nE rec1 dU cO dS eP cZ eG t14s t14p)))))
abbrev aA5(cO:List (List ByteArray))(dS:List ByteArray):Option ((List (List ByteArray))×Int×Int):=
 ((app cO [dS]).bind fun l11=>
 some (l11,0,0))
def aE1(rec1:ByteArray→List (List ByteArray)→List ByteArray→Int→Bool→Int→ByteArray→Nat→Option ((List (List ByteArray))×Int×Int))(dU:ByteArray)(cO:List (List ByteArray))(dS:List ByteArray)(eP:Int)(cZ:Bool)(eG:Int)(t14s:ByteArray)(t14p:Nat):Option ((List (List ByteArray))×Int×Int):=
 (bif (decide (t14p<t14s.size)) then
  ((gO ((!cZ)==true) false (aAt (((Utf8.decode t14s t14p).1:Nat):Int))).bind fun r3=>
  (bif ((decide (0≤eP))&&(!((!cZ)&&r3))) then
   ((bDf dU eP ((t14p:Nat):Int)).bind fun l7=>
   ((app dS [l7]).bind fun l9=>
   aA4 rec1 dU cO l9 (-1) cZ eG ((t14p:Nat):Int) (((Utf8.decode t14s t14p).1:Nat):Int) ((!cZ)&&r3) t14s (t14p+(Utf8.decode t14s t14p).2)))
  else
   aA4 rec1 dU cO dS eP cZ eG ((t14p:Nat):Int) (((Utf8.decode t14s t14p).1:Nat):Int) ((!cZ)&&r3) t14s (t14p+(Utf8.decode t14s t14p).2)))
 else
  (bif (decide (0≤eP)) then
   ((bDf dU eP (dU.size:Int)).bind fun l13=>
   ((app dS [l13]).bind fun l15=>
   aA5 cO l15))
  else
   aA5 cO dS))
def rO:Nat→ByteArray→List (List ByteArray)→List ByteArray→Int→Bool→Int→ByteArray→Nat→Option ((List (List ByteArray))×Int×Int)
 |0=>fun _ _ _ _ _ _ _ _=>none
 |n+1=>aE1 (rO n)
def qY(dU:ByteArray):Option ((List (List ByteArray))×Int×Int):=
 rO bF dU [] [] (-1) false 0 dU 0
theorem aGk{dU:ByteArray}{r:(List (List ByteArray))×Int×Int}(hm:qY dU=some r):bN prog 68 [.v (.string dU)] (.tup [.sl (r.1.flatMap (csl lR)) r.1.length false,.v (.int .i64 r.2.1),.v (.int .i64 r.2.2)]):=by
 refine bN.of_body func68 rfl ?_;simp only [ntmps68,List.length_cons,List.length_nil,Nat.reduceAdd,Nat.reduceSub,fH];unfold qY at hm;refine sr (N':=64) rfl ?_
 iterate 3 refine pA ?_
 refine fs ?_;refine sr (N':=128) rfl ?_;refine pA ?_;refine fs ?_;refine sr (N':=192) rfl ?_;refine pA ?_;refine fs ?_;refine sr (N':=256) rfl ?_;refine pA ?_;refine fs ?_;refine sr (N':=320) rfl ?_;refine pA ?_;refine fs ?_;refine sr (N':=384) rfl ?_;refine pA ?_;refine fs ?_;refine AWp.seq' ?_;refine sr (N':=448) rfl ?_;refine pA ?_;refine hp (id:=385) rfl rfl (aDl underlying9 Z1 Z5) ?_;refine fs ?_;refine AWp.block ?_;refine AWp.loopM (fun m s=> ∃(dU:ByteArray) (cO:List (List ByteArray)) (dS:List ByteArray) (eP:Int) (cZ:Bool) (eG:Int) (t14s:ByteArray) (t14p:Nat),s=(⟨80,(aF (aF (aF (aF (aF (aF (aF (fun _=>AV.any) 0 (.v (.string dU))) 5 (.own 1 0 cO.length)) 6 (.own 2 0 dS.length)) 7 (.v (.int .i64 eP))) 8 (.v (.bool cZ))) 9 (.v (.int .i64 eG))) 14 (.adr 3 0)),⟨(upd (upd (upd bD 1 (.cells 1 (cO.flatMap (csl lR)) 0)) 2 (.cells 1 (dS.flatMap lR) 0)) 3 (.iter t14s t14p)),64⟩⟩:St)∧rO m dU cO dS eP cZ eG t14s t14p=some r) bF ?_ ?_ ?_
 · rintro s ⟨_,_,_,_,_,_,_,_,_,h⟩;cases h
 · refine ⟨_,?_,dU,[],[],(-1),false,0,dU,0,rfl,hm⟩;refine St.Le.trans (sL 5 900005 1 Z1 Z5) ?_;refine St.Le.trans (sL 6 900006 1 Z1 Z5) ?_;exact cN (fun j=>bif j==1 then 900005 else bif j==2 then 900006 else bif j==3 then 385 else 0) (bJ _ _ (tG Z1 rfl Z7) (wV (wV (wV (wO (wO (wV dO))))))) (hW (cX (iB Z3) (eU CFs (eU (CFl CFs) cR))))
 ·
  rintro n1 s ⟨dU,cO,dS,eP,cZ,eG,t14s,t14p,rfl,hm⟩;replace hm:aE1 (rO n1) dU cO dS eP cZ eG t14s t14p=some r:=hm;unfold aE1 at hm;refine sr (N':=128) rfl ?_;refine aSx hm (fun h1 hm=>?_) (fun h1 hm=>?_)
  ·
   refine hp (id:=64) rfl rfl (yC Z1 Z3 (of_decide_eq_true h1)) ?_;refine pA ?_;refine fs ?_;refine AWp.seq' ?_;refine AWp.condT Z1 ?_;refine AWp.skip ?_;refine bM ?_;refine AWp.block ?_;refine sr (N':=192) rfl ?_
   iterate 4 refine pA ?_
   refine fs ?_;refine sr (N':=256) rfl ?_
   iterate 4 first|refine pA ?_|refine pB ?_
   obtain ⟨r3,h2,hm⟩:=bnd hm;refine aV.callQG (r:= .v (.bool r3)) Zd rfl Z2 Z1 bOv (fun hb H=>(.cons (td (Zh hb) (.v _)) .nil)) (fun hb=>aFq (fP h2 hb)) ?_
   iterate 2 refine pA ?_
   refine fs ?_;refine AWp.seqJ (fun s=> ∃(dU:ByteArray) (cO:List (List ByteArray)) (dS:List ByteArray) (eP:Int) (cZ:Bool) (eG:Int) (bCw:Int) (aV3:Int) (aBk:Bool) (t14s:ByteArray) (t14p:Nat),s=(⟨80,(aF (aF (aF (aF (aF (aF (aF (aF (aF (aF (fun _=>AV.any) 0 (.v (.string dU))) 5 (.own 1 0 cO.length)) 6 (.own 2 0 dS.length)) 7 (.v (.int .i64 eP))) 8 (.v (.bool cZ))) 9 (.v (.int .i64 eG))) 10 (.v (.int .i64 bCw))) 11 (.v (.int .i32 aV3))) 12 (.v (.bool aBk))) 14 (.adr 3 0)),⟨(upd (upd (upd bD 1 (.cells 1 (cO.flatMap (csl lR)) 0)) 2 (.cells 1 (dS.flatMap lR) 0)) 3 (.iter t14s t14p)),64⟩⟩:St)∧aA4 (rO n1) dU cO dS eP cZ eG bCw aV3 aBk t14s t14p=some r) ?_ ?_
   ·
    refine sr (N':=320) rfl ?_
    iterate 6 first|refine pA ?_|refine pB ?_
    refine fs ?_;refine AWp.condM hm Z1 (fun _ hm=>?_) (fun _ hm=>?_)
    ·
     refine sr (N':=384) rfl ?_
     iterate 4 refine pA ?_
     obtain ⟨l7,h6,hm⟩:=bnd hm;refine pu rfl (aZ7 underlying9 Z1 (aBp Z1 (aYl h6).1) (aBp Z1 (aYl h6).2) h6) ?_;refine hp (id:=325) rfl rfl (jF CFs (l:=[l7]) underlying69 sz9 zc9 Z5 Zd Zd Zd (by simp only [go_sem,Nat.reduceBEq];try rfl) (by kernel_rfl)) ?_;obtain ⟨l9,h8,hm⟩:=bnd hm;refine hp (id:=326) rfl rfl (yA CFs underlying69 underlying69 rfl in9 ts9 (by rw [tb9];decide) (by rw [tb9];decide) tz9 Zd Zd Z1 Z3 Z6 (aBv CFs Z1 Z3 Z6) rfl Z5 h8) ?_;refine pA ?_;refine fs ?_;refine AWp.reg 64 (N':=448) rfl ?_;refine pA ?_;refine aV.fin ?_;refine tN ?_;refine ⟨_,?_,dU,cO,l9,(-1),cZ,eG,((t14p:Nat):Int),(((Utf8.decode t14s t14p).1:Nat):Int),((!cZ)&&r3),t14s,(t14p+(Utf8.decode t14s t14p).2),rfl,hm⟩;exact cN (fun j=>bif j==1 then 1 else bif j==2 then 326 else bif j==3 then 3 else 0) (bJ _ _ (tG Z1 rfl Z7) (wV (wV (wV (wV (wV (wV (wO (wO (wV dO)))))))))) (hW (cX (iB Z3) (eU CFs (eU (CFl CFs) cR))))
    · refine AWp.skip ?_;refine tN ?_;refine ⟨_,?_,dU,cO,dS,eP,cZ,eG,((t14p:Nat):Int),(((Utf8.decode t14s t14p).1:Nat):Int),((!cZ)&&r3),t14s,(t14p+(Utf8.decode t14s t14p).2),rfl,hm⟩;exact cN (fun j=>bif j==1 then 1 else bif j==2 then 2 else bif j==3 then 3 else 0) (bJ _ _ (tG Z1 rfl Z7) (wV (wV (wV (wV (wV (wV (wO (wO (wV dO)))))))))) (hW (cX (iB Z3) (eU CFs (eU (CFl CFs) cR))))
   ·
    rintro s ⟨dU,cO,dS,eP,cZ,eG,bCw,aV3,aBk,t14s,t14p,rfl,hm⟩;unfold aA4 at hm;refine AWp.seqJ (fun s=> ∃(dU:ByteArray) (cO:List (List ByteArray)) (dS:List ByteArray) (eP:Int) (cZ:Bool) (eG:Int) (t14s:ByteArray) (t14p:Nat),s=(⟨80,(aF (aF (aF (aF (aF (aF (aF (fun _=>AV.any) 0 (.v (.string dU))) 5 (.own 1 0 cO.length)) 6 (.own 2 0 dS.length)) 7 (.v (.int .i64 eP))) 8 (.v (.bool cZ))) 9 (.v (.int .i64 eG))) 14 (.adr 3 0)),⟨(upd (upd (upd bD 1 (.cells 1 (cO.flatMap (csl lR)) 0)) 2 (.cells 1 (dS.flatMap lR) 0)) 3 (.iter t14s t14p)),64⟩⟩:St)∧nE (rO n1) dU cO dS eP cZ eG t14s t14p=some r) ?_ ?_
    ·
     refine AWp.block ?_;refine sr (N':=128) rfl ?_
     iterate 3 refine pA ?_
     refine fs ?_;refine AWp.condM hm Z1 (fun _ hm=>?_) (fun _ hm=>?_)
     ·
      refine AWp.seq' ?_;refine AWp.weaken (aI2 CFs 6 2 Z1 Z3 Z6) ?_;refine AWp.reg 64 (N':=192) rfl ?_
      iterate 2 refine pA ?_
      refine hp (id:=130) rfl rfl (jF (CFl CFs) (l:=[dS]) underlying65 bNw bOf Z5 Zd Zd Zd (by simp only [go_sem,Nat.reduceBEq];try rfl) (by kernel_rfl)) ?_;obtain ⟨l5,h4,hm⟩:=bnd hm;refine hp (id:=131) rfl rfl (yA (CFl CFs) underlying65 underlying65 rfl bMx bO1 (by rw [bDk];decide) (by rw [bDk];decide) bO5 Zd Zd Z1 Z3 Z6 (aBv (CFl CFs) Z1 Z3 Z6) rfl Z5 h4) ?_;refine pA ?_;refine fs ?_;refine sr (N':=256) rfl ?_;refine pA ?_;refine fs ?_;refine AWp.reg 64 (N':=320) rfl ?_;refine pA ?_;refine aV.fin ?_;refine hY ?_;refine tN ?_;refine ⟨_,?_,dU,l5,[],eP,false,eG,t14s,t14p,rfl,hm⟩;refine St.Le.trans (sL 6 900006 1 Z1 Z5) ?_;exact cN (fun j=>bif j==1 then 131 else bif j==2 then 900006 else bif j==3 then 3 else 0) (bJ _ _ (tG Z1 rfl Z7) (wV (wV (wV (wO (wO (wV dO))))))) (hW (cX (iB Z3) (eU CFs (eU (CFl CFs) cR))))
     ·
      refine sr (N':=192) rfl ?_
      iterate 10 first|refine pA ?_|refine pB ?_
      refine fs ?_;refine AWp.condM hm Z1 (fun _ hm=>?_) (fun _ hm=>?_)
      · refine AWp.skip ?_;refine hY ?_;refine tN ?_;refine ⟨_,?_,dU,cO,dS,eP,cZ,eG,t14s,t14p,rfl,hm⟩;exact cN (fun j=>bif j==1 then 1 else bif j==2 then 2 else bif j==3 then 3 else 0) (bJ _ _ (tG Z1 rfl Z7) (wV (wV (wV (wO (wO (wV dO))))))) (hW (cX (iB Z3) (eU CFs (eU (CFl CFs) cR))))
      ·
       refine sr (N':=256) rfl ?_
       iterate 3 refine pA ?_
       refine fs ?_;refine AWp.condM hm Z1 (fun _ hm=>?_) (fun _ hm=>?_)
       · refine AWp.reg 64 (N':=320) rfl ?_;refine pA ?_;refine aV.fin ?_;refine hY ?_;refine tN ?_;refine ⟨_,?_,dU,cO,dS,eP,true,eG,t14s,t14p,rfl,hm⟩;exact cN (fun j=>bif j==1 then 1 else bif j==2 then 2 else bif j==3 then 3 else 0) (bJ _ _ (tG Z1 rfl Z7) (wV (wV (wV (wO (wO (wV dO))))))) (hW (cX (iB Z3) (eU CFs (eU (CFl CFs) cR))))
       ·
        refine sr (N':=320) rfl ?_
        iterate 3 refine pA ?_
        refine fs ?_;refine AWp.condM hm Z1 (fun _ hm=>?_) (fun _ hm=>?_)
        ·
         refine sr (N':=384) rfl ?_
         iterate 4 refine pA ?_
         refine fs ?_;refine AWp.ret ?_;refine qF ?_;refine aYj ?_;refine qF ?_;refine qW ?_;refine qF ?_;refine iD ?_;cases hm;exact aZq (.inr rfl) Tryz.results68 (tdn Z1) (td Z1 (.v _)) (td Z1 (.v _))
        ·
         refine sr (N':=384) rfl ?_
         iterate 3 refine pA ?_
         refine fs ?_;refine AWp.condM hm Z1 (fun _ hm=>?_) (fun _ hm=>?_)
         ·
          refine AWp.reg 64 (N':=448) rfl ?_
          iterate 2 refine pA ?_
          refine aV.fin ?_;refine hY ?_;refine tN ?_;refine ⟨_,?_,dU,cO,dS,bCw,cZ,eG,t14s,t14p,rfl,hm⟩;exact cN (fun j=>bif j==1 then 1 else bif j==2 then 2 else bif j==3 then 3 else 0) (bJ _ _ (tG Z1 rfl Z7) (wV (wV (wV (wO (wO (wV dO))))))) (hW (cX (iB Z3) (eU CFs (eU (CFl CFs) cR))))
         · refine AWp.skip ?_;refine hY ?_;refine tN ?_;refine ⟨_,?_,dU,cO,dS,eP,cZ,eG,t14s,t14p,rfl,hm⟩;exact cN (fun j=>bif j==1 then 1 else bif j==2 then 2 else bif j==3 then 3 else 0) (bJ _ _ (tG Z1 rfl Z7) (wV (wV (wV (wO (wO (wV dO))))))) (hW (cX (iB Z3) (eU CFs (eU (CFl CFs) cR))))
    ·
     rintro s ⟨dU,cO,dS,eP,cZ,eG,t14s,t14p,rfl,hm⟩;unfold nE at hm;refine AWp.reg 64 (N':=128) rfl ?_
     iterate 3 refine pA ?_
     refine aV.fin ?_;refine hY ?_;refine fK ?_;refine ⟨_,?_,dU,cO,dS,eP,cZ,(IntKind.i64.wrap (eG+1)),t14s,t14p,rfl,hm⟩;exact cN (fun j=>bif j==1 then 1 else bif j==2 then 2 else bif j==3 then 3 else 0) (bJ _ _ (tG Z1 rfl Z7) (wV (wV (wV (wO (wO (wV dO))))))) (hW (cX (iB Z3) (eU CFs (eU (CFl CFs) cR))))
  ·
   refine hp (id:=64) rfl rfl (aAm Z1 Z3 (of_decide_eq_false h1)) ?_;refine pA ?_;refine fs ?_;refine AWp.seq' ?_;refine AWp.condF Z1 ?_;refine AWp.exit ?_;refine iH ?_;refine fO ?_;refine fN ?_;refine bM ?_;refine AWp.seqJ (fun s=> ∃(cO:List (List ByteArray)) (dS:List ByteArray),s=(⟨80,(aF (aF (fun _=>AV.any) 5 (.own 1 0 cO.length)) 6 (.own 2 0 dS.length)),⟨(upd (upd bD 1 (.cells 1 (cO.flatMap (csl lR)) 0)) 2 (.cells 1 (dS.flatMap lR) 0)),64⟩⟩:St)∧aA5 cO dS=some r) ?_ ?_
   ·
    refine sr (N':=192) rfl ?_
    iterate 2 refine pA ?_
    refine fs ?_;refine AWp.condM hm Z1 (fun _ hm=>?_) (fun _ hm=>?_)
    ·
     refine AWp.reg 64 (N':=256) rfl ?_
     iterate 3 refine pA ?_
     obtain ⟨l13,h12,hm⟩:=bnd hm;refine pu rfl (aZ7 underlying9 Z1 (aBp Z1 (aYl h12).1) (aQy _) h12) ?_;refine hp (id:=196) rfl rfl (jF CFs (l:=[l13]) underlying69 sz9 zc9 Z5 Zd Zd Zd (by simp only [go_sem,Nat.reduceBEq];try rfl) (by kernel_rfl)) ?_;obtain ⟨l15,h14,hm⟩:=bnd hm;refine hp (id:=197) rfl rfl (yA CFs underlying69 underlying69 rfl in9 ts9 (by rw [tb9];decide) (by rw [tb9];decide) tz9 Zd Zd Z1 Z3 Z6 (aBv CFs Z1 Z3 Z6) rfl Z5 h14) ?_;refine pA ?_;refine aV.fin ?_;refine tN ?_;refine ⟨_,?_,cO,l15,rfl,hm⟩;exact cN (fun j=>bif j==1 then 1 else bif j==2 then 197 else 0) (wO (wO dO)) (hW (eU CFs (eU (CFl CFs) cR)))
    · refine AWp.skip ?_;refine tN ?_;refine ⟨_,?_,cO,dS,rfl,hm⟩;exact cN (fun j=>bif j==1 then 1 else bif j==2 then 2 else 0) (wO (wO dO)) (hW (eU CFs (eU (CFl CFs) cR)))
   ·
    rintro s ⟨cO,dS,rfl,hm⟩;unfold aA5 at hm;refine AWp.seq' ?_;refine AWp.weaken (aI2 CFs 6 2 Z1 Z3 Z6) ?_;refine AWp.reg 64 (N':=128) rfl ?_
    iterate 2 refine pA ?_
    refine hp (id:=66) rfl rfl (jF (CFl CFs) (l:=[dS]) underlying65 bNw bOf Z5 Zd Zd Zd (by simp only [go_sem,Nat.reduceBEq];try rfl) (by kernel_rfl)) ?_;obtain ⟨l11,h10,hm⟩:=bnd hm;refine hp (id:=67) rfl rfl (yA (CFl CFs) underlying65 underlying65 rfl bMx bO1 (by rw [bDk];decide) (by rw [bDk];decide) bO5 Zd Zd Z1 Z3 Z6 (aBv (CFl CFs) Z1 Z3 Z6) rfl Z5 h10) ?_
    iterate 3 refine pA ?_
    refine fs ?_;refine AWp.ret ?_;cases hm;exact aZq (.inr rfl) Tryz.results68 (tdo (CFl CFs) Z1 Z3 Z6) (td Z1 (.v _)) (td Z1 (.v _))
instance:Ct prog 68 (K1 prog vs (t3 (vl (csl lR)) vi vi) 68 qY):=⟨fun hm=>aGk hm⟩
attribute [local semireducible] bF
end Go.Proofs.YtkdohhmacfoolaaGreatDoor
