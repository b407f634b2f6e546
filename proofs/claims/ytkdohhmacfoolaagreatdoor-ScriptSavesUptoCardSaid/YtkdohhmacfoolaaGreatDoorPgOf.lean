/- Facts. No condition. -/
import Derived.Test.YtkdohhmacfoolaaGreatDoorPgPw
import Derived.Test.YtkdohhmacfoolaaGreatDoorPgFb
set_option linter.unusedVariables false
set_option linter.unusedSimpArgs false
set_option maxRecDepth 20000
set_option maxHeartbeats 4000000
namespace Go.Proofs.YtkdohhmacfoolaaGreatDoor
open Go.Proofs.Tryz Go Go.AM
structure aE where
  U:Int
  V:Int
  Tier:Int
deriving DecidableEq
def aV(e:aE):List AV:=[.v (.int .i64 e.U),.v (.int .i64 e.V),.v (.int .i64 e.Tier)]
theorem cL:CF aV 3:=⟨fun _=>rfl,fun a x hx=>by
  simp only [aV,List.mem_cons,List.not_mem_nil,or_false] at hx;rcases hx with rfl|rfl|rfl
  · exact (.v _)
  · exact (.v _)
  · exact (.v _),fun _=>rfl⟩
instance:CC aV 3:=⟨cL⟩
abbrev aFs(e:aE):AV:= .agg [.v (.int .i64 e.U),vi e.V,vi e.Tier]
instance:CE prog 28 aV 3 (aE.mk 0 0 0):=⟨_,underlying28,aNu,aZ4,inferInstance,cL,by decide,by decide⟩
@[go_sem] theorem bD4(e:aE)(r:List AV):aV e++r= .v (.int .i64 e.U):: .v (.int .i64 e.V):: .v (.int .i64 e.Tier)::r:=rfl
@[go_sem] theorem bNr(i o:Nat):aI prog 61 (.adr i o) 0=some (.adr i (o+0)):=by kernel_rfl
@[go_sem] theorem bNs(i o:Nat):aI prog 61 (.adr i o) 1=some (.adr i (o+1)):=by kernel_rfl
@[go_sem] theorem cA1(H:aH)(x:AV)(xs:List AV):bT prog H 3 (.ptr (x::xs))=some x:=by kernel_rfl
@[go_sem] theorem bXg(H:aH)(x0 x1 x2:AV)(xs:List AV):bT prog H 61 (.ptr (x0::x1::x2::xs))=some (.agg [x0,x1,x2]):=by kernel_rfl
def vY(rec1:List Int→Int→Int→Option ((List Int)))(p_3:List Int)(t8:Int)(t9:Int):Option ((List Int)):=
  (bif (decide (t9<t8)) then
    ((idx p_3 t9).bind fun x4=>
    ((stt p_3 t9 t9).bind fun l6=>
    rec1 l6 t8 (IntKind.i64.wrap (t9+1))))
  else
    some p_3)
def rR:Nat→List Int→Int→Int→Option ((List Int))
  |0=>fun _ _ _=>none
  |n+1=>vY (rR n)
def uT(n_0:Int):Option ((List Int)):=
  ((mkc n_0 n_0 0).bind fun l2=>
  rR aY l2 (l2.length:Int) 0)
theorem aY5{n_0:Int}{r:(List Int)}(hm:uT n_0=some r):fP prog 103 [.v (.int .i64 n_0)] 1 (r.flatMap (ci .i64)) r.length:=by
  refine fP.of_body func103 rfl ((CFi .i64).fmdat r) ?_;simp only [ntmps103,List.length_cons,List.length_nil,Nat.reduceAdd,Nat.reduceSub,iO];unfold uT at hm;refine sN 64 (pu rfl (by simp only [go_sem,Nat.reduceBEq];try with_reducible rfl) ?_);refine fs (sN 128 (pu rfl (by simp only [go_sem,Nat.reduceBEq];try with_reducible rfl) ?_));obtain ⟨l2,h1,hm⟩:=bnd hm;refine hp (id:=65) rfl rfl (bFu (CFi .i64) (z:=0) underlying56 in3 (zc3) (by rw [tb3];decide) ts3 (by decide) (by simp only [dV,kZ,Nat.reduceBEq,cond_true,cond_false]) (by try simp only [go_sem,Nat.reduceBEq];try rfl) (by try simp only [go_sem,Nat.reduceBEq];try rfl) h1) ?_;refine pu rfl (by simp only [go_sem,Nat.reduceBEq];try with_reducible rfl) ?_;refine fs (AWp.seq' (sN 192 ?_))
  iterate 3 refine pu rfl (by simp only [go_sem,Nat.reduceBEq];try with_reducible rfl) ?_
  refine fs (AWp.block (AWp.loopM (fun m s=> ∃(p_3:List Int) (t8:Int) (t9:Int),s=(⟨18,(aF (aF (aF (fun _=>AV.any) 3 (.own 1 0 p_3.length)) 8 (.v (.int .i64 t8))) 9 (.v (.int .i64 t9))),⟨(upd aZ 1 (.cells 1 (p_3.flatMap (ci .i64)) 0)),64⟩⟩:St)∧rR m p_3 t8 t9=some r) aY ?_ ?_ ?_))
  · rintro s ⟨_,_,_,_,h⟩;cases h
  · refine ⟨_,?_,l2,(l2.length:Int),0,rfl,hm⟩;exact cP (fun j=>bif j==1 then 65 else 0) (bH _ _ (lR (by try simp only [go_sem,Nat.reduceBEq];try rfl) (.v _)) (bH _ _ (lR (by try simp only [go_sem,Nat.reduceBEq];try rfl) (.v _)) (bH _ _ (jG (by try simp only [go_sem,Nat.reduceBEq];try rfl) (by first|rfl|omega) rfl (by simp [upd])) dN))) (gN _ (cG (aH2 (CFi .i64) Zf rfl) cZ) (by repeat' (first|exact zK|exact zQ|refine jW ?_ ?_|refine qR ?_ ?_|exact .inl rfl|exact .inr (by decide))))
  · rintro n1 s ⟨p_3,t8,t9,rfl,hm⟩;replace hm:vY (rR n1) p_3 t8 t9=some r:=hm;unfold vY at hm;refine sN 128 (pu rfl (by simp only [go_sem,Nat.reduceBEq];try with_reducible rfl) ?_);refine fs (AWp.seq' (AWp.condM hm (by try simp only [go_sem,Nat.reduceBEq];try rfl) (fun _ hm=>?_) (fun _ hm=>?_)))
    · refine AWp.skip ?_;refine bQ (AWp.seq' (AWp.block (sN 192 ?_)))
      iterate 2 refine pu rfl (by simp only [go_sem,Nat.reduceBEq];try with_reducible rfl) ?_
      refine fs (AWp.reg 64 (N':=256) rfl ?_)
      iterate 3 refine pu rfl (by simp only [go_sem,Nat.reduceBEq];try with_reducible rfl) ?_
      obtain ⟨x4,h3,hm⟩:=bnd hm;refine pu rfl (iX underlying56 sz3 (by try simp only [go_sem,Nat.reduceBEq];try rfl) Zf (by first|rfl|omega) (by try simp only [go_sem,Nat.reduceBEq];try rfl) h3) ?_;obtain ⟨l6,h5,hm⟩:=bnd hm;have qh5:=nG h5;refine aR.heap0 (id:=196) rfl (aGl (CFi .i64) sz3 (by try simp only [go_sem,Nat.reduceBEq];try rfl) (by try simp only [go_sem,Nat.reduceBEq];try rfl) Zf rfl h5) ?_;refine aR.fin (jP (bQ (AWp.reg 64 (N':=320) rfl ?_)))
      iterate 2 refine pu rfl (by simp only [go_sem,Nat.reduceBEq];try with_reducible rfl) ?_
      refine aR.fin (iA ?_);refine ⟨_,?_,l6,t8,(IntKind.i64.wrap (t9+1)),rfl,hm⟩;exact cP (fun j=>bif j==1 then 1 else 0) (bH _ _ (lR (by try simp only [go_sem,Nat.reduceBEq];try rfl) (.v _)) (bH _ _ (lR (by try simp only [go_sem,Nat.reduceBEq];try rfl) (.v _)) (bH _ _ (jG (by try simp only [go_sem,Nat.reduceBEq];try rfl) (by first|rfl|omega) rfl (by simp [upd])) dN))) (gN _ (cG (aH2 (CFi .i64) Zf rfl) cZ) (by repeat' (first|exact zK|exact zQ|refine jW ?_ ?_|refine qR ?_ ?_|exact .inl rfl|exact .inr (by decide))))
    · refine AWp.exit ?_;refine kE (jA (iS (bQ (sN 192 ?_))))
      iterate 2 refine pu rfl (by simp only [go_sem,Nat.reduceBEq];try with_reducible rfl) ?_
      refine fs (AWp.ret ?_);cases hm;exact aNh (.inr rfl) Tryz.results103 (by try simp only [go_sem,Nat.reduceBEq];try rfl) Zf (by first|rfl|omega)
def jT(n_0:Int)(v_1:Int):Option (Bool):=
  some ((decide (0≤v_1))&&(decide (v_1<n_0)))
theorem aJd{n_0:Int}{v_1:Int}{r:Bool}(hm:jT n_0 v_1=some r):cE prog 104 [.v (.int .i64 n_0),.v (.int .i64 v_1)] (.v (.bool r)):=by
  refine cE.of_body func104 rfl ?_;simp only [ntmps104,List.length_cons,List.length_nil,Nat.reduceAdd,Nat.reduceSub,iO];unfold jT at hm;refine sN 64 (pu rfl (by simp only [go_sem,Nat.reduceBEq];try with_reducible rfl) ?_);refine fs (sN 128 ?_)
  iterate 8 (first|refine pu rfl (by simp only [go_sem,Nat.reduceBEq];try with_reducible rfl) ?_|refine pg rfl rfl (by simp only [go_sem,Nat.reduceBEq];try with_reducible rfl) (by intro hb;simp only [go_sem,Nat.reduceBEq,hb,Bool.true_and];try with_reducible rfl) ?_)
  refine fs (AWp.ret ?_);cases hm;exact aNg (.inr rfl) Tryz.results104 (td (by try simp only [go_sem,Nat.reduceBEq];try rfl) (.v _))
instance:Ct prog 104 (K2 prog vi vi vb 104 jT):=⟨fun hm=>aJd hm⟩
def aHq(p:List Int)(v:Int):Option Int:=(aHg p v).map (·.1)
def aGf(rec2:List Int→Int→Int→Option ((List Int)×Int))(p_6:List Int)(t56:Int)(t57:Int):Option ((List Int)×Int):=
  (bif (decide (t57<t56)) then
    ((idx p_6 t57).bind fun x18=>
    ((idx p_6 x18).bind fun x20=>
    ((idx p_6 t57).bind fun x22=>
    ((stt p_6 t57 x20).bind fun l24=>
    rec2 l24 t56 (IntKind.i64.wrap (t57+1))))))
  else
    some (p_6,0))
def aD2:Nat→List Int→Int→Int→Option ((List Int)×Int)
  |0=>fun _ _ _=>none
  |n+1=>aGf (aD2 n)
def aGe(rec1:Int→List Int→List aE→Int→Int→Option ((List Int)×Int))(n_0:Int)(p_6:List Int)(t20:List aE)(t21:Int)(t22:Int):Option ((List Int)×Int):=
  (bif (decide (t22<t21)) then
    ((idx t20 t22).bind fun x4=>
    ((jT n_0 x4.U).bind fun r6=>
    ((eJ ((!r6)==false) false (jT n_0 x4.V)).bind fun r8=>
    (bif ((!r6)||(!r8)) then
      some ([],1)
    else
      ((aHq p_6 x4.U).bind fun r10=>
      ((aHq p_6 x4.V).bind fun r12=>
      ((idx p_6 (if r10<r12 then r12 else r10)).bind fun x14=>
      ((stt p_6 (if r10<r12 then r12 else r10) (if r12<r10 then r12 else r10)).bind fun l16=>
      rec1 n_0 l16 t20 t21 (IntKind.i64.wrap (t22+1))))))))))
  else
    aD2 aY p_6 (p_6.length:Int) 0)
def uS:Nat→Int→List Int→List aE→Int→Int→Option ((List Int)×Int)
  |0=>fun _ _ _ _ _=>none
  |n+1=>aGe (uS n)
def vX(n_0:Int)(l_1:List aE):Option ((List Int)×Int):=
  (bif ((decide (n_0<0))||(decide (1024<n_0))) then
    some ([],1)
  else
    ((uT n_0).bind fun r2=>
    uS aY n_0 r2 l_1 (l_1.length:Int) 0))
open Go.Pl Go.Pt
def en(l:List aE):List E:=l.map fun e=>(e.U,e.V)
def Good(p:List Int)(f:Int→Int):Prop:= ∀x:Nat,x<p.length→ ∃y:Nat,p[x]? =some (y:Int)∧y≤x∧f y=f x∧(y=x→f x=x)
theorem Good.facts{p:List Int}{f:Int→Int}(h:Good p f): ∀x:Nat,x<p.length→ ∃y:Nat,f x=y∧y≤x∧f y=y∧p[y]? =some (y:Int):=by
  intro x
  induction x using Nat.strongRecOn with
  |_ x ih=>
    intro hx;obtain ⟨y,h1,h2,h3,h4⟩:=h x hx
    by_cases e:y=x
    · subst e;exact ⟨y,h4 rfl,Nat.le_refl _,h4 rfl,h1⟩
    · obtain ⟨z,k1,k2,k3,k4⟩:=ih y om om;exact ⟨z,by rw [←h3,k1],by omega,k3,k4⟩
theorem Good.set{p:List Int}{f:Int→Int}(h:Good p f){v z:Nat}(hv:v<p.length)(hz:z≤v)(hf:f z=f v)(he:z=v→f v=v):Good (p.set v (z:Int)) f:=by
  intro x hx;rw [List.length_set] at hx
  by_cases e:x=v
  · subst e;exact ⟨z,by simp [hx],hz,hf,he⟩
  · obtain ⟨y,h1,h2⟩:=h x hx;exact ⟨y,by rw [List.getElem?_set_ne (fun h=>e h.symm)];exact h1,h2⟩
theorem Good.root{f:Int→Int} : ∀(k v:Nat) (p:List Int),Good p f→v<k→v<p.length→ ∃p',yJ k p (v:Int)=some (f v,p')∧Good p' f∧p'.length=p.length
  |0,v,p,_,hk,_=>by omega
  |k+1,v,p,h,hk,hv=>by
    obtain ⟨y,h1,h2,h3,h4⟩:=h v hv;show ∃p',aBk (yJ k) p (v:Int)=_∧_;unfold aBk;rw [mD,h1,aA]
    by_cases e:y=v
    · subst e;refine ⟨p,?_,h,rfl⟩;rw [bf (by simp),h4 rfl]
    · obtain ⟨z,k1,k2,k3,k4⟩:=h y om;rw [bt (by simp;omega),aA,mD,k1,aA,aA,uZ hv,aA,mD];have e2:(p.set v (z:Int))[v]? =some (z:Int):=by simp [hv]
      rw [e2,aA];have hg:Good (p.set v (z:Int)) f:=h.set hv om (by rw [k3,h3]) (fun e=>by omega);obtain ⟨p',q1,q2,q3⟩:=Good.root k z _ hg om (by rw [List.length_set];omega);refine ⟨p',?_,q2,by rw [q3,List.length_set]⟩;rw [q1,k3,h3]
theorem aNi{p:List Int}{f:Int→Int}(h:Good p f)(hl:p.length≤1024){v:Int}(h0:0≤v)(hv:v<p.length):
    ∃p',aHg p v=some (f v,p')∧Good p' f∧p'.length=p.length:=by
  obtain ⟨k,rfl⟩:=Int.eq_ofNat_of_zero_le h0;have:=aMc;exact Good.root aY k p h om om
theorem Good.join{p:List Int}{f:Int→Int}(h:Good p f){u v:Int}(hu:0≤u∧u<p.length)(hv:0≤v∧v<p.length):
    ∃a b:Nat,f u=a∧f v=b∧a<p.length∧b<p.length∧Good (p.set (max a b) ((min a b:Nat):Int)) (aBd f u v):=by
  obtain ⟨i,rfl⟩:=Int.eq_ofNat_of_zero_le hu.1;obtain ⟨j,rfl⟩:=Int.eq_ofNat_of_zero_le hv.1;obtain ⟨a,a1,a2,a3,a4⟩:=h.facts i om;obtain ⟨b,b1,b2,b3,b4⟩:=h.facts j om;refine ⟨a,b,a1,b1,by omega,by omega,?_⟩;intro x hx;rw [List.length_set] at hx
  have e: ∀x:Int,aBd f i j x=if f x=((max a b:Nat):Int) then ((min a b:Nat):Int) else f x:=by
    intro x;unfold aBd;rw [a1,b1,show max (a:Int) (b:Int)=((max a b:Nat):Int) by omega,show min (a:Int) (b:Int)=((min a b:Nat):Int) by omega]
  have fM:f ((max a b:Nat):Int)=((max a b:Nat):Int):=by
    rcases Nat.le_total a b with q|q
    · rw [Nat.max_eq_right q,b3]
    · rw [Nat.max_eq_left q,a3]
  have fm:f ((min a b:Nat):Int)=((min a b:Nat):Int):=by
    rcases Nat.le_total a b with q|q
    · rw [Nat.min_eq_left q,a3]
    · rw [Nat.min_eq_right q,b3]
  by_cases c:x=max a b
  · subst c;refine ⟨min a b,by simp [hx],by omega,?_,fun hh=>?_⟩
    · rw [e,e,fM,fm,if_pos rfl];split<;>rfl
    · rw [e,fM,if_pos rfl,hh]
  · obtain ⟨y,h1,h2,h3,h4⟩:=h x hx;refine ⟨y,by rw [List.getElem?_set_ne (fun h=>c h.symm)];exact h1,h2,by rw [e,e,h3],fun hh=>?_⟩;have:=h4 hh;rw [e,this,if_neg om]
theorem bGc{f:Int→Int} : ∀(m i:Nat) (p:List Int),Good p f→p.length≤1024→i≤p.length→(∀x:Nat,x<i→p[x]? =some (f x))→
    aD2 m p (p.length:Int) (i:Int)=if p.length<i+m then some (tab p.length f,0) else none
  |0,i,p,h,hl,hi,hp=>by rw [if_neg om];rfl
  |m+1,i,p,h,hl,hi,hp=>by
    show aGf (aD2 m) p _ _=_;unfold aGf
    by_cases c:i<p.length
    · rw [bt (by simp;omega)];obtain ⟨y,h1,h2,h3,h4⟩:=h i c
      have e:p[y]? =some (f i):=by
        by_cases q:y=i
        · subst q;rw [h1,h4 rfl]
        · rw [hp y om,h3]
      obtain ⟨z,z1,z2,z3,z4⟩:=h.facts i c;rw [mD,h1,aA,mD,e,aA,aA,uZ c,aA,wr1 i om];have hg:Good (p.set i (f i)) f:=by rw [z1];exact h.set c z2 (by rw [z3,z1]) (fun q=>by rw [z1,q])
      have:=bGc m (i+1) (p.set i (f i)) hg (by rw [List.length_set];exact hl) (by rw [List.length_set];omega) (fun x hx=>by
        by_cases q:x=i
        · subst q;simp [c]
        · rw [List.getElem?_set_ne (fun h=>q h.symm)];exact hp x om)
      rw [List.length_set] at this;rw [this]
      by_cases k:p.length<i+1+m
      · rw [if_pos k,if_pos om]
      · rw [if_neg k,if_neg om]
    · rw [bf (by simp;omega),if_pos om];congr 2;exact bDn (by simp) fun k hk=>hp k om
def ofL(n:Int):Nat→(Int→Int)→List aE→Option (List Int×Int)
  |0,_,_=>none
  |_+1,f,[]=>some (tab n f,0)
  |m+1,f,e::l=>if 0≤e.U∧e.U<n∧0≤e.V∧e.V<n then ofL n m (aBd f e.U e.V) l else some ([],1)
theorem round_eq{n:Int}(hn:0≤n)(hn':n≤1024)(l:List aE): ∀(m i:Nat) (p:List Int) (f:Int→Int),Good p f→p.length=n.toNat→i≤l.length→i+m≤aY→
    uS m n p l (l.length:Int) (i:Int)=ofL n m f (l.drop i)
  |0,i,p,f,_,_,_,_=>by rfl
  |m+1,i,p,f,h,hp,hi,hF=>by
    have hF':aY=1000000000000:=rfl;show aGe (uS m) n p l _ _=_;unfold aGe
    by_cases c:i<l.length
    · rw [bt (by simp;omega),cN c,aA,dZ c];unfold jT;rw [aA]
      have goal: ∀e:aE,((eJ ((!(decide (0≤e.U)&&decide (e.U<n)))==false) false (some (decide (0≤e.V)&&decide (e.V<n)))).bind fun r8=>
          (bif ((!(decide (0≤e.U)&&decide (e.U<n)))||(!r8)) then some (([]:List Int),(1:Int)) else
          ((aHq p e.U).bind fun r10=>((aHq p e.V).bind fun r12=>((idx p (if r10<r12 then r12 else r10)).bind fun x14=>
          ((stt p (if r10<r12 then r12 else r10) (if r12<r10 then r12 else r10)).bind fun l16=>uS m n l16 l (l.length:Int) (IntKind.i64.wrap ((i:Int)+1))))))))=ofL n (m+1) f (e::l.drop (i+1)):=by
        intro e;unfold ofL
        by_cases hu:0≤e.U∧e.U<n
        · rw [gt' (by simp [hu]),aA]
          by_cases hv:0≤e.V∧e.V<n
          · rw [bf (by simp [hu,hv]),if_pos ⟨hu.1,hu.2,hv.1,hv.2⟩];obtain ⟨p1,q1,_,_⟩:=aNi h om hu.1 om;obtain ⟨p2,q2,_,_⟩:=aNi h om hv.1 om;obtain ⟨a,b,j1,j2,j3,j4,j5⟩:=h.join (u:=e.U) (v:=e.V) ⟨hu.1,by omega⟩ ⟨hv.1,by omega⟩;unfold aHq;rw [q1,q2,Option.map_some,aA,Option.map_some,aA];simp only [j1,j2];have e1:(if (a:Int)<(b:Int) then (b:Int) else (a:Int))=((max a b:Nat):Int):=by split<;>omega
            have e2:(if (b:Int)<(a:Int) then (b:Int) else (a:Int))=((min a b:Nat):Int):=by split<;>omega
            rw [e1,e2,cN om,aA,uZ om,aA,wr1 i om];exact round_eq hn hn' l m (i+1) _ _ j5 (by rw [List.length_set];exact hp) c om
          · rw [bt (by simp;right;omega),if_neg (fun q=>hv ⟨q.2.2.1,q.2.2.2⟩)]
        · rw [gf' (by simp;omega),aA,bt (by simp),if_neg (fun q=>hu ⟨q.1,q.2.1⟩)]
      exact goal _
    · rw [bf (by simp;omega),List.drop_eq_nil_of_le om];have:=aMc;have:=bGc aY 0 p h om (Nat.zero_le _) (fun x hx=>by omega);rw [if_pos om] at this;rw [show (0:Int)=((0:Nat):Int) from rfl,this];show some (tab (p.length:Int) f,_)=some (tab n f,_);rw [show (p.length:Int)=n by omega]
theorem aW7{n:Int}(h0:0≤n)(hn:n≤1024):uT n=some (tab n id):=by
  have key: ∀(m i:Nat) (p:List Int),p.length=n.toNat→i≤p.length→p.length<i+m→(∀x:Nat,x<i→p[x]? =some (x:Int))→rR m p (p.length:Int) (i:Int)=some (tab n id):=by
    intro m
    induction m with
    |zero=>intro i p _ _ h;omega
    |succ m ih=>
      intro i p hp hi hm hx;show vY (rR m) p _ _=_;unfold vY
      by_cases c:i<p.length
      · rw [bt (by simp;omega),cN c,aA,uZ c,aA,wr1 i om]
        have:=ih (i+1) (p.set i (i:Int)) (by rw [List.length_set];exact hp) (by rw [List.length_set];exact c) (by rw [List.length_set];omega) (fun x hx'=>by
          by_cases q:x=i
          · subst q;simp [c]
          · rw [List.getElem?_set_ne (fun h=>q h.symm)];exact hx x om)
        rw [List.length_set] at this;exact this
      · rw [bf (by simp;omega)];congr 1;exact bDn hp fun k hk=>hx k om
  unfold uT;rw [bEs h0 om,aA];have:=aMc;exact key aY 0 _ (by simp) (by simp) (by simp;omega) (fun x hx=>by omega)
theorem Good.start{n:Int}(h0:0≤n):Good (tab n id) id:=by
  intro x hx;rw [aCx] at hx;exact ⟨x,by rw [aRj om];rfl,Nat.le_refl _,rfl,fun _=>rfl⟩
def OfI(m:Nat)(n:Int)(p:List Int)(l:List aE)(a i:Int):Prop:=
  0≤n∧n≤1024∧p.length=n.toNat∧a=l.length∧ ∃(f:Int→Int) (k:Nat),Good p f∧i=k∧k≤l.length∧k+m≤aY
def OfJ(f:Int→Int)(len:Nat)(xs:List AV):Prop:= ∃q:List Int,xs=q.flatMap (ci .i64)∧q.length=len∧Good q f
theorem OfI.start{n:Int}{r2:List Int}{l:List aE}(hc:((decide (n<0))||(decide (1024<n)))=false)(h:uT n=some r2):OfI aY n r2 l (l.length:Int) 0:=by
  simp at hc;rw [aW7 hc.1 hc.2] at h;cases h;exact ⟨hc.1,hc.2,aCx _ _,rfl,id,0,Good.start hc.1,rfl,Nat.zero_le _,by omega⟩
theorem bPl{n u v:Int}{r6 r8:Bool}(h5:jT n u=some r6)(h7:(eJ ((!r6)==false) false (jT n v))=some r8)(hc:((!r6)||(!r8))=false):0≤u∧u<n∧0≤v∧v<n:=by
  simp at hc;obtain ⟨rfl,rfl⟩:=hc;rw [gt' (by simp)] at h7;unfold jT at h5 h7;simp at h5 h7;exact ⟨h5.1,h5.2,h7.1,h7.2⟩
theorem aW5{p:List Int}{f:Int→Int}(h:Good p f)(hl:p.length≤1024){v r:Int}(h0:0≤v)(hv:v<p.length)(hr:aHq p v=some r):r=f v:=by
  obtain ⟨p',h1,_,_⟩:=aNi h hl h0 hv;unfold aHq at hr;rw [h1] at hr;cases hr;rfl
theorem joined{p:List Int}{f:Int→Int}(h:Good p f)(hl:p.length≤1024){u v:Int}(hu:0≤u∧u<p.length)(hv:0≤v∧v<p.length):
    ∃l16,(∀ {R:Type} (k:List Int→Option R),((idx p (if f u<f v then f v else f u)).bind fun x14=>((stt p (if f u<f v then f v else f u) (if f v<f u then f v else f u)).bind k))=k l16)∧l16.length=p.length∧Good l16 (aBd f u v):=by
  obtain ⟨a,b,j1,j2,j3,j4,j5⟩:=h.join hu hv;refine ⟨_,fun k=>?_,by rw [List.length_set],j5⟩;have e1:(if (a:Int)<(b:Int) then (b:Int) else (a:Int))=((max a b:Nat):Int):=by split<;>omega
  have e2:(if (b:Int)<(a:Int) then (b:Int) else (a:Int))=((min a b:Nat):Int):=by split<;>omega
  rw [j1,j2,e1,e2,cN om,aA,uZ om,aA]
theorem bFc{n:Int}{p q:List Int}{f:Int→Int}{l:List aE}{a i:Int}{m:Nat}(hI:OfI (m+1) n p l a i)(hi:i<a)(hp:Good p f)(hq:Good q f)(hlq:q.length=p.length){u v:Int}(hu:0≤u∧u<n∧0≤v∧v<n){r10 r12:Int}(e1:r10=f u)(e2:r12=f v):
    ((idx p (if r10<r12 then r12 else r10)).bind fun x14=>((stt p (if r10<r12 then r12 else r10) (if r12<r10 then r12 else r10)).bind fun l16=>uS m n l16 l a (IntKind.i64.wrap (i+1))))=
    ((idx q (if r10<r12 then r12 else r10)).bind fun x14=>((stt q (if r10<r12 then r12 else r10) (if r12<r10 then r12 else r10)).bind fun l16=>uS m n l16 l a (IntKind.i64.wrap (i+1)))):=by
  obtain ⟨h1,h2,h3,rfl,_,k,_,rfl,h5,h6⟩:=hI;have hF':aY=1000000000000:=rfl;subst e1 e2;obtain ⟨l1,a1,a2,a3⟩:=joined hp om (u:=u) (v:=v) ⟨hu.1,by omega⟩ ⟨hu.2.2.1,by omega⟩;obtain ⟨l2,b1,b2,b3⟩:=joined hq om (u:=u) (v:=v) ⟨hu.1,by omega⟩ ⟨hu.2.2.1,by omega⟩;rw [a1,b1,wr1 k om];rw [round_eq h1 h2 l m (k+1) _ _ a3 om om om,round_eq h1 h2 l m (k+1) _ _ b3 om om om]
theorem OfI.step{n:Int}{p q l16:List Int}{f:Int→Int}{l:List aE}{a i:Int}{m:Nat}(hI:OfI (m+1) n p l a i)(hi:i<a)(hq:Good q f)(hlq:q.length=p.length){u v:Int}(hu:0≤u∧u<n∧0≤v∧v<n){r10 r12:Int}(e1:r10=f u)(e2:r12=f v)
    (h15:stt q (if r10<r12 then r12 else r10) (if r12<r10 then r12 else r10)=some l16):OfI m n l16 l a (IntKind.i64.wrap (i+1)):=by
  obtain ⟨h1,h2,h3,rfl,_,k,_,rfl,h5,h6⟩:=hI;have hF':aY=1000000000000:=rfl;subst e1 e2;obtain ⟨l2,b1,b2,b3⟩:=joined hq om (u:=u) (v:=v) ⟨hu.1,by omega⟩ ⟨hu.2.2.1,by omega⟩;obtain ⟨a',b',j1,j2,j3,j4,j5⟩:=hq.join (u:=u) (v:=v) ⟨hu.1,by omega⟩ ⟨hu.2.2.1,by omega⟩
  have:l16=l2:=by
    have:=b1 (R:=List Int) some;rw [h15] at this;have e1:(if f u<f v then f v else f u)=((max a' b':Nat):Int):=by rw [j1,j2];split<;>omega
    rw [e1,cN om] at this;cases this;rfl
  subst this;refine ⟨h1,h2,by omega,rfl,_,k+1,b3,wr1 k om,by omega,by omega⟩
theorem bBm{f:Int→Int}{len:Nat}{v:Int}(hl:len≤1024)(h0:0≤v)(hv:v<len){H:aH}{i0:Nat}(he:H.ent i0= .hid 1 (OfJ f len)):
    eK prog 105 [.own i0 0 len,.v (.int .i64 v)] H (.v (.int .i64 (f v))) H:=by
  refine eK.hid ?_ he;rintro xs ⟨q,rfl,rfl,hg⟩;obtain ⟨p',h1,h2,h3⟩:=aNi hg hl h0 hv;exact ⟨p'.flatMap (ci .i64),⟨p',rfl,h3,h2⟩,(CFi .i64).fmdat p',fun H he=>bEz h1 he⟩
theorem bXu{n:Int}(l:List aE): ∀(f:Int→Int) (m:Nat),l.length<m→ofL n m f l=if ∀e,e∈l→0≤e.U∧e.U<n∧0≤e.V∧e.V<n then some (tab n ((en l).foldl (fun p e=>aBd p e.1 e.2) f),0) else some ([],1):=by
  induction l with
  |nil=>intro f m h;cases m with
    |zero=>omega
    |succ m=>rw [if_pos (by simp)];rfl
  |cons e l ih=>
    intro f m h
    cases m with
    |zero=>omega
    |succ m=>
      unfold ofL
      by_cases c:0≤e.U∧e.U<n∧0≤e.V∧e.V<n
      · rw [if_pos c,ih _ _ (by simpa using h)]
        by_cases d: ∀e,e∈l→0≤e.U∧e.U<n∧0≤e.V∧e.V<n
        · rw [if_pos d,if_pos (by intro x hx;rcases List.mem_cons.1 hx with h|h;(subst h;exact c);exact d x h)];rfl
        · rw [if_neg d,if_neg (fun q=>d fun x hx=>q x (List.mem_cons_of_mem _ hx))]
      · rw [if_neg c,if_neg (fun q=>c (q e (by simp)))]
theorem bL5{n:Int}{l:List aE}(hl:l.length<1000000000):
    vX n l=if 0≤n∧n≤1024∧ ∀e,e∈l→0≤e.U∧e.U<n∧0≤e.V∧e.V<n then some (tab n (jB (en l)),0) else some ([],1):=by
  have:=aMc;unfold vX
  by_cases c:0≤n∧n≤1024
  · rw [bf (by simp;omega),aW7 c.1 c.2,aA];have h:=round_eq c.1 c.2 l aY 0 _ _ (Good.start c.1) (aCx _ _) (Nat.zero_le _) om;rw [show (0:Int)=((0:Nat):Int) from rfl,h,List.drop_zero,bXu l id aY om]
    by_cases d: ∀e,e∈l→0≤e.U∧e.U<n∧0≤e.V∧e.V<n
    · rw [if_pos d,if_pos ⟨c.1,c.2,d⟩];rfl
    · rw [if_neg d,if_neg (fun q=>d q.2.2)]
  · rw [bt (by simp;omega),if_neg (fun q=>c ⟨q.1,q.2.1⟩)]
theorem bPj{n_0:Int}{l_1:List aE}{r:(List Int)×Int}(hm:vX n_0 l_1=some r):cE prog 54 [.v (.int .i64 n_0),.sl (l_1.flatMap aV) l_1.length false] (.tup [.sl (r.1.flatMap (ci .i64)) r.1.length false,.v (.int .i64 r.2)]):=by
  refine cE.of_body func54 rfl ?_;simp only [ntmps54,List.length_cons,List.length_nil,Nat.reduceAdd,Nat.reduceSub,iO];unfold vX at hm;refine sN 64 ?_
  iterate 2 refine pu rfl (by simp only [go_sem,Nat.reduceBEq];try with_reducible rfl) ?_
  refine fs (AWp.seq' (sN 128 ?_))
  iterate 6 (first|refine pu rfl (by simp only [go_sem,Nat.reduceBEq];try with_reducible rfl) ?_|refine pg rfl rfl (by simp only [go_sem,Nat.reduceBEq];try with_reducible rfl) (by intro hb;simp only [go_sem,Nat.reduceBEq,hb,Bool.true_and];try with_reducible rfl) ?_)
  refine fs (AWp.condM hm (by try simp only [go_sem,Nat.reduceBEq];try rfl) (fun hc hm=>?_) (fun hc hm=>?_))
  · refine sN 192 ?_
    iterate 2 refine pu rfl (by simp only [go_sem,Nat.reduceBEq];try with_reducible rfl) ?_
    refine fs (AWp.ret (jC ?_));cases hm;exact aGg (.inr rfl) Tryz.results54 (tdn (by try simp only [go_sem,Nat.reduceBEq];try rfl)) (td (by try simp only [go_sem,Nat.reduceBEq];try rfl) (.v _))
  · refine AWp.skip ?_;refine bQ (sN 192 (pu rfl (by simp only [go_sem,Nat.reduceBEq];try with_reducible rfl) ?_));obtain ⟨r2,h1,hm⟩:=bnd hm;refine aR.callF (id:=129) (by decide) (by try simp only [go_sem,Nat.reduceBEq];try rfl) bZ7 (fun H=>(.cons (td (by try simp only [go_sem,Nat.reduceBEq];try rfl) (.v _)) .nil)) (CFi .i64) (by simp only [dV,kZ,Nat.reduceBEq,cond_true,cond_false]) (aY5 h1) ?_;refine pu rfl (by simp only [go_sem,Nat.reduceBEq];try with_reducible rfl) ?_;refine fs (AWp.seq' (sN 256 ?_))
    iterate 3 refine pu rfl (by simp only [go_sem,Nat.reduceBEq];try with_reducible rfl) ?_
    refine fs (AWp.block (AWp.loopM (fun m s=> ∃(n_0:Int) (p_6:List Int) (t20:List aE) (t21:Int) (t22:Int),s=(⟨72,(aF (aF (aF (aF (aF (fun _=>AV.any) 0 (.v (.int .i64 n_0))) 6 (.own 1 0 p_6.length)) 20 (.sl (t20.flatMap aV) t20.length false)) 21 (.v (.int .i64 t21))) 22 (.v (.int .i64 t22))),⟨(upd aZ 1 (.cells 1 (p_6.flatMap (ci .i64)) 0)),64⟩⟩:St)∧uS m n_0 p_6 t20 t21 t22=some r∧OfI m n_0 p_6 t20 t21 t22) aY ?_ ?_ ?_))
    · rintro s ⟨_,_,_,_,_,_,h,_⟩;cases h
    · refine ⟨_,?_,n_0,r2,l_1,(l_1.length:Int),0,rfl,hm,OfI.start hc h1⟩;exact cP (fun j=>bif j==1 then 129 else 0) (bH _ _ (lR (by try simp only [go_sem,Nat.reduceBEq];try rfl) (.v _)) (bH _ _ (lR (by try simp only [go_sem,Nat.reduceBEq];try rfl) (.v _)) (bH _ _ (lR (by try simp only [go_sem,Nat.reduceBEq];try rfl) (cL.sl _ _ _)) (bH _ _ (jG (by try simp only [go_sem,Nat.reduceBEq];try rfl) (by first|rfl|omega) rfl (by simp [upd])) (bH _ _ (lR (by try simp only [go_sem,Nat.reduceBEq];try rfl) (.v _)) dN))))) (gN _ (cG (aH2 (CFi .i64) Zf rfl) cZ) (by repeat' (first|exact zK|exact zQ|refine jW ?_ ?_|refine qR ?_ ?_|exact .inl rfl|exact .inr (by decide))))
    · rintro n1 s ⟨n_0,p_6,t20,t21,t22,rfl,hm,hI⟩;replace hm:aGe (uS n1) n_0 p_6 t20 t21 t22=some r:=hm;unfold aGe at hm;refine sN 128 (pu rfl (by simp only [go_sem,Nat.reduceBEq];try with_reducible rfl) ?_);refine fs (AWp.seq' (AWp.condM hm (by try simp only [go_sem,Nat.reduceBEq];try rfl) (fun hc0 hm=>?_) (fun hc hm=>?_)))
      · refine AWp.skip ?_;refine bQ (AWp.seq' (AWp.block (sN 192 ?_)));obtain ⟨x4,h3,hm⟩:=bnd hm;refine pu rfl (aGn cL (by decide) underlying28 aNu (by try simp only [go_sem,Nat.reduceBEq];try rfl) rfl (by try simp only [go_sem,Nat.reduceBEq];try rfl) h3) ?_;refine pu rfl (by simp only [go_sem,Nat.reduceBEq];try with_reducible rfl) ?_;refine hp (id:=130) rfl rfl (nQ aZ4 (by simp only [dV,kZ,Nat.reduceBEq,cond_true,cond_false])) ?_;refine aR.heap0 (id:=131) rfl (oD (ys:=[.v (.int .i64 x4.U),.v (.int .i64 x4.V),.v (.int .i64 x4.Tier)]) aNu (by try simp only [go_sem,Nat.reduceBEq];try rfl) (by try simp only [go_sem,Nat.reduceBEq];try rfl) Zf rfl (lB rfl) (by first|rfl|(simp [AV.one];done)) rfl) ?_;refine fs (AWp.seq' (sN 256 ?_))
        iterate 2 refine pu rfl (by simp only [go_sem,Nat.reduceBEq];try with_reducible rfl) ?_
        refine pu rfl (hZ (by try simp only [go_sem,Nat.reduceBEq];try rfl) Zf (by simp only [go_sem,Nat.reduceBEq,Nat.reduceAdd];try with_reducible rfl)) ?_;obtain ⟨r6,h5,hm⟩:=bnd hm;refine aR.callQ (r:= .v (.bool r6)) (by decide) (by try simp only [go_sem,Nat.reduceBEq];try rfl) bVa (fun H=>(.cons (td (by try simp only [go_sem,Nat.reduceBEq];try rfl) (.v _)) (.cons (td (by try simp only [go_sem,Nat.reduceBEq];try rfl) (.v _)) .nil))) (aJd h5) ?_
        iterate 4 (first|refine pu rfl (by simp only [go_sem,Nat.reduceBEq];try with_reducible rfl) ?_|refine pg rfl rfl (by simp only [go_sem,Nat.reduceBEq];try with_reducible rfl) (by intro hb;simp only [go_sem,Nat.reduceBEq,hb,Bool.true_and];try with_reducible rfl) ?_)
        refine pg rfl rfl (by simp only [go_sem,Nat.reduceBEq];try with_reducible rfl) (fun hb=>(hZ (by try simp only [go_sem,Nat.reduceBEq,hb,Bool.true_and];try rfl) Zf (by simp only [go_sem,Nat.reduceBEq,Nat.reduceAdd];try with_reducible rfl))) ?_;obtain ⟨r8,h7,hm⟩:=bnd hm;refine aR.callQG (r:= .v (.bool r8)) (by decide) rfl (by simp only [go_sem,Nat.reduceBEq];try with_reducible rfl) (by try simp only [go_sem,Nat.reduceBEq];try rfl) bVa (fun hb H=>(.cons (td (by try simp only [go_sem,Nat.reduceBEq,hb,Bool.true_and];try rfl) (.v _)) (.cons (td (by try simp only [go_sem,Nat.reduceBEq,hb,Bool.true_and];try rfl) (.v _)) .nil))) (fun hb=>aJd (kF h7 hb)) ?_
        iterate 2 (first|refine pu rfl (by simp only [go_sem,Nat.reduceBEq];try with_reducible rfl) ?_|refine pg rfl rfl (by simp only [go_sem,Nat.reduceBEq];try with_reducible rfl) (by intro hb;simp only [go_sem,Nat.reduceBEq,hb,Bool.true_and];try with_reducible rfl) ?_)
        refine fs (AWp.condM hm (by try simp only [go_sem,Nat.reduceBEq];try rfl) (fun hc hm=>?_) (fun hc hm=>?_))
        · refine sN 320 ?_
          iterate 2 refine pu rfl (by simp only [go_sem,Nat.reduceBEq];try with_reducible rfl) ?_
          refine fs (AWp.ret (jC (sI (jC (sJ (sI (jC ?_)))))));cases hm;exact aGg (.inr rfl) Tryz.results54 (tdn (by try simp only [go_sem,Nat.reduceBEq];try rfl)) (td (by try simp only [go_sem,Nat.reduceBEq];try rfl) (.v _))
        · refine AWp.skip ?_;refine bQ ?_;have hi:t22<t21:=by simpa using hc0
          have hP:=bPl h5 h7 hc;obtain ⟨f,k,hG,_⟩: ∃f k,Good p_6 f∧t22=(k:Nat):=by obtain ⟨_,_,_,_,f,k,g,e,_⟩:=hI;exact ⟨f,k,g,e⟩
          have hL1:p_6.length=n_0.toNat:=hI.2.2.1;have hL2:n_0≤1024:=hI.2.1;refine AWp.weaken (bU4 (id:=1) (I:=OfJ f p_6.length) Zf ⟨p_6,rfl,rfl,hG⟩ ((CFi .i64).fmdat p_6)) ?_;refine sd mix (by kernel_rfl) (N':=320) rfl ?_
          iterate 2 refine pu rfl (by simp only [go_sem,Nat.reduceBEq];try with_reducible rfl) ?_
          refine pu rfl (hZ (by try simp only [go_sem,Nat.reduceBEq];try rfl) Zf (by simp only [go_sem,Nat.reduceBEq,Nat.reduceAdd];try with_reducible rfl)) ?_;obtain ⟨r10,h9,hm⟩:=bnd hm;have eh9:=aW5 hG om om om h9;refine aR.callH (r:= .v (.int .i64 r10)) (args':=[.own 1 0 p_6.length,.v (.int .i64 x4.U)]) (by decide) (by try simp only [go_sem,Nat.reduceBEq];try rfl) bVb Zf (by try simp only [go_sem,Nat.reduceBEq];try rfl) (List.mem_cons_self ..) (fun H' hH'=>by rw [eh9];exact bBm om om om hH') ?_
          iterate 2 refine pu rfl (by simp only [go_sem,Nat.reduceBEq];try with_reducible rfl) ?_
          refine pu rfl (hZ (by try simp only [go_sem,Nat.reduceBEq];try rfl) Zf (by simp only [go_sem,Nat.reduceBEq,Nat.reduceAdd];try with_reducible rfl)) ?_;obtain ⟨r12,h11,hm⟩:=bnd hm;have eh11:=aW5 hG om om om h11;refine aR.callH (r:= .v (.int .i64 r12)) (args':=[.own 1 0 p_6.length,.v (.int .i64 x4.V)]) (by decide) (by try simp only [go_sem,Nat.reduceBEq];try rfl) bVb Zf (by try simp only [go_sem,Nat.reduceBEq];try rfl) (List.mem_cons_self ..) (fun H' hH'=>by rw [eh11];exact bBm om om om hH') ?_
          iterate 2 refine pu rfl (by simp only [go_sem,Nat.reduceBEq];try with_reducible rfl) ?_
          refine fs (AWp.unhide' (id:=1) Zf (fun xs hxs=>?_));obtain ⟨q,rfl,hql,hqg⟩:=hxs;rw [bFc hI hi hG hqg hql hP eh9 eh11] at hm;refine AWp.reg 64 (N':=384) rfl ?_
          iterate 7 refine pu rfl (by simp only [go_sem,Nat.reduceBEq];try with_reducible rfl) ?_
          obtain ⟨x14,h13,hm⟩:=bnd hm;refine pu rfl (iX underlying56 sz3 (by try simp only [go_sem,Nat.reduceBEq];try rfl) Zf (by first|rfl|omega) (by try simp only [go_sem,Nat.reduceBEq];try rfl) h13) ?_;obtain ⟨l16,h15,hm⟩:=bnd hm;have qh15:=nG h15;refine aR.heap0 (id:=328) rfl (aGl (CFi .i64) sz3 (by try simp only [go_sem,Nat.reduceBEq];try rfl) (by try simp only [go_sem,Nat.reduceBEq];try rfl) Zf rfl h15) ?_;refine aR.fin (jP (bQ (AWp.reg 64 (N':=448) rfl ?_)))
          iterate 2 refine pu rfl (by simp only [go_sem,Nat.reduceBEq];try with_reducible rfl) ?_
          refine aR.fin (iA ?_);refine ⟨_,?_,n_0,l16,t20,t21,(IntKind.i64.wrap (t22+1)),rfl,hm,hI.step hi hqg hql hP eh9 eh11 h15⟩;exact cP (fun j=>bif j==1 then 1 else 0) (bH _ _ (lR (by try simp only [go_sem,Nat.reduceBEq];try rfl) (.v _)) (bH _ _ (lR (by try simp only [go_sem,Nat.reduceBEq];try rfl) (.v _)) (bH _ _ (lR (by try simp only [go_sem,Nat.reduceBEq];try rfl) (cL.sl _ _ _)) (bH _ _ (jG (by try simp only [go_sem,Nat.reduceBEq];try rfl) (by first|rfl|omega) rfl (by simp [upd])) (bH _ _ (lR (by try simp only [go_sem,Nat.reduceBEq];try rfl) (.v _)) dN))))) (gN _ (cG (aH2 (CFi .i64) Zf rfl) cZ) (by repeat' (first|exact zK|exact zQ|refine jW ?_ ?_|refine qR ?_ ?_|exact .inl rfl|exact .inr (by decide))))
      · refine AWp.exit ?_;refine kE (jA (iS (bQ (AWp.seq' (sN 192 ?_)))))
        iterate 3 refine pu rfl (by simp only [go_sem,Nat.reduceBEq];try with_reducible rfl) ?_
        refine fs (AWp.block (AWp.loopM (fun m s=> ∃(p_6:List Int) (t56:Int) (t57:Int),s=(⟨72,(aF (aF (aF (fun _=>AV.any) 6 (.own 1 0 p_6.length)) 56 (.v (.int .i64 t56))) 57 (.v (.int .i64 t57))),⟨(upd aZ 1 (.cells 1 (p_6.flatMap (ci .i64)) 0)),64⟩⟩:St)∧aD2 m p_6 t56 t57=some r) aY ?_ ?_ ?_))
        · rintro s ⟨_,_,_,_,h⟩;cases h
        · refine ⟨_,?_,p_6,(p_6.length:Int),0,rfl,hm⟩;exact cP (fun j=>bif j==1 then 1 else 0) (bH _ _ (lR (by try simp only [go_sem,Nat.reduceBEq];try rfl) (.v _)) (bH _ _ (lR (by try simp only [go_sem,Nat.reduceBEq];try rfl) (.v _)) (bH _ _ (jG (by try simp only [go_sem,Nat.reduceBEq];try rfl) (by first|rfl|omega) rfl (by simp [upd])) dN))) (gN _ (cG (aH2 (CFi .i64) Zf rfl) cZ) (by repeat' (first|exact zK|exact zQ|refine jW ?_ ?_|refine qR ?_ ?_|exact .inl rfl|exact .inr (by decide))))
        · rintro n2 s ⟨p_6,t56,t57,rfl,hm⟩;replace hm:aGf (aD2 n2) p_6 t56 t57=some r:=hm;unfold aGf at hm;refine sN 128 (pu rfl (by simp only [go_sem,Nat.reduceBEq];try with_reducible rfl) ?_);refine fs (AWp.seq' (AWp.condM hm (by try simp only [go_sem,Nat.reduceBEq];try rfl) (fun hc hm=>?_) (fun hc hm=>?_)))
          · refine AWp.skip ?_;refine bQ (AWp.seq' (AWp.block (sN 192 ?_)))
            iterate 2 refine pu rfl (by simp only [go_sem,Nat.reduceBEq];try with_reducible rfl) ?_
            refine fs (AWp.reg 64 (N':=256) rfl ?_)
            iterate 5 refine pu rfl (by simp only [go_sem,Nat.reduceBEq];try with_reducible rfl) ?_
            obtain ⟨x18,h17,hm⟩:=bnd hm;refine pu rfl (iX underlying56 sz3 (by try simp only [go_sem,Nat.reduceBEq];try rfl) Zf (by first|rfl|omega) (by try simp only [go_sem,Nat.reduceBEq];try rfl) h17) ?_;refine pu rfl (aAf (CFi .i64) (by try simp only [go_sem,Nat.reduceBEq];try rfl) Zf h17 Zb) ?_;obtain ⟨x20,h19,hm⟩:=bnd hm;refine pu rfl (iX underlying56 sz3 (by try simp only [go_sem,Nat.reduceBEq];try rfl) Zf (by first|rfl|omega) (by try simp only [go_sem,Nat.reduceBEq];try rfl) h19) ?_;refine pu rfl (aAf (CFi .i64) (by try simp only [go_sem,Nat.reduceBEq];try rfl) Zf h19 Zb) ?_;obtain ⟨x22,h21,hm⟩:=bnd hm;refine pu rfl (iX underlying56 sz3 (by try simp only [go_sem,Nat.reduceBEq];try rfl) Zf (by first|rfl|omega) (by try simp only [go_sem,Nat.reduceBEq];try rfl) h21) ?_;obtain ⟨l24,h23,hm⟩:=bnd hm;have qh23:=nG h23;refine aR.heap0 (id:=202) rfl (aGl (CFi .i64) sz3 (by try simp only [go_sem,Nat.reduceBEq];try rfl) (by try simp only [go_sem,Nat.reduceBEq];try rfl) Zf rfl h23) ?_;refine aR.fin (jP (bQ (AWp.reg 64 (N':=320) rfl ?_)))
            iterate 2 refine pu rfl (by simp only [go_sem,Nat.reduceBEq];try with_reducible rfl) ?_
            refine aR.fin (iA ?_);refine ⟨_,?_,l24,t56,(IntKind.i64.wrap (t57+1)),rfl,hm⟩;exact cP (fun j=>bif j==1 then 1 else 0) (bH _ _ (lR (by try simp only [go_sem,Nat.reduceBEq];try rfl) (.v _)) (bH _ _ (lR (by try simp only [go_sem,Nat.reduceBEq];try rfl) (.v _)) (bH _ _ (jG (by try simp only [go_sem,Nat.reduceBEq];try rfl) (by first|rfl|omega) rfl (by simp [upd])) dN))) (gN _ (cG (aH2 (CFi .i64) Zf rfl) cZ) (by repeat' (first|exact zK|exact zQ|refine jW ?_ ?_|refine qR ?_ ?_|exact .inl rfl|exact .inr (by decide))))
          · refine AWp.exit ?_;refine kE (jA (iS (bQ (sN 192 ?_))))
            iterate 3 refine pu rfl (by simp only [go_sem,Nat.reduceBEq];try with_reducible rfl) ?_
            refine fs (AWp.ret ?_);cases hm;exact aGg (.inr rfl) Tryz.results54 (tdo (CFi .i64) (by try simp only [go_sem,Nat.reduceBEq];try rfl) Zf (by first|rfl|omega)) (td (by try simp only [go_sem,Nat.reduceBEq];try rfl) (.v _))
instance:Ct prog 54 (K2 prog vi (vl aV) (t2 (vl (ci .i64)) vi) 54 vX):=⟨fun hm=>bPj hm⟩
end Go.Proofs.YtkdohhmacfoolaaGreatDoor
