/- Facts. No condition. -/
import Derived.Test.YtkdohhmacfoolaaGreatDoorPgGJ1
set_option linter.unusedVariables false
namespace Go.Proofs.YtkdohhmacfoolaaGreatDoor
open Go Go.AM
structure aM where
 Most:Int
 Keys:List Int
 Pairs:List bG
deriving DecidableEq
def aHm(rec1:List Int→Int→Int→Option (Int))(l_0:List Int)(k_1:Int)(i_5:Int):Option (Int):=
 (bif (decide (i_5<(l_0.length:Int))) then
  ((idx l_0 i_5).bind fun x2=>
  (bif (x2==k_1) then
   some i_5
  else
   rec1 l_0 k_1 (IntKind.i64.wrap (i_5+1))))
 else
  some (-1))
def aCp:Nat→List Int→Int→Int→Option (Int)
 |0=>fun _ _ _=>none
 |n+1=>aHm (aCp n)
def aJj(l_0:List Int)(k_1:Int):Option (Int):=
 aCp aY l_0 k_1 0
def aCq(rec1:Int→aM→List Int→Int→Option ((List Int)))(a_1:Int)(m_2:aM)(jZ:List Int)(i_6:Int):Option ((List Int)):=
 rec1 a_1 m_2 jZ (IntKind.i64.wrap (i_6+1))
def aHo(rec1:Int→aM→List Int→Int→Option ((List Int)))(rec2:Int→aM→List Int→Int→Int→Int→Option ((List Int)))(a_1:Int)(m_2:aM)(jZ:List Int)(i_6:Int)(aY4:Int)(k_9:Int):Option ((List Int)):=
 ((eJ ((decide (k_9<(jZ.length:Int)))==true) 0 (idx jZ k_9)).bind fun x4=>
 (bif ((decide (k_9<(jZ.length:Int)))&&(decide (x4<aY4))) then
  rec2 a_1 m_2 jZ i_6 aY4 (IntKind.i64.wrap (k_9+1))
 else
  ((slc jZ 0 k_9).bind fun l6=>
  ((app [] l6).bind fun l8=>
  ((app l8 [aY4]).bind fun l10=>
  ((slc jZ k_9 (jZ.length:Int)).bind fun l12=>
  ((app l10 l12).bind fun l14=>
  aCq rec1 a_1 m_2 l14 i_6)))))))
def aCr(rec1:Int→aM→List Int→Int→Option ((List Int))):Nat→Int→aM→List Int→Int→Int→Int→Option ((List Int))
 |0=>fun _ _ _ _ _ _=>none
 |n+1=>aHo rec1 (aCr rec1 n)
def aHn(rec1:Int→aM→List Int→Int→Option ((List Int)))(a_1:Int)(m_2:aM)(jZ:List Int)(i_6:Int):Option ((List Int)):=
 (bif (decide (i_6<(m_2.Pairs.length:Int))) then
  ((idx m_2.Pairs i_6).bind fun x2=>
  (bif ((x2.x0 !=a_1)&&(x2.x1 !=a_1)) then
   aCq rec1 a_1 m_2 jZ i_6
  else
   aCr rec1 aY a_1 m_2 jZ i_6 (IntKind.u64.wrap ((IntKind.u64.wrap (x2.x0+x2.x1))-a_1)) 0))
 else
  some jZ)
def zY:Nat→Int→aM→List Int→Int→Option ((List Int))
 |0=>fun _ _ _ _=>none
 |n+1=>aHn (zY n)
def aQ6(m_0:aM)(a_1:Int):Option ((List Int)):=
 zY aY a_1 m_0 [] 0
def aNe(a_0:Int)(b_1:Int)(t4:bG):Option (bG):=
 some (bG.mk a_0 b_1)
def aJl(a_0:Int)(b_1:Int):Option (bG):=
 (bif (decide (b_1<a_0)) then
  aNe b_1 a_0 (bG.mk 0 0)
 else
  aNe a_0 b_1 (bG.mk 0 0))
def aLs(rec1:List bG→bG→Int→Option (Int))(l_0:List bG)(p_3:bG)(i_5:Int):Option (Int):=
 (bif (decide (i_5<(l_0.length:Int))) then
  ((idx l_0 i_5).bind fun x2=>
  (bif (bDl x2 p_3) then
   some i_5
  else
   rec1 l_0 p_3 (IntKind.i64.wrap (i_5+1))))
 else
  some (-1))
def aHl:Nat→List bG→bG→Int→Option (Int)
 |0=>fun _ _ _=>none
 |n+1=>aLs (aHl n)
def aOy(l_0:List bG)(p_1:bG):Option (Int):=
 aHl aY l_0 p_1 0
def gX(m_0:aM)(aCk:Int)(a_2:Int)(b_3:Int):Option (aM×Int):=
 ((aJj m_0.Keys a_2).bind fun r2=>
 (bif (aCk==1) then
  (bif (decide (0≤r2)) then
   some (m_0,4)
  else
   (bif (decide (m_0.Most≤(m_0.Keys.length:Int))) then
    some (m_0,10)
   else
    ((app [] m_0.Keys).bind fun l4=>
    ((app l4 [a_2]).bind fun l6=>
    some ((aM.mk m_0.Most l6 m_0.Pairs),0)))))
 else
  ((eJ (((decide (r2<0))==false)&&((decide (2<aCk))==true)) 0 (aJj m_0.Keys b_3)).bind fun r8=>
  (bif ((decide (r2<0))||((decide (2<aCk))&&(decide (r8<0)))) then
   some (m_0,7)
  else
   (bif (aCk==2) then
    ((aQ6 m_0 a_2).bind fun r10=>
    (bif (decide (0<(r10.length:Int))) then
     some (m_0,11)
    else
     ((slc m_0.Keys 0 r2).bind fun l12=>
     ((app [] l12).bind fun l14=>
     ((slc m_0.Keys (IntKind.i64.wrap (r2+1)) (m_0.Keys.length:Int)).bind fun l16=>
     ((app l14 l16).bind fun l18=>
     some ((aM.mk m_0.Most l18 m_0.Pairs),0)))))))
   else
    ((aJl a_2 b_3).bind fun r20=>
    ((aOy m_0.Pairs r20).bind fun r22=>
    (bif (aCk==4) then
     (bif (decide (r22<0)) then
      some (m_0,9)
     else
      ((slc m_0.Pairs 0 r22).bind fun l24=>
      ((app [] l24).bind fun l26=>
      ((slc m_0.Pairs (IntKind.i64.wrap (r22+1)) (m_0.Pairs.length:Int)).bind fun l28=>
      ((app l26 l28).bind fun l30=>
      some ((aM.mk m_0.Most m_0.Keys l30),0))))))
    else
     (bif (a_2==b_3) then
      some (m_0,8)
     else
      (bif (decide (0≤r22)) then
       some (m_0,4)
      else
       ((app [] m_0.Pairs).bind fun l32=>
       ((app l32 [r20]).bind fun l34=>
       some ((aM.mk m_0.Most m_0.Keys l34),0)))))))))))))
structure aU where
 List:List Int
 At:Int
deriving DecidableEq
def aHk(w_0:aU):Option (Bool):=
 some ((decide (0≤w_0.At))&&(decide (w_0.At≤(w_0.List.length:Int))))
def aUk(rec1:aU→aU→Int→Option (Int×aU×Int))(w_1:aU)(t3:aU)(aMg:Int):Option (Int×aU×Int):=
 (bif (decide (aMg<(w_1.List.length:Int))) then
  ((idx w_1.List aMg).bind fun x4=>
  (bif ((Int.tmod x4 2305843009213693952) !=2305843009213693951) then
   some ((Int.tmod x4 2305843009213693952),(aU.mk w_1.List (IntKind.i64.wrap (aMg+1))),0)
  else
   rec1 w_1 t3 (IntKind.i64.wrap (aMg+1))))
 else
  some (0,w_1,5))
def aKx:Nat→aU→aU→Int→Option (Int×aU×Int)
 |0=>fun _ _ _=>none
 |n+1=>aUk (aKx n)
def aYd(w_0:aU):Option (Int×aU×Int):=
 ((aHk w_0).bind fun r2=>
 (bif (!r2) then
  some (0,w_0,1)
 else
  aKx aY w_0 (aU.mk [] 0) w_0.At))
def aT0(rec2:Int→aU→List Int→aU→List cI→Int→Option ((List cI)×aU×Int))(n_1:Int)(t5:aU)(aRq:List Int)(v_8:aU)(bPi:List cI)(bS9:Int):Option ((List cI)×aU×Int):=
 (bif (decide (bS9<n_1)) then
  ((idx aRq (IntKind.i64.wrap (2*bS9))).bind fun x10=>
  ((idx aRq (IntKind.i64.wrap ((IntKind.i64.wrap (2*bS9))+1))).bind fun x12=>
  ((app bPi [(cI.mk x10 x12)]).bind fun l14=>
  rec2 n_1 t5 aRq v_8 l14 (IntKind.i64.wrap (bS9+1)))))
 else
  some (bPi,v_8,0))
def aJi:Nat→Int→aU→List Int→aU→List cI→Int→Option ((List cI)×aU×Int)
 |0=>fun _ _ _ _ _ _=>none
 |n+1=>aT0 (aJi n)
def aSz(rec1:Int→aU→aU→List Int→aU→Option ((List cI)×aU×Int))(n_1:Int)(w_2:aU)(t5:aU)(aRq:List Int)(v_8:aU):Option ((List cI)×aU×Int):=
 (bif (decide ((aRq.length:Int)<(IntKind.i64.wrap (2*n_1)))) then
  ((aYd v_8).bind fun ⟨r4,r5,r6⟩=>
  (bif (r6 !=0) then
   some ([],w_2,r6)
  else
   ((app aRq [r4]).bind fun l8=>
   rec1 n_1 w_2 t5 l8 r5)))
 else
  aJi aY n_1 t5 aRq v_8 [] 0)
def aJh:Nat→Int→aU→aU→List Int→aU→Option ((List cI)×aU×Int)
 |0=>fun _ _ _ _ _=>none
 |n+1=>aSz (aJh n)
def aKy(w_0:aU)(n_1:Int):Option ((List cI)×aU×Int):=
 ((aHk w_0).bind fun r2=>
 (bif (((!r2)||(decide (n_1<0)))||(decide (128<n_1))) then
  some ([],w_0,1)
 else
  aJh aY n_1 w_0 (aU.mk [] 0) [] w_0))
end Go.Proofs.YtkdohhmacfoolaaGreatDoor
set_option linter.unusedSimpArgs false
set_option maxRecDepth 20000
set_option maxHeartbeats 1000000
namespace Go.Proofs.YtkdohhmacfoolaaGreatDoor
open Go Go.AM Go.Pl
theorem aA8{n:Int}(h0:0≤n)(h1:n<1000000000000):IntKind.i64.wrap n=n:=wr0 om om
def sls:aB→List bS
  | .nil=>[]
  | .mk a b th _ _=>sls a++th::sls b
def hg:aB→Nat
  | .nil=>0
  | .mk a b _ _ _=>(if hg a<hg b then hg b else hg a)+1
def WT:aB→Prop
  | .nil=>True
  | .mk a b _ h s=>WT a∧WT b∧h=(((if hg a<hg b then hg b else hg a)+1:Nat):Int)∧s=(((sls a).length+1+(sls b).length:Nat):Int)
theorem aI4: ∀t:aB,hg t≤(sls t).length
 | .nil=>Nat.le_refl _
 | .mk a b th h s=>by
  have h1:=aI4 a;have h2:=aI4 b;simp only [hg,sls,List.length_append,List.length_cons];split<;>omega
theorem aAv{t:aB}(h:WT t):kI t=some ((sls t).length:Int):=by
 cases t with
 |nil=>rfl
 |mk a b th hh s=>
  unfold kI;rw [bf (by rfl),ck (by rfl),aA];obtain ⟨_,_,_,h4⟩:=h;show some s=_;rw [h4];simp only [sls,List.length_append,List.length_cons];congr 1;omega
theorem lL{t:aB}(h:WT t):dD t=some (hg t:Int):=by
 cases t with
 |nil=>rfl
 |mk a b th hh s=>
  unfold dD;rw [bf (by rfl),ck (by rfl),aA];obtain ⟨_,_,h3,_⟩:=h;show some hh=_;rw [h3];rfl
theorem lA{a b:aB}(x:bS)(ha:WT a)(hb:WT b)(hl:(sls a).length+(sls b).length<1000000):
 ∃t,eQ a x b=some t∧WT t∧sls t=sls a++x::sls b∧t.nn=true:=by
 have h1:=aI4 a;have h2:=aI4 b;unfold eQ;rw [lL ha,aA,lL hb,aA,aAv ha,aA,aAv hb,aA];refine ⟨_,rfl,⟨ha,hb,?_,?_⟩,rfl,rfl⟩
 ·
  by_cases c:hg a<hg b
  · rw [if_pos om,if_pos c,aA8 om om];omega
  · rw [if_neg om,if_neg c,aA8 om om];omega
 · rw [aA8 (n:=((sls a).length:Int)+1) om om,aA8 om om];omega
theorem WT.kids{t:aB}(h:WT t)(hp:0<hg t):t.nn=true∧WT t.ahead∧WT t.behind∧sls t=sls t.ahead++t.thing::sls t.behind∧hg t=(if hg t.ahead<hg t.behind then hg t.behind else hg t.ahead)+1:=by
 cases t with
 |nil=>exact absurd hp (by simp [hg])
 |mk a b th hh s=>exact ⟨rfl,h.1,h.2.1,rfl,rfl⟩
theorem aNo{a b:aB}(x:bS)(ha:WT a)(hb:WT b)(hl:(sls a).length+(sls b).length<2000):
 ∃t,nN a x b=some t∧WT t∧sls t=sls a++x::sls b:=by
 have h1:=aI4 a;have h2:=aI4 b;unfold nN;rw [lL ha,aA,lL hb,aA,aA8 (n:=(hg b:Int)+1) om om]
 by_cases c:hg b+1<hg a
 ·
  obtain ⟨k1,k2,k3,k4,k5⟩:=ha.kids om;have e1:=congrArg List.length k4;simp only [List.length_append,List.length_cons] at e1;rw [bt (by simpa using (by omega:(hg b:Int)+1<hg a)),ck k1,aA,lL k2,aA,aA,lL k3,aA]
  by_cases d:hg a.behind≤hg a.ahead
  · rw [bt (by simpa using d),aA,aA,aA];obtain ⟨t1,a1,a2,a3,_⟩:=lA x k3 hb om;obtain ⟨t2,b1,b2,b3,_⟩:=lA (a:=a.ahead) (b:=t1) a.thing k2 a2 (by rw [a3];simp;omega);rw [a1,aA,b1,aA];exact ⟨t2,rfl,b2,by rw [b3,a3,k4];simp⟩
  · obtain ⟨m1,m2,m3,m4,m5⟩:=k3.kids om;have e2:=congrArg List.length m4;simp only [List.length_append,List.length_cons] at e2;rw [bf (by simpa using d),aA,aA,aA,ck m1,aA];obtain ⟨t1,a1,a2,a3,_⟩:=lA (a:=a.ahead) (b:=a.behind.ahead) a.thing k2 m2 om;obtain ⟨t2,b1,b2,b3,_⟩:=lA (a:=a.behind.behind) (b:=b) x m3 hb om;obtain ⟨t3,d1,d2,d3,_⟩:=lA (a:=t1) (b:=t2) a.behind.thing a2 b2 (by rw [a3,b3];simp;omega);rw [a1,aA,aA,aA,b1,aA,d1,aA];exact ⟨t3,rfl,d2,by rw [d3,a3,b3,k4,m4];simp⟩
 ·
  rw [bf (by simpa using (by omega: ¬(hg b:Int)+1<hg a)),aA,aA,aA8 (n:=(hg a:Int)+1) om om]
  by_cases c':hg a+1<hg b
  ·
   obtain ⟨k1,k2,k3,k4,k5⟩:=hb.kids om;have e1:=congrArg List.length k4;simp only [List.length_append,List.length_cons] at e1;rw [bt (by simpa using (by omega:(hg a:Int)+1<hg b)),ck k1,aA,lL k3,aA,aA,lL k2,aA]
   by_cases d:hg b.ahead≤hg b.behind
   · rw [bt (by simpa using d),aA];obtain ⟨t1,a1,a2,a3,_⟩:=lA (a:=a) (b:=b.ahead) x ha k2 om;obtain ⟨t2,b1,b2,b3,_⟩:=lA (a:=t1) (b:=b.behind) b.thing a2 k3 (by rw [a3];simp;omega);rw [a1,aA,aA,aA,b1,aA];exact ⟨t2,rfl,b2,by rw [b3,a3,k4];simp⟩
   · obtain ⟨m1,m2,m3,m4,m5⟩:=k2.kids om;have e2:=congrArg List.length m4;simp only [List.length_append,List.length_cons] at e2;rw [bf (by simpa using d),aA,ck m1,aA];obtain ⟨t1,a1,a2,a3,_⟩:=lA (a:=a) (b:=b.ahead.ahead) x ha m2 om;obtain ⟨t2,b1,b2,b3,_⟩:=lA (a:=b.ahead.behind) (b:=b.behind) b.thing m3 k3 om;obtain ⟨t3,d1,d2,d3,_⟩:=lA (a:=t1) (b:=t2) b.ahead.thing a2 b2 (by rw [a3,b3];simp;omega);rw [a1,aA,aA,aA,aA,aA,b1,aA,d1,aA];exact ⟨t3,rfl,d2,by rw [d3,a3,b3,k4,m4];simp⟩
  · rw [bf (by simpa using (by omega: ¬(hg a:Int)+1<hg b))];obtain ⟨t1,a1,a2,a3,_⟩:=lA x ha hb om;rw [a1,aA];exact ⟨t1,rfl,a2,a3⟩
theorem aJn: ∀(m:Nat) (a b:aB) (x:bS),WT a→WT b→(sls a).length+(sls b).length<2000→hg a+hg b<m→
 ∃t,nM m a x b=some t∧WT t∧sls t=sls a++x::sls b
 |0,a,b,x,_,_,_,hm=>by omega
 |m+1,a,b,x,ha,hb,hl,hm=>by
  have h1:=aI4 a;have h2:=aI4 b;show ∃t,rG (nM m) a x b=some t∧_;unfold rG;rw [lL ha,aA,lL hb,aA,aA8 (n:=(hg b:Int)+1) om om]
  by_cases c:hg b+1<hg a
  ·
   obtain ⟨k1,k2,k3,k4,k5⟩:=ha.kids om;have e1:=congrArg List.length k4;simp only [List.length_append,List.length_cons] at e1;have hlt:hg a.behind<hg a:=by rw [k5];split<;>omega
   obtain ⟨t1,a1,a2,a3⟩:=aJn m a.behind b x k3 hb om om;obtain ⟨t2,b1,b2,b3⟩:=aNo (a:=a.ahead) (b:=t1) a.thing k2 a2 (by rw [a3];simp;omega);rw [bt (by simpa using (by omega:(hg b:Int)+1<hg a)),ck k1,aA,aA,aA,a1,aA,b1,aA];exact ⟨t2,rfl,b2,by rw [b3,a3,k4];simp⟩
  ·
   rw [bf (by simpa using (by omega: ¬(hg b:Int)+1<hg a)),aA,aA,aA8 (n:=(hg a:Int)+1) om om]
   by_cases c':hg a+1<hg b
   ·
    obtain ⟨k1,k2,k3,k4,k5⟩:=hb.kids om;have e1:=congrArg List.length k4;simp only [List.length_append,List.length_cons] at e1;have hlt:hg b.ahead<hg b:=by rw [k5];split<;>omega
    obtain ⟨t1,a1,a2,a3⟩:=aJn m a b.ahead x ha k2 om om;obtain ⟨t2,b1,b2,b3⟩:=aNo (a:=t1) (b:=b.behind) b.thing a2 k3 (by rw [a3];simp;omega);rw [bt (by simpa using (by omega:(hg a:Int)+1<hg b)),ck k1,aA,a1,aA,aA,aA,b1,aA];exact ⟨t2,rfl,b2,by rw [b3,a3,k4];simp⟩
   · rw [bf (by simpa using (by omega: ¬(hg a:Int)+1<hg b))];obtain ⟨t1,a1,a2,a3,_⟩:=lA x ha hb om;rw [a1,aA];exact ⟨t1,rfl,a2,a3⟩
theorem FU':(1000000000:Nat)<aY:=aMc
theorem aHr{a b:aB}(x:bS)(ha:WT a)(hb:WT b)(hl:(sls a).length+(sls b).length<2000): ∃t,rH a x b=some t∧WT t∧sls t=sls a++x::sls b:=by
 have hFU:=FU';have h1:=aI4 a;have h2:=aI4 b;exact aJn aY a b x ha hb hl om
theorem aLu: ∀(m:Nat) (s:aB) (k:Int),WT s→(sls s).length<2000→k≤2000→ -2000≤k→hg s<m→
 ∃p q,pO m s k=some (p,q)∧WT p∧WT q∧sls p=(sls s).take k.toNat∧sls q=(sls s).drop k.toNat
 |0,s,k,_,_,_,_,hm=>by omega
 |m+1,s,k,hs,hl,k1,k0,hm=>by
  show ∃p q,tO (pO m) s k=some (p,q)∧_;unfold tO
  by_cases c:k≤0
  ·
   rw [bt (by simpa using c)];have:k.toNat=0:=by omega
   rw [this];exact ⟨.nil,s,rfl,trivial,hs,by simp [sls],by simp⟩
  ·
   rw [bf (by simpa using c),aAv hs,aA]
   by_cases d:((sls s).length:Int)≤k
   · rw [bt (by simpa using d)];exact ⟨s,.nil,rfl,hs,trivial,(List.take_of_length_le om).symm,by rw [List.drop_eq_nil_of_le om];rfl⟩
   ·
    have hp:0<hg s:=by
     cases s with
     |nil=>exact absurd d (by simp [sls];omega)
     |mk=>simp [hg]
    obtain ⟨n1,n2,n3,n4,n5⟩:=hs.kids hp;have e1:=congrArg List.length n4;simp only [List.length_append,List.length_cons] at e1;have l1:hg s.ahead<hg s:=by rw [n5];split<;>omega
    have l2:hg s.behind<hg s:=by rw [n5];split<;>omega
    rw [bf (by simpa using d),ck n1,aA,aAv n2,aA]
    by_cases f:k≤((sls s.ahead).length:Int)
    ·
     obtain ⟨p,q,a1,a2,a3,a4,a5⟩:=aLu m s.ahead k n2 om k1 k0 om;have hq:(sls q).length≤(sls s.ahead).length:=by rw [a5,List.length_drop];omega
     obtain ⟨t,b1,b2,b3⟩:=aHr (a:=q) (b:=s.behind) s.thing a3 n3 om;rw [bt (by simpa using f),aA,a1,aA];simp only [];rw [aA,aA,b1,aA];refine ⟨p,t,rfl,a2,b2,?_,?_⟩
     · rw [a4,n4,List.take_append_of_le_length om]
     · rw [b3,a5,n4,List.drop_append_of_le_length om]
    ·
     have w1:IntKind.i64.wrap (IntKind.i64.wrap (k-((sls s.ahead).length:Int))-1)=k-((sls s.ahead).length:Int)-1:=by
      rw [aA8 (n:=k-((sls s.ahead).length:Int)) om om,aA8 om om]
     obtain ⟨p,q,a1,a2,a3,a4,a5⟩:=aLu m s.behind (k-((sls s.ahead).length:Int)-1) n3 om om om om;have hq:(sls p).length≤(sls s.behind).length:=by rw [a4,List.length_take];omega
     obtain ⟨t,b1,b2,b3⟩:=aHr (a:=s.ahead) (b:=p) s.thing n2 a2 om;have ek:k.toNat=(sls s.ahead).length+((k-((sls s.ahead).length:Int)-1).toNat+1):=by omega
     rw [bf (by simpa using f),aA,w1,a1,aA];simp only [];rw [aA,aA,b1,aA];refine ⟨t,q,rfl,b2,a3,?_,?_⟩
     · rw [b3,a4,n4,ek,List.take_length_add_append,List.take_succ_cons]
     · rw [a5,n4,ek,List.drop_length_add_append,List.drop_succ_cons]
theorem aQ9{s:aB}{k:Int}(hs:WT s)(hl:(sls s).length<2000)(k0:0≤k)(k1:k≤2000):
 ∃p q,tP s k=some (p,q)∧WT p∧WT q∧sls p=(sls s).take k.toNat∧sls q=(sls s).drop k.toNat:=by
 have hFU:=FU';have h1:=aI4 s;exact aLu aY s k hs hl k1 om om
theorem aYl(z:bS): ∀(m:Nat) (s:aB) (i:Nat),WT s→(sls s).length<2000→(h:i<(sls s).length)→hg s<m→aA2 m s (i:Int) z=some ((sls s)[i],true)
 |0,s,i,_,_,_,hm=>by omega
 |m+1,s,i,hs,hl,h,hm=>by
  show aHs (aA2 m) _ _ _=_;unfold aHs
  have hp:0<hg s:=by
   cases s with
   |nil=>exact absurd h (by simp [sls])
   |mk=>simp [hg]
  obtain ⟨n1,n2,n3,n4,n5⟩:=hs.kids hp;have e1:=congrArg List.length n4;simp only [List.length_append,List.length_cons] at e1;have l1:hg s.ahead<hg s:=by rw [n5];split<;>omega
  have l2:hg s.behind<hg s:=by rw [n5];split<;>omega
  rw [ck n1,aA,aAv n2,aA];have key:(sls s)[i]? =(sls s.ahead++s.thing::sls s.behind)[i]? :=by rw [←n4]
  rw [List.getElem?_eq_getElem h] at key
  by_cases c:i<(sls s.ahead).length
  · rw [bt (by simpa using c),aA,aYl z m s.ahead i n2 om c om];rw [List.getElem?_append_left c,List.getElem?_eq_getElem c] at key;rw [Option.some.inj key]
  ·
   rw [bf (by simpa using c)];rw [List.getElem?_append_right om] at key
   by_cases d:(sls s.ahead).length<i
   ·
    have w1:IntKind.i64.wrap ((i:Int)-IntKind.i64.wrap (((sls s.ahead).length:Int)+1))=((i-(sls s.ahead).length-1:Nat):Int):=by
     rw [aA8 (n:=((sls s.ahead).length:Int)+1) om om,aA8 om om];omega
    have hi:i-(sls s.ahead).length-1<(sls s.behind).length:=by omega
    rw [bt (by simpa using d),aA,w1,aYl z m s.behind _ n3 om hi om];have e2:i-(sls s.ahead).length=(i-(sls s.ahead).length-1)+1:=by omega
    rw [e2,List.getElem?_cons_succ,List.getElem?_eq_getElem hi] at key;rw [Option.some.inj key]
   ·
    rw [bf (by simpa using d),aA];have e2:i-(sls s.ahead).length=0:=by omega
    rw [e2,List.getElem?_cons_zero] at key;rw [Option.some.inj key]
theorem aNn{s:aB}(hs:WT s)(hl:(sls s).length<2000)(i:Nat):qH s (i:Int)=some (match (sls s)[i]? with|some p=>(p,true)|none=>(⟨0,0⟩,false)):=by
 have hFU:=FU';have h1:=aI4 s;unfold qH;rw [aAv hs,gt' (by simp),aA]
 by_cases c:i<(sls s).length
 · rw [bf (by simp;omega),aYl _ aY s i hs hl c om,List.getElem?_eq_getElem c]
 · rw [bt (by simp;omega),List.getElem?_eq_none om]
theorem aT5{a b:aB}(ha:WT a)(hb:WT b)(hl:(sls a).length+(sls b).length<2000): ∃t,rU a b=some t∧WT t∧sls t=sls a++sls b:=by
 unfold rU;have:=aNn hb om 0;rw [show ((0:Nat):Int)=(0:Int) from rfl] at this;rw [this,aA]
 cases e:sls b with
 |nil=>
  simp only [List.getElem?_nil];rw [bt (by rfl)];exact ⟨a,rfl,ha,by simp⟩
 |cons x r=>
  simp only [List.getElem?_cons_zero];obtain ⟨p,q,a1,a2,a3,a4,a5⟩:=aQ9 (k:=1) hb om om om;have hq:sls q=r:=by rw [a5,e];rfl
  have hr:r.length+1=(sls b).length:=by rw [e];rfl
  obtain ⟨t,b1,b2,b3⟩:=aHr (a:=a) (b:=q) x ha a3 (by rw [hq];omega);rw [bf (by rfl),a1,aA];simp only [];rw [b1,aA];exact ⟨t,rfl,b2,by rw [b3,hq]⟩
theorem bL9(x:bS): ∃t,aF1 [x]=some t∧WT t∧sls t=[x]:=by
 have hFU:=FU';have hF:aY=(aY-2)+1+1:=by omega
 have nl:yM (aY-2+1) []=some aB.nil:=by
  show tN _ _=_;unfold tN;rw [bt (by rfl)]
 unfold aF1;rw [hF];show ∃t,tN (yM (aY-2+1)) [x]=some t∧_;unfold tN
 have w:IntKind.i64.wrap (Int.tdiv (([x]:List bS).length:Int) 2)=((0:Nat):Int):=by
  rw [List.length_cons,List.length_nil];decide
 have w2:IntKind.i64.wrap (((0:Nat):Int)+1)=((1:Nat):Int):=by decide
 obtain ⟨t,a1,a2,a3,_⟩:=lA (a:= .nil) (b:= .nil) x trivial trivial (by simp [sls]);rw [bf (by rfl),w,w2,aCb rfl (by simp),aA,List.take_zero,nl,aA,mD];simp only [List.getElem?_cons_zero];rw [aA,wF rfl (by simp),aA,show ([x]:List bS).drop 1=[] from rfl,nl,aA,a1,aA];exact ⟨t,rfl,a2,by rw [a3];rfl⟩
theorem bS6{i j:Nat}(h:i+j<1000000000000):IntKind.i64.wrap (shr .u64 (IntKind.u64.wrap (IntKind.i64.wrap ((i:Int)+(j:Int)))) 1)=(((i+j)/2:Nat):Int):=by
 rw [aA8 (n:=(i:Int)+j) om om,bYm om om]
 have:shr .u64 ((i:Int)+(j:Int)) 1=(((i+j)/2:Nat):Int):=by
  show Int.fdiv ((i:Int)+(j:Int)) (2^1)=_;rw [Int.fdiv_eq_ediv_of_nonneg _ (by decide)];have:((2:Int)^1)=2:=rfl;rw [this];omega
 rw [this,aA8 om om]
theorem bQ2{n:Nat}(hn:n<100000){f:Int→Option Bool}{p:Nat→Bool}(hf: ∀k:Nat,k<n→f (k:Int)=some (p k))(mono: ∀a b,a≤b→b<n→p a=true→p b=true): ∀(m i j:Nat),j<i+m→i≤j→j≤n→
 (∀k,k<i→p k=false)→(∀k,j≤k→k<n→p k=true)→ ∃r:Nat,wJ f m (i:Int) (j:Int)=some (r:Int)∧r≤n∧(∀k,k<r→p k=false)∧ ∀k,r≤k→k<n→p k=true
 |0,i,j,hm,hij,_,_,_=>by omega
 |m+1,i,j,hm,hij,hj,h1,h2=>by
  show ∃r:Nat,aFp f (wJ f m) _ _=_∧_;unfold aFp
  by_cases c:i<j
  ·
   have hlt:(i+j)/2<j:=by omega
   rw [bt (by simpa using c),bS6 om,hf _ om,aA]
   cases e:p ((i+j)/2) with
   |false=>
    rw [bt (by rfl),wr1 _ om]
    exact bQ2 hn hf mono m ((i+j)/2+1) j om om hj (fun k hk=>by
     cases q:p k with
     |false=>rfl
     |true=>rw [mono k ((i+j)/2) om om q] at e;cases e) h2
   |true=>
    rw [bf (by rfl)];exact bQ2 hn hf mono m i ((i+j)/2) om om om h1 fun k hk hk'=>mono _ _ hk hk' e
  ·
   have:i=j:=by omega
   subst this;rw [bf (by simp)];exact ⟨i,rfl,hj,h1,h2⟩
theorem aUw{n:Nat}(hn:n<100000){f:Int→Option Bool}{p:Nat→Bool}(hf: ∀k:Nat,k<n→f (k:Int)=some (p k))(mono: ∀a b,a≤b→b<n→p a=true→p b=true):
 ∃r:Nat,aHv (n:Int) f=some (r:Int)∧r≤n∧(∀k,k<r→p k=false)∧ ∀k,r≤k→k<n→p k=true:=by
 have hFU:=FU';exact bQ2 hn hf mono aY 0 n om (Nat.zero_le _) (Nat.le_refl _) (fun k hk=>by omega) (fun k hk hk'=>by omega)
structure DOK(d:cC):Prop where
  wt:WT d.s
  up:(sls d.s).Pairwise fun a b=>a.Key<b.Key
theorem DOK.nil:DOK ⟨.nil⟩:=⟨trivial,List.Pairwise.nil⟩
theorem bQp{l:List bS}(h:l.Pairwise fun a b=>a.Key<b.Key){i j:Nat}(hij:i<j)(hj:j<l.length):(l[i]'(by omega)).Key<l[j].Key:=List.pairwise_iff_getElem.1 h i j om hj hij
theorem aPs{d:cC}(h:DOK d)(hl:(sls d.s).length<2000)(key:Int): ∃r:Nat,aAj d key=some (r:Int)∧r≤(sls d.s).length∧(∀(k:Nat) (p:bS),k<r→(sls d.s)[k]? =some p→p.Key<key)∧(∀(k:Nat) (p:bS),r≤k→(sls d.s)[k]? =some p→key≤p.Key):=by
 obtain ⟨r,r1,r2,r3,r4⟩:=aUw (n:=(sls d.s).length) om (f:=fun x0=>zE x0 d key) (p:=fun k=>match (sls d.s)[k]? with|some p=>decide (key≤p.Key)|none=>true) (fun k hk=>by
  show zE (k:Int) d key=_;unfold zE;rw [aNn h.wt hl,aA,List.getElem?_eq_getElem hk]) (fun a b hab hb q=>by
  have ha:a<(sls d.s).length:=by omega
  rw [List.getElem?_eq_getElem ha] at q;rw [List.getElem?_eq_getElem hb];simp only [decide_eq_true_eq] at q⊢;rcases Nat.lt_or_ge a b with z|z
  · have:=bQp h.up z hb;omega
  ·
   have:a=b:=by omega
   subst this;exact q)
 unfold aAj;rw [aAv h.wt,aA,r1,aA];refine ⟨r,rfl,r2,fun k p hk hp=>?_,fun k p hk hp=>?_⟩
 · have:=r3 k hk;rw [hp] at this;simp only [decide_eq_false_iff_not] at this;omega
 ·
  have:=r4 k hk (List.getElem?_eq_some_iff.1 hp).1;rw [hp] at this
  simpa using this
theorem aGz{d:cC}(h:DOK d)(hl:(sls d.s).length<2000)(key:Int): ∃v b,xX d key=some (v,b)∧((b=true∧(⟨key,v⟩:bS)∈sls d.s)∨(b=false∧v=0∧ ∀p,p∈sls d.s→p.Key≠key)):=by
 obtain ⟨r,r1,r2,r3,r4⟩:=aPs h hl key;unfold xX;rw [r1,aA,aNn h.wt hl,aA]
 have no:(∀p,(sls d.s)[r]? =some p→p.Key≠key)→ ∀p,p∈sls d.s→p.Key≠key:=fun q p hp e=>by
  obtain ⟨k,hk⟩:=List.getElem?_of_mem hp;rcases Nat.lt_trichotomy k r with z|z|z
  · have:=r3 k p z hk;omega
  · subst z;exact q p hk e
  ·
   have hkl:=(List.getElem?_eq_some_iff.1 hk).1;have hrl:r<(sls d.s).length:=by omega
   have h1:=r4 r _ (Nat.le_refl _) (List.getElem?_eq_getElem hrl);have h2:=bQp h.up z hkl;rw [List.getElem?_eq_getElem hkl] at hk;rw [Option.some.inj hk] at h2;omega
 cases e:(sls d.s)[r]? with
 |none=>
  simp only [];rw [bt (by rfl)];exact ⟨0,false,rfl,.inr ⟨rfl,rfl,no fun p q=>by rw [e] at q;cases q⟩⟩
 |some p=>
  simp only []
  by_cases c:p.Key=key
  · rw [bf (by simp [c])];refine ⟨p.N,true,rfl,.inl ⟨rfl,?_⟩⟩;rw [←c];exact List.mem_of_getElem? e
  · rw [bt (by simp [c])];exact ⟨0,false,rfl,.inr ⟨rfl,rfl,no fun q hq=>by rw [e] at hq;cases hq;exact c⟩⟩
theorem bDi{d:cC}(h:DOK d)(hl:(sls d.s).length<1900)(key n:Int)(hno: ∀p,p∈sls d.s→p.Key≠key): ∃d',aG0 d key n=some d'∧DOK d'∧(sls d'.s).length=(sls d.s).length+1∧ ∀p,p∈sls d'.s↔p=⟨key,n⟩∨p∈sls d.s:=by
 obtain ⟨r,r1,r2,r3,r4⟩:=aPs h om key;obtain ⟨p,q,a1,a2,a3,a4,a5⟩:=aQ9 (k:=(r:Int)) h.wt om om om;rw [show ((r:Int)).toNat=r from rfl] at a4 a5;have lp:(sls p).length=r:=by rw [a4,List.length_take];omega
 have lq:(sls q).length=(sls d.s).length-r:=by rw [a5,List.length_drop]
 unfold aG0 aH0;have at0:=aNn a3 om 0;rw [show ((0:Nat):Int)=(0:Int) from rfl] at at0;obtain ⟨o,o1,o2,o3⟩:=bL9 ⟨key,n⟩;obtain ⟨t,b1,b2,b3⟩:=aT5 (a:=o) (b:=q) o2 a3 (by rw [o3];simp;omega);obtain ⟨t2,c1,c2,c3⟩:=aT5 (a:=p) (b:=t) a2 b2 (by rw [b3,o3];simp;omega)
 have hc:((match (sls q)[0]? with|some p=>(p,true)|none=>((⟨0,0⟩:bS),false)).2&&((match (sls q)[0]? with|some p=>(p,true)|none=>((⟨0,0⟩:bS),false)).1.Key==key))=false:=by
  cases e:(sls q)[0]? with
  |none=>rfl
  |some x=>
   have:x∈sls d.s:=by
    have:=List.mem_of_getElem? e;rw [a5] at this;exact List.mem_of_mem_drop this
   simp [hno x this]
 rw [r1,aA,a1,aA];simp only [];rw [at0,aA];generalize hz:(match (sls q)[0]? with|some p=>(p,true)|none=>((⟨0,0⟩:bS),false))=z at hc;obtain ⟨z1,z2⟩:=z;simp only [] at hc⊢;rw [bf hc,o1,aA,b1,aA,c1,aA];have e:sls t2=(sls d.s).take r++(⟨key,n⟩:bS)::(sls d.s).drop r:=by rw [c3,b3,o3,a4,a5];rfl
 refine ⟨⟨t2⟩,rfl,⟨c2,?_⟩,?_,fun x=>?_⟩
 ·
  show (sls t2).Pairwise _;rw [e,List.pairwise_append];refine ⟨h.up.sublist (List.take_sublist _ _),List.pairwise_cons.2 ⟨fun y hy=>?_,h.up.sublist (List.drop_sublist _ _)⟩,fun x hx y hy=>?_⟩
  · obtain ⟨k,hk⟩:=List.getElem?_of_mem hy;rw [List.getElem?_drop] at hk;have h1:=r4 (r+k) y om hk;have h2:=hno y (List.mem_of_getElem? hk);show key<y.Key;omega
  ·
   obtain ⟨k,hk⟩:=List.getElem?_of_mem hx;rw [List.getElem?_take] at hk;split at hk
   ·
    rename_i hkr;have h1:=r3 k x hkr hk;rcases List.mem_cons.1 hy with rfl|hy
    · exact h1
    · obtain ⟨j,hj⟩:=List.getElem?_of_mem hy;rw [List.getElem?_drop] at hj;have h2:=r4 (r+j) y om hj;omega
   · cases hk
 · show (sls t2).length=_;rw [e];simp;omega
 ·
  show x∈sls t2↔_;rw [e,List.mem_append,List.mem_cons];constructor
  ·
   rintro (q|q|q)
   · exact .inr (List.mem_of_mem_take q)
   · exact .inl q
   · exact .inr (List.mem_of_mem_drop q)
  ·
   rintro (q|q)
   · exact .inr (.inl q)
   ·
    rw [←List.take_append_drop r (sls d.s),List.mem_append] at q;rcases q with q|q
    · exact .inl q
    · exact .inr (.inr q)
end Go.Proofs.YtkdohhmacfoolaaGreatDoor
