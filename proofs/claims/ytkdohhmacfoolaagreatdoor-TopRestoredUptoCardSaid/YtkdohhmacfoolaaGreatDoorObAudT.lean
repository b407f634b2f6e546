/- Facts. No condition. -/
import Derived.Test.YtkdohhmacfoolaaGreatDoorObAudQ
set_option linter.unusedVariables false
set_option linter.unusedSimpArgs false
set_option maxRecDepth 20000
set_option maxHeartbeats 1000000
namespace Go.Proofs.YtkdohhmacfoolaaGreatDoor
open Go Go.AM Go.Pl Go.Pt
theorem aKx{l:List aD}{i:Nat}(c:i<l.length):(en (l.take (i+1))).Perm ((l[i].U,l[i].V)::en (l.take i)):=by
 unfold en;rw [aAj c,List.map_append];exact List.perm_append_comm
theorem Rg.take{n:Int}{l:List aD}(h:Rg n l)(i:Nat):Rg n (l.take i):=h.mono fun e he=>List.mem_of_mem_take he
theorem bCv{n:Int}(h0:0≤n)(hn:n≤1024){l:List aD}(hl:l.length<1000000000)(h:Rg n l): ∀(m i:Nat) (out:List aD),l.length<i+m→i+m≤bC→i≤l.length→out.length≤i→out.length+cl n.toNat (en (l.take i))=n.toNat→
 ∃s,fT m n l out (i:Int)=some s∧s.length+cl n.toNat (en l)=n.toNat
 |0,i,_,hm,_,hi,_,_=>by omega
 |m+1,i,out,hm,hF,hi,ho,hc=>by
  have hFU:=FU
  by_cases c:i<l.length
  ·
   obtain ⟨u0,un,v0,vn⟩:=h.at c;have hr:InR n.toNat ((l[i].U,l[i].V)::en (l.take i)):=(((h.take (i+1)).inR h0).perm (aKx c))
   have e1:=bDe (n:=n.toNat) (aKx c)
   have step:fT (m+1) n l out (i:Int)=if eT (en (l.take i)) l[i].U=eT (en (l.take i)) l[i].V then fT m n l out ((i+1:Nat):Int) else fT m n l (out++[l[i]]) ((i+1:Nat):Int):=by
    show lX (fT m) n l out _=_;unfold lX rI;rw [bt (oE c),aBn rfl om,aA,bCn h0 hn (by simp;omega) (h.take i),aA,cE c,aA,aN8 u0 un,aA,aA,aN8 v0 vn,aA,wr1 i om]
    by_cases q:eT (en (l.take i)) l[i].U=eT (en (l.take i)) l[i].V
    · rw [bf (by simp [q]),if_pos q]
    · rw [bt (by simp [q]),if_neg q,aA,fI (by simp;omega),aA]
   rw [step];have h2:=aPp hr
   by_cases q:eT (en (l.take i)) l[i].U=eT (en (l.take i)) l[i].V
   · rw [if_pos q];rw [if_pos q] at h2;exact bCv h0 hn hl h m (i+1) out om om c om om
   · rw [if_neg q];rw [if_neg q] at h2;exact bCv h0 hn hl h m (i+1) _ om om c (by simp;omega) (by simp;omega)
  · refine ⟨out,?_,by rw [List.take_of_length_le om] at hc;exact hc⟩;show lX (fT m) n l out _=_;unfold lX;rw [bf (oD c)]
theorem bQ2{n:Int}(h0:0≤n)(hn:n≤1024){l:List aD}(hl:l.length<1000000000)(h:Rg n l): ∃s,tF n l=some s∧s.length+cl n.toNat (en l)=n.toNat:=by
 have hFU:=FU;exact bCv h0 hn hl h bC 0 [] om om (Nat.zero_le _) (by simp) (by rw [List.take_zero];show 0+cl n.toNat []=_;rw [bAz];omega)
def hsB(l:List bM):Bool:=l.all fun h=>decide (h.A<2305843009213693951)&&decide (h.B<2305843009213693951)
def tiB(t:Int)(l:List aD):Bool:=l.all fun e=>decide (e.Tier≤t)
theorem aM9(t:Int)(e:aD)(l:List aD):tiB t (e::l)=(decide (e.Tier≤t)&&tiB t l):=rfl
theorem aDw(h:bM)(l:List bM):hsB (h::l)=((decide (h.A<2305843009213693951)&&decide (h.B<2305843009213693951))&&hsB l):=rfl
def cfB(g:aF):Bool:=decide (1≤g.Config.N∧g.Config.N≤1024∧1≤g.Config.L∧g.Config.L≤16∧1≤g.Config.R∧g.Config.R≤8∧(g.Hashes.length:Int)=g.Config.L*g.Config.R)
def grB(g:aF):Bool:=cfB g&&(hsB g.Hashes&&(trB g.Config.N g.Edges&&(tiB g.Config.L g.Edges&&foB g.Config.N (fo g.Edges g.Config.L))))
theorem aIi{n:Int}{l:List aD}(h:trB n l=true):0≤n∧n≤1024∧Rg n l:=by
 unfold trB at h;simp only [Bool.and_eq_true,decide_eq_true_eq] at h;exact ⟨h.1.1,h.1.2,bT8 h.2⟩
theorem aGv{n:Int}{l:List aD}(h:Rg n l)(t:Int):Rg n (fo l t):=h.mono fun e he=>aQx he
section
variable {g:aF}(hE:g.Edges.length<1000000000)(hH:g.Hashes.length<1000000000)
include hE
theorem bR5(hT:trB g.Config.N g.Edges=true): ∀(m i:Nat),g.Edges.length<i+m→i+m≤bC→i≤g.Edges.length→qE m g g.Config g.Edges (g.Edges.length:Int) (i:Int)=some (tiB g.Config.L (g.Edges.drop i)&&foB g.Config.N (fo g.Edges g.Config.L))
 |0,i,h,_,hi=>by omega
 |m+1,i,h,hF,hi=>by
  have hFU:=FU;obtain ⟨n0,n1,hr⟩:=aIi hT;show aBj (qE m) g g.Config g.Edges _ _=_;unfold aBj
  by_cases c:i<g.Edges.length
  ·
   rw [bt (oE c),cE c,aA,cW c,wr1 i om]
   by_cases q:g.Edges[i].Tier≤g.Config.L
   · rw [bf (by simp;omega),bR5 hT m (i+1) om om c];rw [aM9];simp [q]
   · rw [bt (by simp;omega)];rw [aM9];simp [q]
  · rw [bf (oD c),mE hE,aA,hT,List.drop_eq_nil_of_le om];have:=aMy g.Edges g.Config.L;simp only [if_true];rw [aCu n0 n1 om (aGv hr _),aA];rfl
theorem bR3(hT:trB g.Config.N g.Edges=true): ∀(m i:Nat),g.Edges.length<i+m→i+m≤bC→i≤g.Edges.length→sJ m g g.Config (i:Int)=some (tiB g.Config.L (g.Edges.drop i)&&foB g.Config.N (fo g.Edges g.Config.L))
 |0,i,h,_,hi=>by omega
 |m+1,i,h,hF,hi=>by
  have hFU:=FU;obtain ⟨n0,n1,hr⟩:=aIi hT;show aD4 (sJ m) g g.Config _=_;unfold aD4
  by_cases c:i<g.Edges.length
  ·
   rw [bt (oE c),cE c,aA,cW c,wr1 i om]
   by_cases q:g.Edges[i].Tier≤g.Config.L
   · rw [bf (by simp;omega),bR3 hT m (i+1) om om c];rw [aM9];simp [q]
   · rw [bt (by simp;omega)];rw [aM9];simp [q]
  ·
   rw [bf (oD c),aRg hE,aA,List.drop_eq_nil_of_le om];have:=aMy g.Edges g.Config.L;obtain ⟨s,h1,h2⟩:=bQ2 n0 n1 (l:=fo g.Edges g.Config.L) om (aGv hr _);rw [h1,aA];unfold foB;simp only [tiB,List.all_nil,Bool.true_and];congr 1
   by_cases q:cl g.Config.N.toNat (en (fo g.Edges g.Config.L))+(fo g.Edges g.Config.L).length=g.Config.N.toNat
   · simp [q];omega
   · simp [q];omega
theorem bR4: ∀(m i:Nat),g.Hashes.length<i+m→i+m≤bC→i≤g.Hashes.length→qD m g g.Config g.Hashes (g.Hashes.length:Int) (i:Int)=some (hsB (g.Hashes.drop i)&&(trB g.Config.N g.Edges&&(tiB g.Config.L g.Edges&&foB g.Config.N (fo g.Edges g.Config.L))))
 |0,i,h,_,hi=>by omega
 |m+1,i,h,hF,hi=>by
  have hFU:=FU;show aBi (qD m) g g.Config g.Hashes _ _=_;unfold aBi
  by_cases c:i<g.Hashes.length
  ·
   rw [bt (oE c),cE c,aA,cW c,wr1 i om]
   by_cases q:g.Hashes[i].A<2305843009213693951∧g.Hashes[i].B<2305843009213693951
   · rw [bf (by simp;omega),bR4 m (i+1) om om c];rw [aDw];simp [q]
   ·
    rw [bt (by simp;omega)];have:(decide (g.Hashes[i].A<2305843009213693951)&&decide (g.Hashes[i].B<2305843009213693951))=false:=by simp;omega
    rw [aDw,this];rfl
  ·
   rw [bf (oD c),lO hE,aA,List.drop_eq_nil_of_le om]
   cases hT:trB g.Config.N g.Edges with
   |false=>rfl
   |true=>
    rw [bf (c:= !true) rfl,show (0:Int)=((0:Nat):Int) from rfl,bR5 hE hT bC 0 om om (Nat.zero_le _)];rfl
theorem bR2: ∀(m i:Nat),g.Hashes.length<i+m→i+m≤bC→i≤g.Hashes.length→sI m g g.Config (i:Int)=some (hsB (g.Hashes.drop i)&&(trB g.Config.N g.Edges&&(tiB g.Config.L g.Edges&&foB g.Config.N (fo g.Edges g.Config.L))))
 |0,i,h,_,hi=>by omega
 |m+1,i,h,hF,hi=>by
  have hFU:=FU;show aD3 (sI m) g g.Config _=_;unfold aD3
  by_cases c:i<g.Hashes.length
  ·
   rw [bt (oE c),cE c,aA,eF,aA,cW c,wr1 i om]
   by_cases q:g.Hashes[i].A<2305843009213693951
   ·
    have q':decide (2305843009213693951≤g.Hashes[i].A)=false:=by simp;omega
    rw [q',show (bif false==false then g.Hashes[i] else bM.mk 0 0)=g.Hashes[i] from rfl]
    by_cases k:g.Hashes[i].B<2305843009213693951
    · rw [bf (by simp;omega),bR2 m (i+1) om om c];rw [aDw];simp [q,k]
    · rw [bt (by simp;omega)];rw [aDw];simp [q,k]
   · rw [bt (by simp;left;omega)];rw [aDw];simp [q]
  ·
   rw [bf (oD c),aSt hE,aA,List.drop_eq_nil_of_le om]
   cases hT:trB g.Config.N g.Edges with
   |false=>rfl
   |true=>
    rw [bf (c:= !true) rfl,show (0:Int)=((0:Nat):Int) from rfl,bR3 hE hT bC 0 om om (Nat.zero_le _)];rfl
omit hE in
theorem aUr(h:1≤g.Config.L∧g.Config.L≤16∧1≤g.Config.R∧g.Config.R≤8):IntKind.i64.wrap (g.Config.L*g.Config.R)=g.Config.L*g.Config.R:=by
 have h1:0≤g.Config.L*g.Config.R:=Int.mul_nonneg om om;have h2:g.Config.L*g.Config.R≤16*8:=Int.mul_le_mul om om om om;exact wr0 om om
include hH
theorem gT:eC g=some (grB g):=by
 have hFU:=FU;have e:=bR4 hE bC 0 om om (Nat.zero_le _);rw [List.drop_zero] at e;unfold eC grB
 by_cases c:1≤g.Config.N∧g.Config.N≤1024∧1≤g.Config.L∧g.Config.L≤16∧1≤g.Config.R∧g.Config.R≤8
 ·
  rw [bf (by simp;omega),aUr ⟨c.2.2.1,c.2.2.2.1,c.2.2.2.2⟩]
  by_cases k:(g.Hashes.length:Int)=g.Config.L*g.Config.R
  ·
   rw [bf (by simp [k]),show (0:Int)=((0:Nat):Int) from rfl,e];have:cfB g=true:=by unfold cfB;rw [decide_eq_true_eq];exact ⟨c.1,c.2.1,c.2.2.1,c.2.2.2.1,c.2.2.2.2.1,c.2.2.2.2.2,k⟩
   rw [this];rfl
  ·
   rw [bt (by simp [k])];have:cfB g=false:=by unfold cfB;rw [decide_eq_false_iff_not];exact fun q=>k q.2.2.2.2.2.2
   rw [this];rfl
 ·
  have:cfB g=false:=by unfold cfB;rw [decide_eq_false_iff_not];exact fun q=>c ⟨q.1,q.2.1,q.2.2.1,q.2.2.2.1,q.2.2.2.2.1,q.2.2.2.2.2.1⟩
  rw [bt (by simp;omega),this];rfl
theorem aSu:vM g=some (grB g):=by
 have hFU:=FU;have e:=bR2 hE bC 0 om om (Nat.zero_le _);rw [List.drop_zero] at e;unfold vM grB
 by_cases c:1≤g.Config.N∧g.Config.N≤1024∧1≤g.Config.L∧g.Config.L≤16∧1≤g.Config.R∧g.Config.R≤8
 ·
  rw [aUr ⟨c.2.2.1,c.2.2.2.1,c.2.2.2.2⟩]
  by_cases k:(g.Hashes.length:Int)=g.Config.L*g.Config.R
  ·
   rw [bf (by simp [k];omega),show (0:Int)=((0:Nat):Int) from rfl,e];have:cfB g=true:=by unfold cfB;rw [decide_eq_true_eq];exact ⟨c.1,c.2.1,c.2.2.1,c.2.2.2.1,c.2.2.2.2.1,c.2.2.2.2.2,k⟩
   rw [this];rfl
  ·
   rw [bt (by simp [k])];have:cfB g=false:=by unfold cfB;rw [decide_eq_false_iff_not];exact fun q=>k q.2.2.2.2.2.2
   rw [this];rfl
 ·
  have:cfB g=false:=by unfold cfB;rw [decide_eq_false_iff_not];exact fun q=>c ⟨q.1,q.2.1,q.2.2.1,q.2.2.2.1,q.2.2.2.2.1,q.2.2.2.2.2.1⟩
  rw [bt (by simp;omega),this];rfl
end
structure GOK(g:aF):Prop where
  n1:1≤g.Config.N
  n2:g.Config.N≤1024
  l1:1≤g.Config.L
  l2:g.Config.L≤16
  r1:1≤g.Config.R
  r2:g.Config.R≤8
  hl:(g.Hashes.length:Int)=g.Config.L*g.Config.R
  hs:hsB g.Hashes=true
  tr:trB g.Config.N g.Edges=true
  ti:tiB g.Config.L g.Edges=true
  fr:foB g.Config.N (fo g.Edges g.Config.L)=true
  rg:Rg g.Config.N g.Edges
theorem gok{g:aF}(h:grB g=true):GOK g:=by
 unfold grB cfB at h;simp only [Bool.and_eq_true,decide_eq_true_eq] at h;obtain ⟨⟨a,b,c,d,e,f,k⟩,h1,h2,h3,h4⟩:=h;exact ⟨a,b,c,d,e,f,k,h1,h2,h3,h4,(aIi h2).2.2⟩
open Go Go.AM Go.Pl Go.Pt
theorem aJ3(a b:List Int)(hab:a.length=b.length)(hl:a.length<1000000000): ∀(m i:Nat),a.length<i+m→i≤a.length→kY m a b (a.length:Int) (i:Int)=some (decide (a.drop i=b.drop i))
 |0,i,h,hi=>by omega
 |m+1,i,h,hi=>by
  show vU (kY m) a b _ _=_;unfold vU
  by_cases c:i<a.length
  ·
   have c':i<b.length:=by omega
   rw [bt (oE c),cE c,aA,cE c',aA,wr1 i om,cW c,cW c']
   by_cases q:a[i]=b[i]
   · rw [bf (by simp [q]),aJ3 a b hab hl m (i+1) om c];simp [q,-List.getElem_cons_drop]
   · rw [bt (by simp [q])];simp [q,-List.getElem_cons_drop]
  · rw [bf (oD c),List.drop_eq_nil_of_le om,List.drop_eq_nil_of_le om];rfl
theorem aRo(a b:List Int)(hl:a.length<1000000000):mC a b=some (decide (a=b)):=by
 have hFU:=FU;unfold mC
 by_cases h:a.length=b.length
 · rw [bf (by simp [h]),show (0:Int)=((0:Nat):Int) from rfl,aJ3 a b h hl bC 0 om (Nat.zero_le _)];rfl
 · rw [bt (by simp;omega)];have: ¬a=b:=fun e=>h (by rw [e]);simp [this]
theorem bK4(x y:aD):((x.U==y.U)&&((x.V==y.V)&&(x.Tier==y.Tier)))=decide (x=y):=by
 cases x with|mk a b c=>cases y with|mk d e f=>
 by_cases h1:a=d<;>by_cases h2:b=e<;>by_cases h3:c=f<;>simp [h1,h2,h3]
theorem aOj(a b:List aD)(hab:a.length=b.length)(hl:a.length<1000000000): ∀(m i:Nat),a.length<i+m→i≤a.length→vK m a b (i:Int)=some (decide (a.drop i=b.drop i))
 |0,i,h,hi=>by omega
 |m+1,i,h,hi=>by
  show aFh (vK m) a b _=_;unfold aFh
  by_cases c:i<a.length
  ·
   have c':i<b.length:=by omega
   rw [bt (oE c),cE c,aA,cE c',aA,wr1 i om,cW c,cW c',bK4]
   by_cases q:a[i]=b[i]
   · rw [bf (by simp [q]),aOj a b hab hl m (i+1) om c];simp [q,-List.getElem_cons_drop]
   · rw [bt (by simp [q])];simp [q,-List.getElem_cons_drop]
  · rw [bf (oD c),List.drop_eq_nil_of_le om,List.drop_eq_nil_of_le om];rfl
theorem aWk(a b:List aD)(hl:a.length<1000000000):yP a b=some (decide (a=b)):=by
 have hFU:=FU;unfold yP
 by_cases h:a.length=b.length
 · rw [bf (by simp [h]),show (0:Int)=((0:Nat):Int) from rfl,aOj a b h hl bC 0 om (Nat.zero_le _)];rfl
 · rw [bt (by simp;omega)];have: ¬a=b:=fun e=>h (by rw [e]);simp [this]
def kf(g:aF):List aD:=fo g.Edges g.Config.L
theorem bPw{n:Int}(hn:n≤1024)(l:List aD):(pt n l).length<1000000000:=by rw [aWh];omega
section
variable {g:aF}(hE:g.Edges.length<1000000000)(hH:g.Hashes.length<1000000000)
include hE hH
theorem aFz:mM g=some (if grB g then pt g.Config.N (kf g) else []):=by
 unfold mM;rw [gT hE hH,aA]
 cases h:grB g with
 |false=>rfl
 |true=>
  have k:=gok h;have:=aMy g.Edges g.Config.L;rw [bf (c:= !true) rfl,mE hE,aA,k.tr];simp only [if_true];rw [aE5 om (by have:=k.n1;omega) k.n2 (aGv k.rg _),aA];rfl
theorem bAs:aDn g=some (if grB g then pt g.Config.N g.Edges else []):=by
 unfold aDn;rw [gT hE hH,aA]
 cases h:grB g with
 |false=>rfl
 |true=>
  have k:=gok h;rw [bf (c:= !true) rfl,aE5 hE (by have:=k.n1;omega) k.n2 k.rg,aA];rfl
theorem aSd:uL g=some (grB g&&decide (pt g.Config.N (kf g)=pt g.Config.N g.Edges)):=by
 unfold uL;rw [gT hE hH,aA,aFz hE hH,bAs hE hH]
 cases h:grB g with
 |false=>rfl
 |true=>
  simp only [if_true];rw [gtt,aA,gtt,aA,gtt,aRo _ _ (bPw (gok h).n2 _),aA]
end
section
variable {g:aF}(hE:g.Edges.length<1000000000)(h:GOK g)
include hE h
end
open Go Go.AM Go.Pl Go.Pt
theorem InR.app{n:Nat}{l l':List E}(h: ∀e,e∈l→e∈l')(hr:InR n l'):InR n (l'++l):=fun e he=>by
 rcases List.mem_append.1 he with m|m
 · exact hr e m
 · exact hr e (h e m)
def bare(l:List aD):List aD:=l.map fun e=>aD.mk e.U e.V 0
end Go.Proofs.YtkdohhmacfoolaaGreatDoor
