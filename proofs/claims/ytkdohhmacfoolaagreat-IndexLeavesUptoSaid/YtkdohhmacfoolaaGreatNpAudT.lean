/- Facts. No condition. -/
import Derived.Test.YtkdohhmacfoolaaGreatNpAudQ
set_option linter.unusedVariables false
set_option linter.unusedSimpArgs false
set_option maxRecDepth 20000
set_option maxHeartbeats 1000000
namespace Go.Proofs.YtkdohhmacfoolaaGreat
open Go Go.AM Go.Pl Go.Pt
theorem Rg.take{n:Int}{l:List aH}(h:Rg n l)(i:Nat):Rg n (l.take i):=h.mono fun e he=>List.mem_of_mem_take he
def hsB(l:List dI):Bool:=l.all fun h=>decide (h.A<2305843009213693951)&&decide (h.B<2305843009213693951)
def tiB(t:Int)(l:List aH):Bool:=l.all fun e=>decide (e.Tier≤t)
theorem bBf(t:Int)(e:aH)(l:List aH):tiB t (e::l)=(decide (e.Tier≤t)&&tiB t l):=rfl
theorem aS8(h:dI)(l:List dI):hsB (h::l)=((decide (h.A<2305843009213693951)&&decide (h.B<2305843009213693951))&&hsB l):=rfl
def cfB(g:aU):Bool:=decide (1≤g.Config.N∧g.Config.N≤1024∧1≤g.Config.L∧g.Config.L≤16∧1≤g.Config.R∧g.Config.R≤8∧(g.Hashes.length:Int)=g.Config.L*g.Config.R)
def grB(g:aU):Bool:=cfB g&&(hsB g.Hashes&&(trB g.Config.N g.Edges&&(tiB g.Config.L g.Edges&&foB g.Config.N (fo g.Edges g.Config.L))))
theorem aP3{n:Int}{l:List aH}(h:trB n l=true):0≤n∧n≤1024∧Rg n l:=by
 unfold trB at h;simp only [Bool.and_eq_true,decide_eq_true_eq] at h;exact ⟨h.1.1,h.1.2,bV2 h.2⟩
theorem aPq{n:Int}{l:List aH}(h:Rg n l)(t:Int):Rg n (fo l t):=h.mono fun e he=>bEx he
section
variable {g:aU}(hE:g.Edges.length<1000000000)(hH:g.Hashes.length<1000000000)
include hE
theorem bSy(hT:trB g.Config.N g.Edges=true): ∀(m i:Nat),g.Edges.length<i+m→i+m≤bC→i≤g.Edges.length→wE m g g.Config g.Edges (g.Edges.length:Int) (i:Int)=some (tiB g.Config.L (g.Edges.drop i)&&foB g.Config.N (fo g.Edges g.Config.L))
 |0,i,h,_,hi=>by omega
 |m+1,i,h,hF,hi=>by
  have hFU:=FU;obtain ⟨n0,n1,hr⟩:=aP3 hT;show aF1 (wE m) g g.Config g.Edges _ _=_;unfold aF1
  by_cases c:i<g.Edges.length
  ·
   rw [bt (aAi c),eQ c,aA,fH c,wr1 i om]
   by_cases q:g.Edges[i].Tier≤g.Config.L
   · rw [bf (by simp;omega),bSy hT m (i+1) om om c];rw [bBf];simp [q]
   · rw [bt (by simp;omega)];rw [bBf];simp [q]
  · rw [bf (aAh c),wQ hE,aA,hT,List.drop_eq_nil_of_le om];have:=aWo g.Edges g.Config.L;simp only [if_true];rw [aGb n0 n1 om (aPq hr _),aA];rfl
theorem bSx: ∀(m i:Nat),g.Hashes.length<i+m→i+m≤bC→i≤g.Hashes.length→wC m g g.Config g.Hashes (g.Hashes.length:Int) (i:Int)=some (hsB (g.Hashes.drop i)&&(trB g.Config.N g.Edges&&(tiB g.Config.L g.Edges&&foB g.Config.N (fo g.Edges g.Config.L))))
 |0,i,h,_,hi=>by omega
 |m+1,i,h,hF,hi=>by
  have hFU:=FU;show aF0 (wC m) g g.Config g.Hashes _ _=_;unfold aF0
  by_cases c:i<g.Hashes.length
  ·
   rw [bt (aAi c),eQ c,aA,fH c,wr1 i om]
   by_cases q:g.Hashes[i].A<2305843009213693951∧g.Hashes[i].B<2305843009213693951
   · rw [bf (by simp;omega),bSx m (i+1) om om c];rw [aS8];simp [q]
   ·
    rw [bt (by simp;omega)];have:(decide (g.Hashes[i].A<2305843009213693951)&&decide (g.Hashes[i].B<2305843009213693951))=false:=by simp;omega
    rw [aS8,this];rfl
  ·
   rw [bf (aAh c),sH hE,aA,List.drop_eq_nil_of_le om]
   cases hT:trB g.Config.N g.Edges with
   |false=>rfl
   |true=>
    rw [bf (c:= !true) rfl,show (0:Int)=((0:Nat):Int) from rfl,bSy hE hT bC 0 om om (Nat.zero_le _)];rfl
omit hE in
theorem bFq(h:1≤g.Config.L∧g.Config.L≤16∧1≤g.Config.R∧g.Config.R≤8):IntKind.i64.wrap (g.Config.L*g.Config.R)=g.Config.L*g.Config.R:=by
 have h1:0≤g.Config.L*g.Config.R:=Int.mul_nonneg om om;have h2:g.Config.L*g.Config.R≤16*8:=Int.mul_le_mul om om om om;exact wr0 om om
include hH
theorem pF:lV g=some (grB g):=by
 have hFU:=FU;have e:=bSx hE bC 0 om om (Nat.zero_le _);rw [List.drop_zero] at e;unfold lV grB
 by_cases c:1≤g.Config.N∧g.Config.N≤1024∧1≤g.Config.L∧g.Config.L≤16∧1≤g.Config.R∧g.Config.R≤8
 ·
  rw [bf (by simp;omega),bFq ⟨c.2.2.1,c.2.2.2.1,c.2.2.2.2⟩]
  by_cases k:(g.Hashes.length:Int)=g.Config.L*g.Config.R
  ·
   rw [bf (by simp [k]),show (0:Int)=((0:Nat):Int) from rfl,e];have:cfB g=true:=by unfold cfB;rw [decide_eq_true_eq];exact ⟨c.1,c.2.1,c.2.2.1,c.2.2.2.1,c.2.2.2.2.1,c.2.2.2.2.2,k⟩
   rw [this];rfl
  ·
   rw [bt (by simp [k])];have:cfB g=false:=by unfold cfB;rw [decide_eq_false_iff_not];exact fun q=>k q.2.2.2.2.2.2
   rw [this];rfl
 ·
  have:cfB g=false:=by unfold cfB;rw [decide_eq_false_iff_not];exact fun q=>c ⟨q.1,q.2.1,q.2.2.1,q.2.2.2.1,q.2.2.2.2.1,q.2.2.2.2.2.1⟩
  rw [bt (by simp;omega),this];rfl
end
structure GOK(g:aU):Prop where
  n1:1≤g.Config.N
  n2:g.Config.N≤1024
  l1:1≤g.Config.L
  l2:g.Config.L≤16
  r1:1≤g.Config.R
  r2:g.Config.R≤8
  hl:(g.Hashes.length:Int)=g.Config.L*g.Config.R
  hs:hsB g.Hashes=true
  tr:trB g.Config.N g.Edges=true
  ti:tiB g.Config.L g.Edges=true
  fr:foB g.Config.N (fo g.Edges g.Config.L)=true
  rg:Rg g.Config.N g.Edges
theorem gok{g:aU}(h:grB g=true):GOK g:=by
 unfold grB cfB at h;simp only [Bool.and_eq_true,decide_eq_true_eq] at h;obtain ⟨⟨a,b,c,d,e,f,k⟩,h1,h2,h3,h4⟩:=h;exact ⟨a,b,c,d,e,f,k,h1,h2,h3,h4,(aP3 h2).2.2⟩
open Go Go.AM Go.Pl Go.Pt
theorem aLe(a b:List Int)(hab:a.length=b.length)(hl:a.length<1000000000): ∀(m i:Nat),a.length<i+m→i≤a.length→rW m a b (a.length:Int) (i:Int)=some (decide (a.drop i=b.drop i))
 |0,i,h,hi=>by omega
 |m+1,i,h,hi=>by
  show aBl (rW m) a b _ _=_;unfold aBl
  by_cases c:i<a.length
  ·
   have c':i<b.length:=by omega
   rw [bt (aAi c),eQ c,aA,eQ c',aA,wr1 i om,fH c,fH c']
   by_cases q:a[i]=b[i]
   · rw [bf (by simp [q]),aLe a b hab hl m (i+1) om c];simp [q,-List.getElem_cons_drop]
   · rw [bt (by simp [q])];simp [q,-List.getElem_cons_drop]
  · rw [bf (aAh c),List.drop_eq_nil_of_le om,List.drop_eq_nil_of_le om];rfl
theorem aT0(a b:List Int)(hl:a.length<1000000000):sT a b=some (decide (a=b)):=by
 have hFU:=FU;unfold sT
 by_cases h:a.length=b.length
 · rw [bf (by simp [h]),show (0:Int)=((0:Nat):Int) from rfl,aLe a b h hl bC 0 om (Nat.zero_le _)];rfl
 · rw [bt (by simp;omega)];have: ¬a=b:=fun e=>h (by rw [e]);simp [this]
theorem bM3(x y:aH):((x.U==y.U)&&((x.V==y.V)&&(x.Tier==y.Tier)))=decide (x=y):=by
 cases x with|mk a b c=>cases y with|mk d e f=>
 by_cases h1:a=d<;>by_cases h2:b=e<;>by_cases h3:c=f<;>simp [h1,h2,h3]
theorem aQ0(a b:List aH)(hab:a.length=b.length)(hl:a.length<1000000000): ∀(m i:Nat),a.length<i+m→i≤a.length→aBc m a b (i:Int)=some (decide (a.drop i=b.drop i))
 |0,i,h,hi=>by omega
 |m+1,i,h,hi=>by
  show aI6 (aBc m) a b _=_;unfold aI6
  by_cases c:i<a.length
  ·
   have c':i<b.length:=by omega
   rw [bt (aAi c),eQ c,aA,eQ c',aA,wr1 i om,fH c,fH c',bM3]
   by_cases q:a[i]=b[i]
   · rw [bf (by simp [q]),aQ0 a b hab hl m (i+1) om c];simp [q,-List.getElem_cons_drop]
   · rw [bt (by simp [q])];simp [q,-List.getElem_cons_drop]
  · rw [bf (aAh c),List.drop_eq_nil_of_le om,List.drop_eq_nil_of_le om];rfl
theorem aXr(a b:List aH)(hl:a.length<1000000000):aCx a b=some (decide (a=b)):=by
 have hFU:=FU;unfold aCx
 by_cases h:a.length=b.length
 · rw [bf (by simp [h]),show (0:Int)=((0:Nat):Int) from rfl,aQ0 a b h hl bC 0 om (Nat.zero_le _)];rfl
 · rw [bt (by simp;omega)];have: ¬a=b:=fun e=>h (by rw [e]);simp [this]
def kf(g:aU):List aH:=fo g.Edges g.Config.L
theorem bRt{n:Int}(hn:n≤1024)(l:List aH):(pt n l).length<1000000000:=by rw [bF5];omega
section
variable {g:aU}(hE:g.Edges.length<1000000000)(hH:g.Hashes.length<1000000000)
include hE hH
theorem aNw:wT g=some (if grB g then pt g.Config.N (kf g) else []):=by
 unfold wT;rw [pF hE hH,aA]
 cases h:grB g with
 |false=>rfl
 |true=>
  have k:=gok h;have:=aWo g.Edges g.Config.L;rw [bf (c:= !true) rfl,wQ hE,aA,k.tr];simp only [if_true];rw [aKp om (by have:=k.n1;omega) k.n2 (aPq k.rg _),aA];rfl
theorem bCe:aGp g=some (if grB g then pt g.Config.N g.Edges else []):=by
 unfold aGp;rw [pF hE hH,aA]
 cases h:grB g with
 |false=>rfl
 |true=>
  have k:=gok h;rw [bf (c:= !true) rfl,aKp hE (by have:=k.n1;omega) k.n2 k.rg,aA];rfl
theorem aTr:aAo g=some (grB g&&decide (pt g.Config.N (kf g)=pt g.Config.N g.Edges)):=by
 unfold aAo;rw [pF hE hH,aA,aNw hE hH,bCe hE hH]
 cases h:grB g with
 |false=>rfl
 |true=>
  simp only [if_true];rw [gtt,aA,gtt,aA,gtt,aT0 _ _ (bRt (gok h).n2 _),aA]
end
section
variable {g:aU}(hE:g.Edges.length<1000000000)(h:GOK g)
include hE h
end
open Go Go.AM Go.Pl Go.Pt
theorem InR.app{n:Nat}{l l':List E}(h: ∀e,e∈l→e∈l')(hr:InR n l'):InR n (l'++l):=fun e he=>by
 rcases List.mem_append.1 he with m|m
 · exact hr e m
 · exact hr e (h e m)
def bare(l:List aH):List aH:=l.map fun e=>aH.mk e.U e.V 0
end Go.Proofs.YtkdohhmacfoolaaGreat
