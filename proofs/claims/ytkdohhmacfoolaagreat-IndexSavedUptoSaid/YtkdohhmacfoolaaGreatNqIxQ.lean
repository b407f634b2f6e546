/- Facts. No condition. -/
import Derived.Test.YtkdohhmacfoolaaGreatNqIxN
set_option linter.unusedVariables false
set_option linter.unusedSimpArgs false
set_option maxRecDepth 20000
set_option maxHeartbeats 1000000
namespace Go.Proofs.YtkdohhmacfoolaaGreat
open Go Go.AM Go.Pl Go.Pt Go.Ix
theorem aR0(l:List Int)(k:Int)(hl:l.length<1000000): ∀(m i:Nat),l.length<i+m→i≤l.length→
 ∃v,aEb m l k (i:Int)=some v∧((k∉l.drop i∧v= -1)∨ ∃j:Nat,v=(j:Int)∧l[j]? =some k)
 |0,i,hm,hi=>by omega
 |m+1,i,hm,hi=>by
  show ∃v,aIv (aEb m) l k (i:Int)=some v∧_;unfold aIv
  by_cases c:i<l.length
  ·
   rw [bt (by simpa using c),eC c,aA,fC c,wr1 i om]
   by_cases q:l[i]=k
   · rw [bt (by simp [q])];exact ⟨_,rfl,.inr ⟨i,rfl,by rw [List.getElem?_eq_getElem c,q]⟩⟩
   ·
    rw [bf (by simp [q])];obtain ⟨v,h1,h2⟩:=aR0 l k hl m (i+1) om c;refine ⟨v,h1,?_⟩;rcases h2 with ⟨h2,h3⟩|h2
    · exact .inl ⟨fun h=>(List.mem_cons.1 h).elim (fun e=>q e.symm) h2,h3⟩
    · exact .inr h2
  · rw [bf (by simpa using c),List.drop_eq_nil_of_le om];exact ⟨_,rfl,.inl ⟨by simp,rfl⟩⟩
theorem yD{l:List Int}(k:Int)(hl:l.length<1000000): ∃v,aKk l k=some v∧((k∉l∧v= -1)∨ ∃j:Nat,v=(j:Int)∧l[j]? =some k):=by
 have hFU:=FU';exact aR0 l k hl aZ 0 om (Nat.zero_le _)
def pr2(a b:Int):aC:=if b<a then ⟨b,a⟩ else ⟨a,b⟩
theorem aYv(a b:Int):aKm a b=some (pr2 a b):=by
 unfold aKm pr2
 by_cases c:b<a
 · rw [bt (by simpa using c),if_pos c];try rfl
 · rw [bf (by simpa using c),if_neg c];try rfl
theorem bBw(a b:Int):pr2 a b=pr2 b a:=by
 unfold pr2
 by_cases c:b<a
 · rw [if_pos c,if_neg om]
 ·
  by_cases d:a<b
  · rw [if_neg c,if_pos d]
  ·
   have:a=b:=by omega
   rw [this]
theorem bT9{a b c d:Int}(h:pr2 a b=pr2 c d):(a=c∧b=d)∨(a=d∧b=c):=by
 unfold pr2 at h;split at h<;>split at h<;>(injection h with h1 h2;omega)
theorem bE3(p q:aC):bE2 p q=decide (p=q):=by
 cases p with|mk a b=>cases q with|mk c d=>
 unfold bE2
 by_cases h1:a=c<;>by_cases h2:b=d<;>simp [h1,h2]
theorem aWm(l:List aC)(k:aC)(hl:l.length<1000000): ∀(m i:Nat),l.length<i+m→i≤l.length→
 ∃v,aIu m l k (i:Int)=some v∧((k∉l.drop i∧v= -1)∨ ∃j:Nat,v=(j:Int)∧l[j]? =some k)
 |0,i,hm,hi=>by omega
 |m+1,i,hm,hi=>by
  show ∃v,aMo (aIu m) l k (i:Int)=some v∧_;unfold aMo
  by_cases c:i<l.length
  ·
   rw [bt (by simpa using c),eC c,aA,fC c,wr1 i om,bE3]
   by_cases q:l[i]=k
   · rw [bt (by simp [q])];exact ⟨_,rfl,.inr ⟨i,rfl,by rw [List.getElem?_eq_getElem c,q]⟩⟩
   ·
    rw [bf (by simp [q])];obtain ⟨v,h1,h2⟩:=aWm l k hl m (i+1) om c;refine ⟨v,h1,?_⟩;rcases h2 with ⟨h2,h3⟩|h2
    · exact .inl ⟨fun h=>(List.mem_cons.1 h).elim (fun e=>q e.symm) h2,h3⟩
    · exact .inr h2
  · rw [bf (by simpa using c),List.drop_eq_nil_of_le om];exact ⟨_,rfl,.inl ⟨by simp,rfl⟩⟩
theorem bGc{l:List aC}(k:aC)(hl:l.length<1000000): ∃v,aPp l k=some v∧((k∉l∧v= -1)∨ ∃j:Nat,v=(j:Int)∧l[j]? =some k):=by
 have hFU:=FU';exact aWm l k hl aZ 0 om (Nat.zero_le _)
def touch(a:Int)(p:aC):Bool:=p.x0==a||p.x1==a
def bW7(a:Int)(p:aC):Int:=IntKind.u64.wrap (IntKind.u64.wrap (p.x0+p.x1)-a)
def aWd(l:List aC)(a:Int):List Int:=bWb ((l.filter (touch a)).map (bW7 a))
theorem aWa: ∀(l out:List Int),(l.foldl (fun out x=>aUx x out) out).length=l.length+out.length
 |[],out=>by simp
 |x::l,out=>by rw [List.foldl_cons,aWa l,aTa,List.length_cons];omega
theorem bPm(l:List Int):(bWb l).length=l.length:=by unfold bWb;rw [aWa];simp
theorem bLn(l:List aC)(a:Int):(aWd l a).length=(l.filter (touch a)).length:=by unfold aWd;rw [bPm,List.length_map]
theorem aJd(rec1:Int→aT→List Int→Int→Option (List Int))(a:Int)(mm:aT)(out:List Int)(ho:out.length<1000000)(i other:Int): ∀(m k:Nat),out.length<k+m→k≤out.length→(∀j y,j<k→out[j]? =some y→y<other)→
 aEd rec1 m a mm out i other (k:Int)=rec1 a mm (aUx other out) (IntKind.i64.wrap (i+1))
 |0,k,hm,hk,_=>by omega
 |m+1,k,hm,hk,hp=>by
  show aIx rec1 (aEd rec1 m) _ _ _ _ _ _=_;unfold aIx aEc
  by_cases c:k<out.length
  ·
   rw [gt' (by simpa using c),eC c,aA]
   by_cases q:out[k]<other
   ·
    rw [bt (by simp;omega),wr1 k om]
    exact aJd rec1 a mm out ho i other m (k+1) om c fun j y hj hy=>by
     rcases Nat.lt_or_ge j k with w|w
     · exact hp j y w hy
     ·
      have:j=k:=by omega
      subst this;rw [List.getElem?_eq_getElem c] at hy;cases hy;exact q
   · rw [bf (by simp;omega),aFi rfl hk,aA,mM (by simp;omega),aA,mM (by simp;omega),aA,aBr rfl hk,aA,mM (by simp;omega),aA];rw [aXz hk hp fun y hy=>by rw [List.getElem?_eq_getElem c] at hy;cases hy;exact q];simp
  · rw [gf' (by simpa using c),aA,bf (by simp;omega),aFi rfl hk,aA,mM (by simp;omega),aA,mM (by simp;omega),aA,aBr rfl hk,aA,mM (by simp;omega),aA];rw [aXz hk hp fun y hy=>by rw [List.getElem?_eq_none om] at hy;cases hy];simp
theorem aKl(a:Int)(mm:aT)(hl:mm.Pairs.length<100000): ∀(m i:Nat) (out:List Int),mm.Pairs.length<i+m→i≤mm.Pairs.length→out.length≤i→
 aBn m a mm out (i:Int)=some ((((mm.Pairs.drop i).filter (touch a)).map (bW7 a)).foldl (fun out x=>aUx x out) out)
 |0,i,out,hm,hi,_=>by omega
 |m+1,i,out,hm,hi,ho=>by
  have hFU:=FU';show aIw (aBn m) _ _ _ _=_;unfold aIw
  by_cases c:i<mm.Pairs.length
  ·
   rw [bt (by simpa using c),eC c,aA,fC c,List.filter_cons]
   cases q:touch a mm.Pairs[i] with
   |true=>
    have e:(mm.Pairs[i].x0 !=a&&mm.Pairs[i].x1 !=a)=false:=by unfold touch at q;simp at q;simp;omega
    rw [bf e,if_pos rfl];have:=aJd (aBn m) a mm out om (i:Int) (bW7 a mm.Pairs[i]) aZ 0 om (Nat.zero_le _) (fun j y hj=>by omega);rw [wr1 i om,aKl a mm hl m (i+1) _ om c (by rw [aTa];omega)] at this;exact this
   |false=>
    have e:(mm.Pairs[i].x0 !=a&&mm.Pairs[i].x1 !=a)=true:=by unfold touch at q;simp at q;simp;omega
    rw [bt e,if_neg (by simp)];unfold aEc;rw [wr1 i om];exact aKl a mm hl m (i+1) out om c om
  · rw [bf (by simpa using c),List.drop_eq_nil_of_le om];rfl
theorem aYu{m:aT}(hl:m.Pairs.length<100000)(a:Int):aR1 m a=some (aWd m.Pairs a):=by
 have hFU:=FU';exact aKl a m hl aZ 0 [] om (Nat.zero_le _) (Nat.le_refl _)
def aE3(l:List aH)(v:Int):List Int:=l.filterMap fun e=>if v=e.U then some e.V else if v=e.V then some e.U else none
theorem aGj(l:List aH)(hl:l.length<100000)(v:Int): ∀(m i:Nat) (out:List Int),l.length<i+m→i≤l.length→out.length≤i→aBv m v out l (l.length:Int) (i:Int)=some (out++aE3 (l.drop i) v)
 |0,i,out,hm,hi,_=>by omega
 |m+1,i,out,hm,hi,ho=>by
  show aJ6 (aBv m) _ _ _ _ _=_;unfold aJ6 aEj
  by_cases c:i<l.length
  ·
   rw [bt (by simpa using c),eC c,aA,fC c,wr1 i om];unfold aE3;rw [List.filterMap_cons]
   by_cases q:v=l[i].U
   · rw [bt (by simpa using q),mM (by simp;omega),aA,if_pos q,aGj l hl v m (i+1) _ om c (by simp;omega)];simp [aE3]
   ·
    by_cases q2:v=l[i].V
    · rw [bf (by simpa using q),bt (by simpa using q2),mM (by simp;omega),aA,if_neg q,if_pos q2,aGj l hl v m (i+1) _ om c (by simp;omega)];simp [aE3]
    · rw [bf (by simpa using q),bf (by simpa using q2),if_neg q,if_neg q2,aGj l hl v m (i+1) _ om c om];simp [aE3]
  · rw [bf (by simpa using c),List.drop_eq_nil_of_le om];simp [aE3]
theorem aI8{s:aF}(hg:grB s.Graph=true)(hl:s.Graph.Edges.length<100000){v:Int}(h0:0≤v)(h1:v<s.Graph.Config.N):aAi s v=some (aE3 s.Graph.Edges v):=by
 have hFU:=FU';have k:=gok hg;unfold aAi aGk mI;rw [sS om,aA,k.tr,gt' (by rfl),aA,bf (by simp;omega)];have:=aGj s.Graph.Edges hl v aZ 0 [] om (Nat.zero_le _) (Nat.le_refl _);rw [show (0:Int)=((0:Nat):Int) from rfl,this];rfl
def uk(l:List aR):List Int:=(l.filter (·.Used)).map (·.Key)
theorem aZb(a b:List aR)(x:aR):uk (a++x::b)=uk a++((if x.Used=true then [x.Key] else [])++uk b):=by
 unfold uk;rw [List.filter_append,List.filter_cons,List.map_append];split<;>simp
theorem bW1{l:List aR}{k:Int} :k∈uk l↔ ∃j,At l j k:=by
 unfold uk At;rw [List.mem_map];constructor
 ·
  rintro ⟨s,hs,rfl⟩;obtain ⟨h1,h2⟩:=List.mem_filter.1 hs;obtain ⟨j,hj⟩:=List.getElem?_of_mem h1;refine ⟨j,hj.trans ?_⟩
  cases s with
  |mk u k=>cases h2;rfl
 · rintro ⟨j,hj⟩;exact ⟨_,List.mem_filter.2 ⟨List.mem_of_getElem? hj,rfl⟩,rfl⟩
theorem parts{l:List aR}{j:Nat}{s:aR}(h:l[j]? =some s)(x:aR):l=l.take j++s::l.drop (j+1)∧l.set j x=l.take j++x::l.drop (j+1):=by
 obtain ⟨hj,rfl⟩:=List.getElem?_eq_some_iff.1 h;refine ⟨?_,?_⟩
 · conv=>lhs;rw [←List.take_append_drop j l,fC hj]
 · rw [List.set_eq_take_append_cons_drop,if_pos hj]
theorem bUn{l:List aR}{j:Nat}{s:aR}(h:l[j]? =some s)(hs:s.Used=false)(k:Int):(uk (l.set j ⟨true,k⟩)).Perm (k::uk l):=by
 obtain ⟨p1,p2⟩:=parts h ⟨true,k⟩
 have e1:uk l=uk (l.take j)++([]++uk (l.drop (j+1))):=by
  conv=>lhs;rw [p1]
  rw [aZb,hs];rfl
 rw [e1,p2,aZb,if_pos rfl];exact List.perm_middle
theorem bWn{l:List aR}{j:Nat}{k:Int}(h:At l j k):(uk l).Perm (k::uk (l.set j ⟨false,0⟩)):=by
 obtain ⟨p1,p2⟩:=parts h ⟨false,0⟩
 have e1:uk l=uk (l.take j)++([k]++uk (l.drop (j+1))):=by
  conv=>lhs;rw [p1]
  rw [aZb];rfl
 rw [e1,p2,aZb,if_neg (by simp)];exact List.perm_middle
theorem bUm(l:List aR):(uk l).length≤l.length:=by unfold uk;rw [List.length_map];exact List.length_filter_le _ _
theorem bWm{l:List aR}(h: ∀s,s∈l→s.Used=true):(uk l).length=l.length:=by
 unfold uk;rw [List.length_map,List.filter_eq_self.2 h]
theorem at_set{l:List aR}{j i:Nat}{x:aR}{k:Int}(h:At (l.set j x) i k):(i=j∧x=⟨true,k⟩)∨(i≠j∧At l i k):=by
 unfold At at*
 by_cases c:j=i
 ·
  subst c;rw [List.getElem?_set] at h;simp only [if_true] at h;split at h
  · cases h;exact .inl ⟨rfl,rfl⟩
  · cases h
 · rw [List.getElem?_set_ne c] at h;exact .inr ⟨fun e=>c e.symm,h⟩
theorem aS1{l:List aR}{j i:Nat}{x:aR}{k:Int}(h:At l i k)(hn:i≠j):At (l.set j x) i k:=by
 unfold At at*;rw [List.getElem?_set_ne (fun e=>hn e.symm)];exact h
theorem VOK.on{l:List aR}(h:VOK l){j:Nat}{key:Int}(hn: ∀i,¬At l i key):VOK (l.set j ⟨true,key⟩):=by
 refine ⟨by rw [List.length_set];exact h.n1,by rw [List.length_set];exact h.n2,fun s hs hu=>?_,fun i i' k a b=>?_⟩
 ·
  rcases List.mem_or_eq_of_mem_set hs with q|rfl
  · exact h.z s q hu
  · cases hu
 ·
  rcases at_set a with ⟨a1,a2⟩|⟨a1,a2⟩<;>rcases at_set b with ⟨b1,b2⟩|⟨b1,b2⟩
  · omega
  · cases a2;exact absurd b2 (hn _)
  · cases b2;exact absurd a2 (hn _)
  · exact h.inj _ _ _ a2 b2
theorem VOK.off{l:List aR}(h:VOK l){j:Nat} :VOK (l.set j ⟨false,0⟩):=by
 refine ⟨by rw [List.length_set];exact h.n1,by rw [List.length_set];exact h.n2,fun s hs hu=>?_,fun i i' k a b=>?_⟩
 ·
  rcases List.mem_or_eq_of_mem_set hs with q|rfl
  · exact h.z s q hu
  · rfl
 ·
  rcases at_set a with ⟨a1,a2⟩|⟨a1,a2⟩
  · cases a2
  rcases at_set b with ⟨b1,b2⟩|⟨b1,b2⟩
  · cases b2
  exact h.inj _ _ _ a2 b2
def kv(l:List aR)(v:Int):Int:=((l[v.toNat]?).map (·.Key)).getD 0
def aFu(l:List aR)(e:Int×Int):aC:=pr2 (kv l e.1) (kv l e.2)
theorem aQq{l:List aR}{j:Nat}{k:Int}(h:At l j k):kv l (j:Int)=k:=by unfold kv;rw [Int.toNat_natCast,h];rfl
theorem bFw{l:List aR}{v:Int}(h:Usd l v):At l v.toNat (kv l v):=by
 obtain ⟨k,hk⟩:=h;have:kv l v=k:=by unfold kv;rw [hk];rfl
 rw [this];exact hk
theorem aPj{l:List aR}(h:VOK l){x:Int}(h0:0≤x)(hu:Usd l x){j:Nat}(ha:At l j (kv l x)):x=(j:Int):=by
 have:=h.inj _ _ _ (bFw hu) ha;omega
theorem aY1{l:List aR}{j:Nat}{x:aR}{v:Int}(h:v.toNat≠j):kv (l.set j x) v=kv l v:=by
 unfold kv;rw [List.getElem?_set_ne (fun e=>h e.symm)]
structure Rel(c:bZ)(s:aF)(m:aT):Prop where
  ok:SOK s
  gd:GD s.Graph
  cf:s.Graph.Config=c
  most:m.Most=c.N
  keys:m.Keys.Perm (uk s.Slots)
  pairs:m.Pairs.Perm ((en s.Graph.Edges).map (aFu s.Slots))
section
variable {c:bZ}{s:aF}{m:aT}(R:Rel c s m)
include R
theorem Rel.mem(k:Int):k∈m.Keys↔ ∃j,At s.Slots j k:=R.keys.mem_iff.trans bW1
theorem Rel.lt{j:Nat}{k:Int}(h:At s.Slots j k):0≤(j:Int)∧(j:Int)<s.Graph.Config.N:=by
 have:=(List.getElem?_eq_some_iff.1 h).1;have:=R.ok.len;omega
theorem Rel.edge{e:aH}(h:e∈s.Graph.Edges):0≤e.U∧0≤e.V∧e.U<e.V∧Usd s.Slots e.U∧Usd s.Slots e.V:=by
 have a:=(gok R.gd.ok).rg e h;have b:=yA.1 ((gok R.gd.ok).gc.ti.tb.ok e h);have u:=R.ok.us e h;exact ⟨a.1,a.2.2.1,b.2.1,u.1,u.2⟩
theorem Rel.ends{e:aH}(he:e∈s.Graph.Edges){i j:Nat}{a b:Int}(ha:At s.Slots i a)(hb:At s.Slots j b):aFu s.Slots (e.U,e.V)=pr2 a b↔oN (i:Int) (j:Int) e=true:=by
 obtain ⟨e1,e2,e3,e4,e5⟩:=R.edge he;have v:=R.ok.v;unfold oN;simp only [Bool.or_eq_true,Bool.and_eq_true,beq_iff_eq];constructor
 ·
  intro h;rcases bT9 h with ⟨h1,h2⟩|⟨h1,h2⟩
  · exact .inl ⟨aPj v e1 e4 (by rw [h1];exact ha),aPj v e2 e5 (by rw [h2];exact hb)⟩
  · exact .inr ⟨aPj v e1 e4 (by rw [h1];exact hb),aPj v e2 e5 (by rw [h2];exact ha)⟩
 ·
  unfold aFu;rintro (⟨h1,h2⟩|⟨h1,h2⟩)
  · simp only [];rw [h1,h2,aQq ha,aQq hb]
  · simp only [];rw [h1,h2,aQq ha,aQq hb,bBw]
theorem Rel.has{i j:Nat}{a b:Int}(ha:At s.Slots i a)(hb:At s.Slots j b):pr2 a b∈m.Pairs↔ ∃e,e∈s.Graph.Edges∧oN (i:Int) (j:Int) e=true:=by
 rw [R.pairs.mem_iff,List.mem_map];constructor
 · rintro ⟨q,hq,e⟩;obtain ⟨x,hx,rfl⟩:=tD.1 hq;exact ⟨x,hx,(R.ends hx ha hb).1 e⟩
 · rintro ⟨x,hx,e⟩;exact ⟨_,tD.2 ⟨x,hx,rfl⟩,(R.ends hx ha hb).2 e⟩
theorem Rel.near_len{i:Nat}{a:Int}(ha:At s.Slots i a):(aE3 s.Graph.Edges (i:Int)).length=(aWd m.Pairs a).length:=by
 rw [bLn,(R.pairs.filter _).length_eq,List.filter_map,List.length_map];unfold aE3 en;rw [List.filter_map,List.length_map,List.length_filterMap_eq_countP,List.countP_eq_length_filter];congr 1;refine List.filter_congr fun e he=>?_;obtain ⟨e1,e2,e3,e4,e5⟩:=R.edge he;have v:=R.ok.v;have q1:kv s.Slots e.U=a↔(i:Int)=e.U:=⟨fun h=>(aPj v e1 e4 (by rw [h];exact ha)).symm,fun h=>by rw [←h,aQq ha]⟩
 have q2:kv s.Slots e.V=a↔(i:Int)=e.V:=⟨fun h=>(aPj v e2 e5 (by rw [h];exact ha)).symm,fun h=>by rw [←h,aQq ha]⟩
 have t:touch a (aFu s.Slots (e.U,e.V))=(decide ((i:Int)=e.U)||decide ((i:Int)=e.V)):=by
  unfold touch aFu pr2;simp only [];split
  · by_cases c1:(i:Int)=e.U<;>by_cases c2:(i:Int)=e.V<;>simp [c1,c2,q1,q2]
  · by_cases c1:(i:Int)=e.U<;>by_cases c2:(i:Int)=e.V<;>simp [c1,c2,q1,q2]
 simp only [Function.comp];rw [t]
 by_cases c1:(i:Int)=e.U
 · simp [c1]
 ·
  by_cases c2:(i:Int)=e.V
  · rw [if_neg c1,if_pos c2,decide_eq_true c2];simp
  · rw [if_neg c1,if_neg c2,decide_eq_false c1,decide_eq_false c2];rfl
theorem Rel.on{j:Nat}{x:aR}{key:Int}(hj:s.Slots[j]? =some x)(hx:x.Used=false)(hn: ∀i,¬At s.Slots i key):Rel c ⟨s.Graph,s.Slots.set j ⟨true,key⟩⟩ ⟨m.Most,m.Keys++[key],m.Pairs⟩:=by
 have ne: ∀v,Usd s.Slots v→v.toNat≠j:=fun v ⟨k,hk⟩ e=>by
  unfold At at hk;rw [e,hj] at hk;cases hk;cases hx
 refine ⟨⟨R.ok.g,R.ok.v.on hn,by rw [List.length_set];exact R.ok.len,fun e he=>?_⟩,R.gd,R.cf,R.most,?_,?_⟩
 · obtain ⟨⟨k1,h1⟩,⟨k2,h2⟩⟩:=R.ok.us e he;exact ⟨⟨k1,aS1 h1 (ne _ ⟨k1,h1⟩)⟩,⟨k2,aS1 h2 (ne _ ⟨k2,h2⟩)⟩⟩
 · exact (List.perm_append_singleton key m.Keys).trans ((R.keys.cons key).trans (bUn hj hx key).symm)
 ·
  show m.Pairs.Perm ((en s.Graph.Edges).map (aFu (s.Slots.set j ⟨true,key⟩)));rw [List.map_congr_left (g:=aFu s.Slots) fun q hq=>?_]
  · exact R.pairs
  · obtain ⟨e,he,rfl⟩:=tD.1 hq;obtain ⟨_,_,_,u1,u2⟩:=R.edge he;unfold aFu;rw [aY1 (ne _ u1),aY1 (ne _ u2)]
theorem Rel.off{j:Nat}{key:Int}(hj:At s.Slots j key)(hz:aE3 s.Graph.Edges (j:Int)=[]){ks:List Int}(hk:m.Keys.Perm (key::ks)):Rel c ⟨s.Graph,s.Slots.set j ⟨false,0⟩⟩ ⟨m.Most,ks,m.Pairs⟩:=by
 have ne: ∀e,e∈s.Graph.Edges→e.U.toNat≠j∧e.V.toNat≠j:=fun e he=>by
  obtain ⟨e1,e2,e3,_,_⟩:=R.edge he;have:=List.filterMap_eq_nil_iff.1 hz e he;split at this
  · cases this
  ·
   split at this
   · cases this
   · exact ⟨by omega,by omega⟩
 refine ⟨⟨R.ok.g,R.ok.v.off,by rw [List.length_set];exact R.ok.len,fun e he=>?_⟩,R.gd,R.cf,R.most,?_,?_⟩
 · obtain ⟨⟨k1,h1⟩,⟨k2,h2⟩⟩:=R.ok.us e he;exact ⟨⟨k1,aS1 h1 (ne e he).1⟩,⟨k2,aS1 h2 (ne e he).2⟩⟩
 · exact (hk.symm.trans (R.keys.trans (bWn hj))).cons_inv
 ·
  show m.Pairs.Perm ((en s.Graph.Edges).map (aFu (s.Slots.set j ⟨false,0⟩)));rw [List.map_congr_left (g:=aFu s.Slots) fun q hq=>?_]
  · exact R.pairs
  · obtain ⟨e,he,rfl⟩:=tD.1 hq;unfold aFu;rw [aY1 (ne e he).1,aY1 (ne e he).2]
theorem Rel.ins{i j:Nat}{a b:Int}(ha:At s.Slots i a)(hb:At s.Slots j b)(hne:(i:Int)≠(j:Int)){l':List aH}{g2:aU}(h4:aLg s.Graph.Edges (edg (i:Int) (j:Int)) l')(hg:GD ⟨s.Graph.Config,s.Graph.Hashes,l'⟩)
 (h5:aH3 (i:Int) (j:Int) 0 ⟨s.Graph.Config,s.Graph.Hashes,l'⟩ g2) (h6:GD g2):Rel c ⟨g2,s.Slots⟩ ⟨m.Most,m.Keys,m.Pairs++[pr2 a b]⟩:=by
 have F:=h5.facts (gok hg.ok).gc (Int.le_refl _);obtain ⟨A,B,ea,eb⟩:=h4.en;have e2:en g2.Edges=A++((edg (i:Int) (j:Int)).U,(edg (i:Int) (j:Int)).V)::B:=F.al.e.trans eb
 have pk:aFu s.Slots ((edg (i:Int) (j:Int)).U,(edg (i:Int) (j:Int)).V)=pr2 a b:=by
  unfold aFu;rcases aT0 hne with ⟨x,y,_⟩|⟨x,y,_⟩<;>simp only [x,y]<;>rw [aQq ha,aQq hb]
  exact bBw _ _
 refine ⟨⟨h6.ok,R.ok.v,?_,fun e he=>?_⟩,h6,?_,R.most,R.keys,?_⟩
 · rw [F.al.c];exact R.ok.len
 ·
  have:(e.U,e.V)∈en g2.Edges:=tD.2 ⟨e,he,rfl⟩;rw [e2] at this
  have h':(e.U,e.V)=((edg (i:Int) (j:Int)).U,(edg (i:Int) (j:Int)).V)∨(e.U,e.V)∈en s.Graph.Edges:=by
   rw [ea];simp only [List.mem_append,List.mem_cons] at this⊢;rcases this with q|q|q
   · exact .inr (.inl q)
   · exact .inl q
   · exact .inr (.inr q)
  rcases h' with q|q
  ·
   injection q with q1 q2
   have u1:Usd s.Slots (i:Int):=⟨a,by rw [Int.toNat_natCast];exact ha⟩
   have u2:Usd s.Slots (j:Int):=⟨b,by rw [Int.toNat_natCast];exact hb⟩
   rw [q1,q2];rcases aT0 hne with ⟨x,y,_⟩|⟨x,y,_⟩<;>rw [x,y]
   · exact ⟨u1,u2⟩
   · exact ⟨u2,u1⟩
  ·
   obtain ⟨x,hx,q⟩:=tD.1 q;injection q with q1 q2
   rw [←q1,←q2];exact R.ok.us x hx
 · rw [F.al.c];exact R.cf
 · show (m.Pairs++[pr2 a b]).Perm ((en g2.Edges).map (aFu s.Slots));refine (List.perm_append_singleton _ _).trans ((R.pairs.cons _).trans ?_);rw [e2,ea,List.map_append,List.map_append,List.map_cons,pk];exact List.perm_middle.symm
theorem Rel.del{i j:Nat}{a b:Int}(ha:At s.Slots i a)(hb:At s.Slots j b){k:Nat}{g2:aU}(h2:fnd (oN (i:Int) (j:Int)) s.Graph.Edges 0=some k)(hg:GD ⟨s.Graph.Config,s.Graph.Hashes,s.Graph.Edges.take k++s.Graph.Edges.drop (k+1)⟩)
 (h5:aH3 (i:Int) (j:Int) 0 ⟨s.Graph.Config,s.Graph.Hashes,s.Graph.Edges.take k++s.Graph.Edges.drop (k+1)⟩ g2) (h6:GD g2) {ps:List aC} (hp:m.Pairs.Perm (pr2 a b::ps)):Rel c ⟨g2,s.Slots⟩ ⟨m.Most,m.Keys,ps⟩:=by
 have F:=h5.facts (gok hg.ok).gc (Int.le_refl _);obtain ⟨e,r1,r2,r3⟩:=aLc h2;have he:e∈s.Graph.Edges:=List.mem_of_getElem? r1
 have ea:en s.Graph.Edges=en (s.Graph.Edges.take k)++(e.U,e.V)::en (s.Graph.Edges.drop (k+1)):=by
  conv=>lhs;rw [r3]
  rw [aAg];rfl
 have e2:en g2.Edges=en (s.Graph.Edges.take k)++en (s.Graph.Edges.drop (k+1)):=F.al.e.trans (aAg _ _);have pk:=(R.ends he ha hb).2 r2;refine ⟨⟨h6.ok,R.ok.v,?_,fun x hx=>?_⟩,h6,?_,R.most,R.keys,?_⟩
 · rw [F.al.c];exact R.ok.len
 ·
  have:(x.U,x.V)∈en g2.Edges:=tD.2 ⟨x,hx,rfl⟩;rw [e2] at this
  have h':(x.U,x.V)∈en s.Graph.Edges:=by
   rw [ea];simp only [List.mem_append,List.mem_cons] at this⊢;rcases this with q|q
   · exact .inl q
   · exact .inr (.inr q)
  obtain ⟨y,hy,q⟩:=tD.1 h';injection q with q1 q2
  rw [←q1,←q2];exact R.ok.us y hy
 · rw [F.al.c];exact R.cf
 ·
  show ps.Perm ((en g2.Edges).map (aFu s.Slots))
  have h3:(pr2 a b::ps).Perm (pr2 a b::(en g2.Edges).map (aFu s.Slots)):=by
   refine hp.symm.trans (R.pairs.trans ?_);rw [ea,e2,List.map_append,List.map_append,List.map_cons,pk];exact List.perm_middle
  exact h3.cons_inv
end
end Go.Proofs.YtkdohhmacfoolaaGreat
