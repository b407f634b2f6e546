/- Facts. No condition. -/
import Derived.Test.YtkdohhmacfoolaaGreatDoorOcTiS
set_option linter.unusedVariables false
set_option linter.unusedSimpArgs false
set_option maxRecDepth 20000
set_option maxHeartbeats 1000000
namespace Go.Proofs.YtkdohhmacfoolaaGreatDoor
open Go Go.AM Go.Pl Go.Pt
theorem aPv{a b:List aC}(h:en a=en b):a.length=b.length:=by have:=congrArg List.length h;rwa [tT,tT] at this
def bOj(g:aH)(u v:Int)(r:aH×Int):Prop:=
  (¬vtx g.Config.N u v∧r=(g,1))∨(vtx g.Config.N u v∧u=v∧r=(g,8))∨(vtx g.Config.N u v∧u≠v∧(∃e,e∈g.Edges∧iO u v e=true)∧r=(g,4))∨
    (vtx g.Config.N u v∧u≠v∧(∀e,e∈g.Edges→iO u v e=false)∧ ∃l' g2,aB8 g.Edges (edg u v) l'∧GD ⟨g.Config,g.Hashes,l'⟩∧tM u v 0 ⟨g.Config,g.Hashes,l'⟩ g2∧GD g2∧r=(g2,0))
theorem aF0{g:aH}(h:GD g)(hl:g.Edges.length+1<1000000000)(u v:Int): ∃r,qO g u v=some r∧bOj g u v r:=by
 have k:=gok h.ok;unfold qO;rw [aIx h.e h.h,aA]
 by_cases c:vtx g.Config.N u v
 ·
  have c0:=c;unfold vtx at c;obtain ⟨r,r1,r2⟩:=aVf k.tr hl u v;rw [decide_eq_true ⟨h.ok,c⟩,bf (c:= !true) rfl,r1,aA];rcases r2 with ⟨h1,rfl⟩|⟨h1,h2,rfl⟩|⟨h1,h2,h3,rfl⟩|⟨h1,h2,h3,l',h4,rfl⟩
  · exact absurd c0 h1
  · exact ⟨_,rfl,.inr (.inl ⟨c0,h2,rfl⟩)⟩
  · exact ⟨_,rfl,.inr (.inr (.inl ⟨c0,h2,h3,rfl⟩))⟩
  · have hg:=bM9 h c0 h2 h3 h4 hl;obtain ⟨g2,m1,m2,m3⟩:=aQ6 hg c.1 c.2.1 c.2.2.1 c.2.2.2;simp only [];rw [bf (by rfl),m1,aA];exact ⟨_,rfl,.inr (.inr (.inr ⟨c0,h2,h3,l',g2,h4,hg,m2,m3,rfl⟩))⟩
 · rw [decide_eq_false (fun q=>c q.2)];exact ⟨_,rfl,.inl ⟨c,rfl⟩⟩
def bOi(g:aH)(u v:Int)(r:aH×Int):Prop:=
  (¬vtx g.Config.N u v∧r=(g,1))∨(vtx g.Config.N u v∧fnd (iO u v) g.Edges 0=none∧r=(g,9))∨
    (vtx g.Config.N u v∧ ∃k g2,fnd (iO u v) g.Edges 0=some k∧GD ⟨g.Config,g.Hashes,g.Edges.take k++g.Edges.drop (k+1)⟩∧tM u v 0 ⟨g.Config,g.Hashes,g.Edges.take k++g.Edges.drop (k+1)⟩ g2∧GD g2∧r=(g2,0))
theorem aO1{g:aH}(h:GD g)(u v:Int): ∃r,qN g u v=some r∧bOi g u v r:=by
 have k:=gok h.ok;unfold qN;rw [aIx h.e h.h,aA]
 by_cases c:vtx g.Config.N u v
 ·
  have c0:=c;unfold vtx at c;obtain ⟨r,r1,r2⟩:=aO0 k.tr h.e u v;rw [decide_eq_true ⟨h.ok,c⟩,bf (c:= !true) rfl,r1,aA];rcases r2 with ⟨h1,rfl⟩|⟨h1,h2,rfl⟩|⟨h1,j,h2,rfl⟩
  · exact absurd c0 h1
  · exact ⟨_,rfl,.inr (.inl ⟨c0,h2,rfl⟩)⟩
  · have hg:=bNo h h2;obtain ⟨g2,m1,m2,m3⟩:=aQ6 hg c.1 c.2.1 c.2.2.1 c.2.2.2;simp only [];rw [bf (by rfl),m1,aA];exact ⟨_,rfl,.inr (.inr ⟨c0,j,g2,h2,hg,m2,m3,rfl⟩)⟩
 · rw [decide_eq_false (fun q=>c q.2)];exact ⟨_,rfl,.inl ⟨c,rfl⟩⟩
open Go Go.AM Go.Pl Go.Pt
def bG9(g:aH)(t v:Int):Bool:=(pf g t v==v)&&(((trl g.Config.N (pf g t) v).length==(trl g.Config.N (pf g (t+1)) v).length)&&(srch g t v).isSome)
def bNe(g:aH)(t:Int)(i:Nat):List (Int×Int):=((List.range' i (g.Config.N.toNat-i)).filter fun (k:Nat)=>bG9 g t k).map fun (k:Nat)=>(t,(k:Int))
theorem aUr{g:aH}{t:Int}{q:Int×Int} :q∈bNe g t 0↔q.1=t∧0≤q.2∧q.2<g.Config.N∧bG9 g t q.2=true:=by
 unfold bNe;rw [List.mem_map];constructor
 · rintro ⟨k,hk,rfl⟩;rw [List.mem_filter,List.mem_range'] at hk;obtain ⟨⟨i,h1,h2⟩,h3⟩:=hk;exact ⟨rfl,by simp,by simp;omega,h3⟩
 ·
  rintro ⟨h0,h1,h2,h3⟩;have e:((q.2.toNat:Nat):Int)=q.2:=by omega
  refine ⟨q.2.toNat,?_,by rw [e,←h0]⟩;rw [List.mem_filter,List.mem_range',e];exact ⟨⟨q.2.toNat,by omega,by omega⟩,h3⟩
def bNd(g:aH)(t:Nat):List (Int×Int):=(List.range' t (g.Config.L.toNat-t)).flatMap fun (k:Nat)=>bNe g k 0
theorem bGc{g:aH}{q:Int×Int} :q∈bNd g 0↔0≤q.1∧q.1<g.Config.L∧0≤q.2∧q.2<g.Config.N∧bG9 g q.1 q.2=true:=by
 unfold bNd;rw [List.mem_flatMap];constructor
 · rintro ⟨k,hk,hq⟩;rw [List.mem_range'] at hk;obtain ⟨i,h1,h2⟩:=hk;obtain ⟨a,b,c,d⟩:=aUr.1 hq;rw [a];exact ⟨by omega,by omega,b,c,d⟩
 ·
  rintro ⟨h1,h2,h3⟩;have e:((q.1.toNat:Nat):Int)=q.1:=by omega
  exact ⟨q.1.toNat,List.mem_range'.2 ⟨q.1.toNat,by omega,by omega⟩,aUr.2 ⟨by omega,by rw [e];exact h3⟩⟩
section
variable {g:aH}(h:GD g)
include h
end
theorem bKb{g:aH}(h:GOK g){t v:Int}(v0:0≤v)(vn:v<g.Config.N):bG9 g t v=true↔pf g t v=v∧Lon g t v:=by
 unfold bG9 Lon;rw [Bool.and_eq_true,Bool.and_eq_true,beq_iff_eq,beq_iff_eq,bHf h v0 vn]
open Go Go.AM Go.Pl Go.Pt
open Go Go.AM Go.Pl Go.Pt
theorem aLl{g:aH}(hb:128<g.Hashes.length):eK g=some false∧grB g=false:=by
 unfold eK grB
 by_cases c:1≤g.Config.N∧g.Config.N≤1024∧1≤g.Config.L∧g.Config.L≤16∧1≤g.Config.R∧g.Config.R≤8
 ·
  have h2:g.Config.L*g.Config.R≤16*8:=Int.mul_le_mul om om om om;have k:(g.Hashes.length:Int)≠g.Config.L*g.Config.R:=by omega
  rw [bf (by simp;omega),aZ0 ⟨c.2.2.1,c.2.2.2.1,c.2.2.2.2⟩,bt (by simp [k])];have:cfB g=false:=by unfold cfB;rw [decide_eq_false_iff_not];exact fun q=>k q.2.2.2.2.2.2
  rw [this];exact ⟨rfl,rfl⟩
 ·
  have:cfB g=false:=by unfold cfB;rw [decide_eq_false_iff_not];exact fun q=>c ⟨q.1,q.2.1,q.2.2.1,q.2.2.2.1,q.2.2.2.2.1,q.2.2.2.2.2.1⟩
  rw [bt (by simp;omega),this];exact ⟨rfl,rfl⟩
theorem aVn(c:aY){hs:List bQ}(hl:hs.length≤8796093022207):zM c hs=some (if grB ⟨c,hs,[]⟩ then (⟨c,hs,[]⟩,0) else (⟨⟨0,0,0⟩,[],[]⟩,1)):=by
 unfold zM fF;rw [aZ8 (by simp;omega),aA,List.nil_append]
 by_cases q:hs.length≤1048576
 · rw [iQ (by simp) (by simp;omega),aA];cases grB ⟨c,hs,[]⟩<;>rfl
 · obtain ⟨q1,q2⟩:=aLl (g:=⟨c,hs,[]⟩) (by simp;omega);rw [q1,q2,aA];rfl
def NoL(g:aH):Prop:= ∀k x,0≤k→k<g.Config.L→ ¬Lon g k x
theorem NoL.new(c:aY)(hs:List bQ):NoL ⟨c,hs,[]⟩:=fun k x _ _ h=>by
 have:=h.2;unfold srch yK at this;rw [show List.filter (fun e=>inQ (pf ⟨c,hs,[]⟩ k) x (uv e)) []=[] from rfl,aQh] at this;cases this
theorem NoL.nil{g:aH}(h:GOK g)(n:NoL g):bNd g 0=[]:=List.eq_nil_iff_forall_not_mem.2 fun q hq=>by
 obtain ⟨a,b,c,d,e⟩:=bGc.1 hq;exact n _ _ a b ((bKb h c d).1 e).2
structure bHp(g g2:aH):Prop where
  gd:GD g2
  c:g2.Config=g.Config
  len:g2.Edges.length≤g.Edges.length+1
  nol:NoL g→NoL g2
theorem bHp.refl{g:aH}(h:GD g):bHp g g:=⟨h,rfl,by omega,id⟩
theorem aHr{u v:Int}{e:aC}(h:iO u v e=true):(e.U=u∧e.V=v)∨(e.U=v∧e.V=u):=by
 unfold iO at h;simp only [Bool.or_eq_true,Bool.and_eq_true,beq_iff_eq] at h;omega
theorem bJ0{g:aH}(h:GD g){u v:Int}{r:aH×Int}(i:bOj g u v r):bHp g r.1:=by
 rcases i with ⟨h1,rfl⟩|⟨h1,h2,rfl⟩|⟨h1,h2,h3,rfl⟩|⟨h1,h2,h3,l',g2,h4,hg,h5,h6,rfl⟩
 · exact .refl h
 · exact .refl h
 · exact .refl h
 ·
  have kg:=gok hg.ok;have F:=h5.facts kg.gc (Int.le_refl _);obtain ⟨A,B,ea,eb⟩:=h4.en;refine ⟨h6,F.al.c,?_,fun n=>?_⟩
  · have:=aPv F.al.e;have:=h4.len;simp only [] at*;omega
  ·
   refine h5.holds kg.gc (Int.le_refl _) (fun k x a b=>by omega) fun k x k0 hk hl=>?_;rcases bJ1 (g:=g) (g2:=⟨g.Config,g.Hashes,l'⟩) rfl rfl ea eb (fun k=>h4.fo rfl k) hl with q|q|q
   · exact absurd q (n k x k0 hk)
   ·
    rcases aC7 h2 with ⟨a,b,_⟩|⟨a,b,_⟩
    · rw [a] at q;exact .inl q
    · rw [a] at q;exact .inr q
   ·
    rcases aC7 h2 with ⟨a,b,_⟩|⟨a,b,_⟩
    · rw [b] at q;exact .inr q
    · rw [b] at q;exact .inl q
theorem bIn{g:aH}(h:GD g){u v:Int}{r:aH×Int}(i:bOi g u v r):bHp g r.1:=by
 rcases i with ⟨h1,rfl⟩|⟨h1,h2,rfl⟩|⟨h1,k,g2,h2,hg,h5,h6,rfl⟩
 · exact .refl h
 · exact .refl h
 ·
  have kg:=gok hg.ok;have kk:=gok h.ok;have F:=h5.facts kg.gc (Int.le_refl _);obtain ⟨e,r1,r2,r3⟩:=aFe h2;have nd:=kk.gc.ti.tb.nodup
  have ea:en g.Edges=en (g.Edges.take k)++(e.U,e.V)::en (g.Edges.drop (k+1)):=by
   conv=>lhs;rw [r3]
   rw [rM];rfl
  have eb:en (g.Edges.take k++g.Edges.drop (k+1))=en (g.Edges.take k)++en (g.Edges.drop (k+1)):=rM _ _
  have hmem: ∀y,y∈g.Edges↔y∈g.Edges.take k++g.Edges.drop (k+1)∨y=e:=fun y=>by
   conv=>lhs;rw [r3]
   simp only [List.mem_append,List.mem_cons];constructor
   ·
    rintro (a|a|a)
    · exact .inl (.inl a)
    · exact .inr a
    · exact .inl (.inr a)
   ·
    rintro ((a|a)|a)
    · exact .inl a
    · exact .inr (.inr a)
    · exact .inr (.inl a)
  have hno:(e.U,e.V)∉en (g.Edges.take k++g.Edges.drop (k+1)):=by
   rw [eb];rw [ea] at nd;have:=List.nodup_append.1 nd;rw [List.mem_append];rintro (a|a)
   · exact this.2.2 _ a _ (List.mem_cons_self ..) rfl
   · exact (List.nodup_cons.1 this.2.1).1 a
  have hf: ∀t q,q∈en (fo (g.Edges.take k++g.Edges.drop (k+1)) t)↔q∈en (fo g.Edges t)∧q≠(e.U,e.V):=fun t q=>by
   rw [fX,fX];constructor
   · rintro ⟨y,hy,rfl⟩;have hy':=eE.1 hy;exact ⟨⟨y,eE.2 ⟨(hmem y).2 (.inl hy'.1),hy'.2⟩,rfl⟩,fun w=>hno (by rw [←w];exact fX.2 ⟨y,hy'.1,rfl⟩)⟩
   · rintro ⟨⟨y,hy,rfl⟩,w⟩;have hy':=eE.1 hy;refine ⟨y,eE.2 ⟨((hmem y).1 hy'.1).resolve_right fun z=>w (by rw [z]),hy'.2⟩,rfl⟩
  refine ⟨h6,F.al.c,?_,fun n=>?_⟩
  · have:=aPv F.al.e;have hk:=(List.getElem?_eq_some_iff.1 r1).1;simp only [List.length_append,List.length_take,List.length_drop] at*;omega
  ·
   refine h5.holds kg.gc (Int.le_refl _) (fun k x a b=>by omega) fun k' x k0 hk hl=>?_;rcases bIo (g:=g) (g2:=⟨g.Config,g.Hashes,g.Edges.take k++g.Edges.drop (k+1)⟩) nd rfl rfl eb ea hf hl with q|q|q
   · exact absurd q (n k' x k0 hk)
   ·
    rcases aHr r2 with ⟨a,b⟩|⟨a,b⟩
    · rw [a] at q;exact .inl q
    · rw [a] at q;exact .inr q
   ·
    rcases aHr r2 with ⟨a,b⟩|⟨a,b⟩
    · rw [b] at q;exact .inr q
    · rw [b] at q;exact .inl q
abbrev WH(hs:List bQ)(P:Prop):Prop:=(∀y,y∈hs→((Lit.int .u64 y.A).wf=true)∧((Lit.int .u64 y.B).wf=true))∧P
theorem WH.hw{hs:List bQ}{P:Prop}(w:WH hs P): ∀x,x∈hs→HOK x:=fun x hx=>⟨wfu (w.1 x hx).1,wfu (w.1 x hx).2⟩
end Go.Proofs.YtkdohhmacfoolaaGreatDoor
