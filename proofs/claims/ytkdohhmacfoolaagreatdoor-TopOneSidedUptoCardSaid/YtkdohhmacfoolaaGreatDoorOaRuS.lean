/- Facts. No condition. -/
import Derived.Test.YtkdohhmacfoolaaGreatDoorOaRuP
set_option linter.unusedVariables false
set_option linter.unusedSimpArgs false
set_option maxRecDepth 20000
set_option maxHeartbeats 1000000
namespace Go.Proofs.YtkdohhmacfoolaaGreatDoor
open Go Go.AM Go.Pl Go.Pt
open Go Go.AM Go.Pl Go.Pt
theorem aS5(c:aT)(acts:List bG): ∃n:Int,vT c acts=some n∧(n<0∨(∃k:Nat,n=k∧k≤30∧k≤acts.length∧c.N≤12∧c.L≤4)):=by
 unfold vT
 by_cases h:((((((decide (c.N<1))||(decide (c.L<1)))||(decide (c.R<1)))||(decide (12<c.N)))||(decide (4<c.L)))||(decide (3<c.R)))=true
 · rw [bt h];exact ⟨_,rfl,.inl (by decide)⟩
 ·
  rw [Bool.not_eq_true] at h;rw [bf h];simp only [Bool.or_eq_false_iff,decide_eq_false_iff_not] at h;refine ⟨_,rfl,.inr ?_⟩
  by_cases q:30<(acts.length:Int)
  · rw [if_pos q];exact ⟨30,rfl,by omega,by omega,by omega,by omega⟩
  · rw [if_neg q];exact ⟨acts.length,rfl,by omega,by omega,by omega,by omega⟩
theorem bEq{c:aT}{hs:List bS}{es:List aC}(h:grB ⟨c,hs,es⟩=true):hs.length≤128:=by
 have k:=gok h;have L2:c.L≤16:=k.l2;have L1:1≤c.L:=k.l1;have R1:1≤c.R:=k.r1;have R2:c.R≤8:=k.r2;have h2:c.L*c.R≤16*8:=Int.mul_le_mul L2 R2 om om;have hl:(hs.length:Int)=c.L*c.R:=k.hl;omega
theorem aK7{g:aE}(hb:128<g.Hashes.length):dC g=some false∧grB g=false:=by
 unfold dC grB
 by_cases c:1≤g.Config.N∧g.Config.N≤1024∧1≤g.Config.L∧g.Config.L≤16∧1≤g.Config.R∧g.Config.R≤8
 ·
  have h2:g.Config.L*g.Config.R≤16*8:=Int.mul_le_mul om om om om;have k:(g.Hashes.length:Int)≠g.Config.L*g.Config.R:=by omega
  rw [bf (by simp;omega),aW1 ⟨c.2.2.1,c.2.2.2.1,c.2.2.2.2⟩,bt (by simp [k])];have:cfB g=false:=by unfold cfB;rw [decide_eq_false_iff_not];exact fun q=>k q.2.2.2.2.2.2
  rw [this];exact ⟨rfl,rfl⟩
 ·
  have:cfB g=false:=by unfold cfB;rw [decide_eq_false_iff_not];exact fun q=>c ⟨q.1,q.2.1,q.2.2.1,q.2.2.2.1,q.2.2.2.2.1,q.2.2.2.2.2.1⟩
  rw [bt (by simp;omega),this];exact ⟨rfl,rfl⟩
theorem aT2(c:aT){hs:List bS}(hl:hs.length≤8796093022207):sF c hs=some (if grB ⟨c,hs,[]⟩ then (⟨c,hs,[]⟩,0) else (⟨⟨0,0,0⟩,[],[]⟩,1)):=by
 unfold sF eA;rw [aWa (by simp;omega),aA,List.nil_append]
 by_cases q:hs.length≤1048576
 · rw [fJ (by simp) (by simp;omega),aA];cases grB ⟨c,hs,[]⟩<;>rfl
 · obtain ⟨q1,q2⟩:=aK7 (g:=⟨c,hs,[]⟩) (by simp;omega);rw [q1,q2,aA];rfl
def NoL(g:aE):Prop:= ∀k x,0≤k→k<g.Config.L→ ¬Lon g k x
theorem NoL.new(c:aT)(hs:List bS):NoL ⟨c,hs,[]⟩:=fun k x _ _ h=>by
 have:=h.2;unfold srch aE7 at this;rw [show List.filter (fun e=>inQ (pf ⟨c,hs,[]⟩ k) x (uv e)) []=[] from rfl,bA1] at this;cases this
theorem NoL.nil{g:aE}(h:GOK g)(n:NoL g):aId g 0=[]:=List.eq_nil_iff_forall_not_mem.2 fun q hq=>by
 obtain ⟨a,b,c,d,e⟩:=bCp.1 hq;exact n _ _ a b ((bG5 h c d).1 e).2
structure bDs(g g2:aE):Prop where
  gd:GD g2
  c:g2.Config=g.Config
  len:g2.Edges.length≤g.Edges.length+1
  nol:NoL g→NoL g2
theorem bDs.refl{g:aE}(h:GD g):bDs g g:=⟨h,rfl,by omega,id⟩
theorem aRv{u v:Int}{e:aC}(h:fB u v e=true):(e.U=u∧e.V=v)∨(e.U=v∧e.V=u):=by
 unfold fB at h;simp only [Bool.or_eq_true,Bool.and_eq_true,beq_iff_eq] at h;omega
theorem bEw{g:aE}(h:GD g){u v:Int}{r:aE×Int}(i:bHr g u v r):bDs g r.1:=by
 rcases i with ⟨h1,rfl⟩|⟨h1,h2,rfl⟩|⟨h1,h2,h3,rfl⟩|⟨h1,h2,h3,l',g2,h4,hg,h5,h6,rfl⟩
 · exact .refl h
 · exact .refl h
 · exact .refl h
 ·
  have kg:=gok hg.ok;have F:=h5.facts kg.gc (Int.le_refl _);obtain ⟨A,B,ea,eb⟩:=h4.en;refine ⟨h6,F.al.c,?_,fun n=>?_⟩
  · have:=aO6 F.al.e;have:=h4.len;simp only [] at*;omega
  ·
   refine h5.holds kg.gc (Int.le_refl _) (fun k x a b=>by omega) fun k x k0 hk hl=>?_;rcases bEy (g:=g) (g2:=⟨g.Config,g.Hashes,l'⟩) rfl rfl ea eb (fun k=>h4.fo rfl k) hl with q|q|q
   · exact absurd q (n k x k0 hk)
   ·
    rcases aUf h2 with ⟨a,b,_⟩|⟨a,b,_⟩
    · rw [a] at q;exact .inl q
    · rw [a] at q;exact .inr q
   ·
    rcases aUf h2 with ⟨a,b,_⟩|⟨a,b,_⟩
    · rw [b] at q;exact .inr q
    · rw [b] at q;exact .inl q
theorem bEk{g:aE}(h:GD g){u v:Int}{r:aE×Int}(i:bHq g u v r):bDs g r.1:=by
 rcases i with ⟨h1,rfl⟩|⟨h1,h2,rfl⟩|⟨h1,k,g2,h2,hg,h5,h6,rfl⟩
 · exact .refl h
 · exact .refl h
 ·
  have kg:=gok hg.ok;have kk:=gok h.ok;have F:=h5.facts kg.gc (Int.le_refl _);obtain ⟨e,r1,r2,r3⟩:=aOi h2;have nd:=kk.gc.ti.tb.nodup
  have ea:en g.Edges=en (g.Edges.take k)++(e.U,e.V)::en (g.Edges.drop (k+1)):=by
   conv=>lhs;rw [r3]
   rw [uP];rfl
  have eb:en (g.Edges.take k++g.Edges.drop (k+1))=en (g.Edges.take k)++en (g.Edges.drop (k+1)):=uP _ _
  have hmem: ∀y,y∈g.Edges↔y∈g.Edges.take k++g.Edges.drop (k+1)∨y=e:=fun y=>by
   conv=>lhs;rw [r3]
   simp only [List.mem_append,List.mem_cons];constructor
   ·
    rintro (a|a|a)
    · exact .inl (.inl a)
    · exact .inr a
    · exact .inl (.inr a)
   ·
    rintro ((a|a)|a)
    · exact .inl a
    · exact .inr (.inr a)
    · exact .inr (.inl a)
  have hno:(e.U,e.V)∉en (g.Edges.take k++g.Edges.drop (k+1)):=by
   rw [eb];rw [ea] at nd;have:=List.nodup_append.1 nd;rw [List.mem_append];rintro (a|a)
   · exact this.2.2 _ a _ (List.mem_cons_self ..) rfl
   · exact (List.nodup_cons.1 this.2.1).1 a
  have hf: ∀t q,q∈en (fo (g.Edges.take k++g.Edges.drop (k+1)) t)↔q∈en (fo g.Edges t)∧q≠(e.U,e.V):=fun t q=>by
   rw [qU,qU];constructor
   · rintro ⟨y,hy,rfl⟩;have hy':=dX.1 hy;exact ⟨⟨y,dX.2 ⟨(hmem y).2 (.inl hy'.1),hy'.2⟩,rfl⟩,fun w=>hno (by rw [←w];exact qU.2 ⟨y,hy'.1,rfl⟩)⟩
   · rintro ⟨⟨y,hy,rfl⟩,w⟩;have hy':=dX.1 hy;refine ⟨y,dX.2 ⟨((hmem y).1 hy'.1).resolve_right fun z=>w (by rw [z]),hy'.2⟩,rfl⟩
  refine ⟨h6,F.al.c,?_,fun n=>?_⟩
  · have:=aO6 F.al.e;have hk:=(List.getElem?_eq_some_iff.1 r1).1;simp only [List.length_append,List.length_take,List.length_drop] at*;omega
  ·
   refine h5.holds kg.gc (Int.le_refl _) (fun k x a b=>by omega) fun k' x k0 hk hl=>?_;rcases bEl (g:=g) (g2:=⟨g.Config,g.Hashes,g.Edges.take k++g.Edges.drop (k+1)⟩) nd rfl rfl eb ea hf hl with q|q|q
   · exact absurd q (n k' x k0 hk)
   ·
    rcases aRv r2 with ⟨a,b⟩|⟨a,b⟩
    · rw [a] at q;exact .inl q
    · rw [a] at q;exact .inr q
   ·
    rcases aRv r2 with ⟨a,b⟩|⟨a,b⟩
    · rw [b] at q;exact .inr q
    · rw [b] at q;exact .inl q
theorem bAo{acts:List bG}{k:Nat}(h:k≤acts.length):slc acts 0 (k:Int)=some (acts.take k):=aQm rfl h
abbrev WH(hs:List bS)(P:Prop):Prop:=(∀y,y∈hs→((Lit.int .u64 y.A).wf=true)∧((Lit.int .u64 y.B).wf=true))∧P
theorem WH.hw{hs:List bS}{P:Prop}(w:WH hs P): ∀x,x∈hs→HOK x:=fun x hx=>⟨wfu (w.1 x hx).1,wfu (w.1 x hx).2⟩
end Go.Proofs.YtkdohhmacfoolaaGreatDoor
