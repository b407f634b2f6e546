/- Facts. No condition. -/
import Derived.Test.YtkdohhmacfoolaaGreatNqSeaQ
set_option linter.unusedVariables false
set_option linter.unusedSimpArgs false
set_option maxRecDepth 20000
set_option maxHeartbeats 1000000
namespace Go.Proofs.YtkdohhmacfoolaaGreat
open Go Go.AM Go.Pl Go.Pt
section
variable {g:aU}(hE:g.Edges.length<1000000000)(h:GOK g)
include hE h
end
section
variable {hs:List dI}{V:Nat}{names:List Nat}(hh: ∀h,h∈hs→HOK h)(hn: ∀y,y∈names→y<18446744073709551616)(hnl:names.length<1000000000)(hV:V≤61)(hR:hs.length≤8)
include hh hn hnl
include hV hR
end
section
variable {g:aU}(hE:g.Edges.length<1000000000)(h:GOK g)(hw: ∀x,x∈g.Hashes→HOK x){t v:Int}(h0:0≤t)(ht:t<g.Config.L)(v0:0≤v)(vn:v<g.Config.N)
include hE h hw h0 ht v0 vn
end
theorem bO3(x y:dI):((x.A==y.A)&&(x.B==y.B))=decide (x=y):=by
 cases x with|mk a b=>cases y with|mk d e=>
 by_cases h1:a=d<;>by_cases h2:b=e<;>simp [h1,h2]
theorem aQz(a b:List dI)(hab:a.length=b.length)(hl:a.length<1000000000): ∀(m i:Nat),a.length<i+m→i≤a.length→aBm m a b (i:Int)=some (decide (a.drop i=b.drop i))
 |0,i,h,hi=>by omega
 |m+1,i,h,hi=>by
  show aIt (aBm m) a b _=_;unfold aIt
  by_cases c:i<a.length
  ·
   have c':i<b.length:=by omega
   rw [bt (aA1 c),eC c,aA,eC c',aA,wr1 i om,fC c,fC c',bO3]
   by_cases q:a[i]=b[i]
   · rw [bf (by simp [q]),aQz a b hab hl m (i+1) om c];simp [q,-List.getElem_cons_drop]
   · rw [bt (by simp [q])];simp [q,-List.getElem_cons_drop]
  · rw [bf (aA0 c),List.drop_eq_nil_of_le om,List.drop_eq_nil_of_le om];rfl
theorem aYs(a b:List dI)(hl:a.length<1000000000):aDb a b=some (decide (a=b)):=by
 have hFU:=FU;unfold aDb
 by_cases h:a.length=b.length
 · rw [bf (by simp [h]),show (0:Int)=((0:Nat):Int) from rfl,aQz a b h hl aZ 0 om (Nat.zero_le _)];rfl
 · rw [bt (by simp;omega)];have: ¬a=b:=fun e=>h (by rw [e]);simp [this]
theorem aQx(a b:List Int)(hab:a.length=b.length)(hl:a.length<1000000000): ∀(m i:Nat),a.length<i+m→i≤a.length→aBk m a b (i:Int)=some (decide (a.drop i=b.drop i))
 |0,i,h,hi=>by omega
 |m+1,i,h,hi=>by
  show aIr (aBk m) a b _=_;unfold aIr
  by_cases c:i<a.length
  ·
   have c':i<b.length:=by omega
   rw [bt (aA1 c),eC c,aA,eC c',aA,wr1 i om,fC c,fC c']
   by_cases q:a[i]=b[i]
   · rw [bf (by simp [q]),aQx a b hab hl m (i+1) om c];simp [q,-List.getElem_cons_drop]
   · rw [bt (by simp [q])];simp [q,-List.getElem_cons_drop]
  · rw [bf (aA0 c),List.drop_eq_nil_of_le om,List.drop_eq_nil_of_le om];rfl
theorem aYq(a b:List Int)(hl:a.length<1000000000):aAl a b=some (decide (a=b)):=by
 have hFU:=FU;unfold aAl
 by_cases h:a.length=b.length
 · rw [bf (by simp [h]),show (0:Int)=((0:Nat):Int) from rfl,aQx a b h hl aZ 0 om (Nat.zero_le _)];rfl
 · rw [bt (by simp;omega)];have: ¬a=b:=fun e=>h (by rw [e]);simp [this]
open Go Go.AM Go.Pl Go.Pt
def HW(g:aU):Prop:= ∀x,x∈g.Hashes→HOK x
theorem bR1{l:List aH}{e:aH}(h:e∈l): ∃k,fnd (oN e.U e.V) l 0=some k:=by
 cases q:fnd (oN e.U e.V) l 0 with
 |some k=>exact ⟨k,rfl⟩
 |none=>
  have:=aNm q;rw [List.find?_eq_none] at this;have:=this e h;unfold oN at this;simp at this
def acc(g:aU)(t:Int)(vs:List Nat):List Nat:=(List.range ((hsh g t).length*lvl g.Config.N)).map fun k=>cEg (fun v:Nat=>aFt ((hsh g t).getD (k/lvl g.Config.N) ⟨0,0⟩) (k%lvl g.Config.N) ((aMa (pf g t) (v:Int) g.Edges).map nmE)) vs
def lst(g:aU)(t:Int)(i:Nat):List Nat:=(List.range i).filter fun v:Nat=>decide (pf g t (v:Int)=v)
theorem wfu{n:Int}(h:(Lit.int .u64 n).wf=true):0≤n:=by
 have h0:(decide (IntKind.u64.min≤n)&&decide (n≤IntKind.u64.max))=true:=h;rw [Bool.and_eq_true,decide_eq_true_eq] at h0;exact h0.1
abbrev WG(g:aU)(P1 P2 P3:Prop):Prop:=P1∧((∀y,y∈g.Hashes→((Lit.int .u64 y.A).wf=true)∧((Lit.int .u64 y.B).wf=true))∧P2)∧P3
theorem WG.hw{g:aU}{P1 P2 P3:Prop}(w:WG g P1 P2 P3):HW g:=fun x hx=>⟨wfu (w.2.1.1 x hx).1,wfu (w.2.1.1 x hx).2⟩
end Go.Proofs.YtkdohhmacfoolaaGreat
