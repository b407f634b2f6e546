/- Facts. No condition. -/
import Derived.Test.YtkdohhmacfoolaaGreatDoorOaSeaQ
set_option linter.unusedVariables false
set_option linter.unusedSimpArgs false
set_option maxRecDepth 20000
set_option maxHeartbeats 1000000
namespace Go.Proofs.YtkdohhmacfoolaaGreatDoor
open Go Go.AM Go.Pl Go.Pt
section
variable {g:aE}(hE:g.Edges.length<1000000000)(h:GOK g)
include hE h
end
section
variable {hs:List bS}{V:Nat}{names:List Nat}(hh: ∀h,h∈hs→HOK h)(hn: ∀y,y∈names→y<18446744073709551616)(hnl:names.length<1000000000)(hV:V≤61)(hR:hs.length≤8)
include hh hn hnl
include hV hR
end
section
variable {g:aE}(hE:g.Edges.length<1000000000)(h:GOK g)(hw: ∀x,x∈g.Hashes→HOK x){t v:Int}(h0:0≤t)(ht:t<g.Config.L)(v0:0≤v)(vn:v<g.Config.N)
include hE h hw h0 ht v0 vn
end
open Go Go.AM Go.Pl Go.Pt
def HW(g:aE):Prop:= ∀x,x∈g.Hashes→HOK x
theorem aL3(P:aC→Bool)(a:aC)(l:List aC)(i:Nat):fnd P (a::l) i=if P a then some i else fnd P l (i+1):=rfl
theorem aJd{l:List aC}(hl:l.length<1000000000)(u v:Int): ∀(m i:Nat),l.length<i+m→i≤l.length→qZ m l u v (i:Int)=some (match fnd (fB u v) (l.drop i) i with|some k=>(k:Nat)|none=> -1)
 |0,i,_,_=>by omega
 |m+1,i,hm,hi=>by
  show aBo (qZ m) _ _ _ _=_;unfold aBo
  by_cases c:i<l.length
  · rw [bt (kJ c),dH c,aA,cR,aA,cR,aA,cR,aA,wr1 i om,gH c,aJd hl u v m (i+1) om c,aL3];unfold fB;generalize l[i]=e;cases q1:(e.U==u)<;>cases q2:(e.V==v)<;>cases q3:(e.U==v)<;>cases q4:(e.V==u)<;>simp [q1,q2,q3,q4]
  · rw [bf (lC c),List.drop_eq_nil_of_le om];rfl
theorem aBp{l:List aC}(hl:l.length<1000000000)(u v:Int):lZ l u v=some (match fnd (fB u v) l 0 with|some k=>((k:Nat):Int)|none=> -1):=by
 have hFU:=FU;exact aJd hl u v aZ 0 om (Nat.zero_le _)
theorem aWg{l:List aC}{e:aC}(h:e∈l): ∃k,fnd (fB e.U e.V) l 0=some k:=by
 cases q:fnd (fB e.U e.V) l 0 with
 |some k=>exact ⟨k,rfl⟩
 |none=>
  have:=aGl q;rw [List.find?_eq_none] at this;have:=this e h;unfold fB at this;simp at this
def acc(g:aE)(t:Int)(vs:List Nat):List Nat:=(List.range ((hsh g t).length*lvl g.Config.N)).map fun k=>bQt (fun v:Nat=>xC ((hsh g t).getD (k/lvl g.Config.N) ⟨0,0⟩) (k%lvl g.Config.N) ((aE7 (pf g t) (v:Int) g.Edges).map nmE)) vs
def lst(g:aE)(t:Int)(i:Nat):List Nat:=(List.range i).filter fun v:Nat=>decide (pf g t (v:Int)=v)
theorem wfu{n:Int}(h:(Lit.int .u64 n).wf=true):0≤n:=by
 have h0:(decide (IntKind.u64.min≤n)&&decide (n≤IntKind.u64.max))=true:=h;rw [Bool.and_eq_true,decide_eq_true_eq] at h0;exact h0.1
abbrev WG(g:aE)(P1 P2 P3:Prop):Prop:=P1∧((∀y,y∈g.Hashes→((Lit.int .u64 y.A).wf=true)∧((Lit.int .u64 y.B).wf=true))∧P2)∧P3
theorem WG.hw{g:aE}{P1 P2 P3:Prop}(w:WG g P1 P2 P3):HW g:=fun x hx=>⟨wfu (w.2.1.1 x hx).1,wfu (w.2.1.1 x hx).2⟩
end Go.Proofs.YtkdohhmacfoolaaGreatDoor
