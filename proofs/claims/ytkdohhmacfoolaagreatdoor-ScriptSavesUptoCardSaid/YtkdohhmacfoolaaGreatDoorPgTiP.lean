/- Facts. No condition. -/
import Derived.Test.YtkdohhmacfoolaaGreatDoorPgSeaQ
import Derived.Test.YtkdohhmacfoolaaGreatDoorPgAmM
set_option linter.unusedVariables false
set_option linter.unusedSimpArgs false
set_option maxRecDepth 20000
set_option maxHeartbeats 1000000
namespace Go.Proofs.YtkdohhmacfoolaaGreatDoor
open Go Go.AM Go.Pl Go.Pt
section
variable {g:aJ}(hE:g.Edges.length<1000000000)(h:GOK g)
include hE h
end
section
variable {hs:List cI}{V:Nat}{names:List Nat}(hh: ∀h,h∈hs→HOK h)(hn: ∀y,y∈names→y<18446744073709551616)(hnl:names.length<1000000000)(hV:V≤61)(hR:hs.length≤8)
include hh hn hnl
include hV hR
end
section
variable {g:aJ}(hE:g.Edges.length<1000000000)(h:GOK g)(hw: ∀x,x∈g.Hashes→HOK x){t v:Int}(h0:0≤t)(ht:t<g.Config.L)(v0:0≤v)(vn:v<g.Config.N)
include hE h hw h0 ht v0 vn
end
open Go Go.AM Go.Pl Go.Pt
def HW(g:aJ):Prop:= ∀x,x∈g.Hashes→HOK x
theorem bS1{l:List aE}{e:aE}(h:e∈l): ∃k,fnd (kN e.U e.V) l 0=some k:=by
 cases q:fnd (kN e.U e.V) l 0 with
 |some k=>exact ⟨k,rfl⟩
 |none=>
  have:=aMw q;rw [List.find?_eq_none] at this;have:=this e h;unfold kN at this;simp at this
def acc(g:aJ)(t:Int)(vs:List Nat):List Nat:=(List.range ((hsh g t).length*lvl g.Config.N)).map fun k=>cHu (fun v:Nat=>aEf ((hsh g t).getD (k/lvl g.Config.N) ⟨0,0⟩) (k%lvl g.Config.N) ((aLi (pf g t) (v:Int) g.Edges).map nmE)) vs
def lst(g:aJ)(t:Int)(i:Nat):List Nat:=(List.range i).filter fun v:Nat=>decide (pf g t (v:Int)=v)
theorem wfu{n:Int}(h:(Lit.int .u64 n).wf=true):0≤n:=by
 have h0:(decide (IntKind.u64.min≤n)&&decide (n≤IntKind.u64.max))=true:=h;rw [Bool.and_eq_true,decide_eq_true_eq] at h0;exact h0.1
abbrev WG(g:aJ)(P1 P2 P3:Prop):Prop:=P1∧((∀y,y∈g.Hashes→((Lit.int .u64 y.A).wf=true)∧((Lit.int .u64 y.B).wf=true))∧P2)∧P3
theorem WG.hw{g:aJ}{P1 P2 P3:Prop}(w:WG g P1 P2 P3):HW g:=fun x hx=>⟨wfu (w.2.1.1 x hx).1,wfu (w.2.1.1 x hx).2⟩
end Go.Proofs.YtkdohhmacfoolaaGreatDoor
namespace Go.Pt
variable {l:List E}{n:Nat}
theorem Tch.other{i:Nat}{x y z:Int}(hl: ∀e,e∈l→e.1≠e.2)(h:Tch l i x y)(k:Tch l i x z):y=z:=by
 have m: ∀ {a b:Int},l[i]? =some (a,b)→a≠b:=fun h=>hl _ (List.mem_of_getElem? h);rcases h with h|h<;>rcases k with k|k<;>rw [h] at k<;>cases k
 · rfl
 · exact absurd rfl (m h)
 · exact absurd rfl (m h)
 · rfl
theorem Tch.mem{i:Nat}{x y:Int}(h:Tch l i x y):(x,y)∈l∨(y,x)∈l:=by
 rcases h with h|h
 · exact .inl (List.mem_of_getElem? h)
 · exact .inr (List.mem_of_getElem? h)
structure BI(l:List E)(n:Nat)(v:Int)(done q:List Int)(lead:List Int):Prop where
  len:lead.length=n
  nd:(done++q).Nodup
  rg: ∀x,x∈done++q→0≤x∧x<(n:Int)
  hv:v∈done++q
  cn: ∀x,x∈done++q→cO l x v
  ld: ∀x,x∈done++q→(x=v∧lead[x.toNat]? =some (-1))∨(x≠v∧ ∃(i:Nat) (y:Int),lead[x.toNat]? =some (i:Int)∧Tch l i x y∧Br l x v i∧y∈done)
  no: ∀x:Nat,x<n→(x:Int)∉done++q→lead[x]? =some (-1)
  cl: ∀x,x∈done→ ∀i y,Tch l i x y→y∈done++q
structure BJ(l:List E)(n:Nat)(v:Int)(done:List Int)(x:Int)(q:List Int)(P:List Nat)(lead:List Int):Prop where
  len:lead.length=n
  nd:(done++x::q).Nodup
  rg: ∀y,y∈done++x::q→0≤y∧y<(n:Int)
  hv:v∈done++x::q
  cn: ∀y,y∈done++x::q→cO l y v
  ld: ∀y,y∈done++x::q→(y=v∧lead[y.toNat]? =some (-1))∨(y≠v∧ ∃(i:Nat) (z:Int),lead[y.toNat]? =some (i:Int)∧Tch l i y z∧Br l y v i∧(z∈done∨(z=x∧i∈P)))
  no: ∀y:Nat,y<n→(y:Int)∉done++x::q→lead[y]? =some (-1)
  cl: ∀y,y∈done→ ∀i z,Tch l i y z→z∈done++x::q
  cx: ∀i,i∈P→ ∀z,Tch l i x z→z∈done++x::q
theorem BI.start{v:Int}(h0:0≤v)(hn:v<(n:Int)):BI l n v [] [v] (List.replicate n (-1)):=by
 refine ⟨by simp,by simp,fun x hx=>?_,by simp,fun x hx=>?_,fun x hx=>?_,fun x hx _=>by rw [List.getElem?_replicate,if_pos hx],fun x hx=>by cases hx⟩
 · simp at hx;subst hx;exact ⟨h0,hn⟩
 · simp at hx;subst hx;exact .refl _
 · simp at hx;subst hx;exact .inl ⟨rfl,by rw [List.getElem?_replicate,if_pos om]⟩
theorem BI.enter{v x:Int}{done q lead:List Int}(h:BI l n v done (x::q) lead):BJ l n v done x q [] lead:=
 ⟨h.len,h.nd,h.rg,h.hv,h.cn,fun y hy=>(h.ld y hy).imp id fun ⟨a,i,z,b,c,d,e⟩=>⟨a,i,z,b,c,d,.inl e⟩,h.no,h.cl,fun i hi=>by cases hi⟩
theorem BJ.leave{v x:Int}{done q lead:List Int}{P:List Nat}(h:BJ l n v done x q P lead)(hP: ∀i z,Tch l i x z→i∈P):BI l n v (done++[x]) q lead:=by
 have e:(done++[x])++q=done++x::q:=by simp
 refine ⟨h.len,by rw [e];exact h.nd,by rw [e];exact h.rg,by rw [e];exact h.hv,by rw [e];exact h.cn,fun y hy=>?_,by rw [e];exact h.no,fun y hy i z ht=>?_⟩
 ·
  rw [e] at hy;refine (h.ld y hy).imp id fun ⟨a,i,z,b,c,d,f⟩=>⟨a,i,z,b,c,d,?_⟩
  rcases f with f|f
  · simp [f]
  · simp [f.1]
 ·
  rw [e];rcases List.mem_append.1 hy with m|m
  · exact h.cl y m i z ht
  · simp at m;subst m;exact h.cx i (hP i z ht) z ht
section
variable {v x:Int}{done q lead:List Int}{P:List Nat}(hr:InR n l)(hf:eN n l)(hl: ∀e,e∈l→e.1≠e.2)
include hr hf hl
omit hr hf in
theorem BJ.back(h:BJ l n v done x q P lead){i:Nat}{y:Int}(ht:Tch l i x y)(he:lead[x.toNat]? =some (i:Int)):BJ l n v done x q (P++[i]) lead:=by
 refine ⟨h.len,h.nd,h.rg,h.hv,h.cn,fun z hz=>(h.ld z hz).imp id fun ⟨a,j,w,b,c,d,f⟩=>⟨a,j,w,b,c,d,f.imp id fun g=>⟨g.1,by simp [g.2]⟩⟩,h.no,h.cl,fun j hj z hz=>?_⟩;rcases List.mem_append.1 hj with m|m
 · exact h.cx j m z hz
 ·
  simp at m;subst m;rcases h.ld x (by simp) with ⟨_,a⟩|⟨_,k,w,a,b,c,d⟩
  · rw [he] at a;injection a with a;omega
  ·
   rw [he] at a;have:j=k:=by injection a with a;omega
   subst this;have e:=b.other hl hz;subst e;rcases d with d|⟨d,_⟩
   · simp [d]
   · simp [d]
theorem BJ.on(h:BJ l n v done x q P lead){i:Nat}{y:Int}(ht:Tch l i x y)(hP:i∉P)(he:lead[x.toNat]? ≠some (i:Int)):
 0≤y∧y<(n:Int)∧BJ l n v done x (q++[y]) (P++[i]) (lead.set y.toNat (i:Int)):=by
 have hx:x∈done++x::q:=by simp
 have hcx:=h.cn x hx
 have nbx: ¬Br l x v i:=fun b=>by
  rcases h.ld x hx with ⟨a,_⟩|⟨_,k,w,a,c,d,_⟩
  · subst a;exact aWt i b
  · have:=aVb hr hf ht c b d hcx;subst this;exact he a
 have hby:Br l y v i:=(bRl hr hf ht nbx i).2 (.inr rfl);have hcy:cO l y v:=ht.symm.conn.trans hcx;have hyv:y≠v:=fun e=>by subst e;exact aWt i hby
 have hry:0≤y∧y<(n:Int):=by
  rcases ht.mem with m|m
  · have:=hr _ m;exact ⟨this.2.2.1,this.2.2.2⟩
  · have:=hr _ m;exact ⟨this.1,this.2.1⟩
 have hny:y∉done++x::q:=fun m=>by
  rcases h.ld y m with ⟨a,_⟩|⟨_,k,w,a,c,d,f⟩
  · exact hyv a
  ·
   have:=aVb hr hf ht.symm c hby d hcy;subst this;have:=ht.symm.other hl c;subst this;rcases f with f|⟨_,f⟩
   · have:=List.nodup_append.1 h.nd;exact this.2.2 _ f _ (by simp) rfl
   · exact hP f
 have eL:done++x::(q++[y])=(done++x::q)++[y]:=by simp
 refine ⟨hry.1,hry.2,⟨by rw [List.length_set];exact h.len,?_,fun z hz=>?_,?_,fun z hz=>?_,fun z hz=>?_,fun z hz hn=>?_,fun z hz j w hw=>?_,fun j hj w hw=>?_⟩⟩
 · rw [eL,List.nodup_append];exact ⟨h.nd,by simp,fun a ha b hb=>by simp at hb;subst hb;exact fun e=>hny (e▸ha)⟩
 ·
  rw [eL] at hz;rcases List.mem_append.1 hz with m|m
  · exact h.rg z m
  · simp at m;subst m;exact hry
 · rw [eL];exact List.mem_append_left _ h.hv
 ·
  rw [eL] at hz;rcases List.mem_append.1 hz with m|m
  · exact h.cn z m
  · simp at m;subst m;exact hcy
 ·
  rw [eL] at hz
  by_cases e:z=y
  · subst e;exact .inr ⟨hyv,i,x,by rw [List.getElem?_set_self (by rw [h.len];omega)],ht.symm,hby,.inr ⟨rfl,by simp⟩⟩
  ·
   have m:z∈done++x::q:=by
    rcases List.mem_append.1 hz with m|m
    · exact m
    · simp at m;exact absurd m e
   have hz0:=h.rg z m;rw [List.getElem?_set_ne om];exact (h.ld z m).imp id fun ⟨a,j,w,b,c,d,f⟩=>⟨a,j,w,b,c,d,f.imp id fun g=>⟨g.1,by simp [g.2]⟩⟩
 · rw [eL] at hn;have hn1:(z:Int)∉done++x::q:=fun m=>hn (List.mem_append_left _ m);have hn2:(z:Int)≠y:=fun e=>hn (by simp [e]);rw [List.getElem?_set_ne om];exact h.no z hz hn1
 · rw [eL];exact List.mem_append_left _ (h.cl z hz j w hw)
 ·
  rw [eL];rcases List.mem_append.1 hj with m|m
  · exact List.mem_append_left _ (h.cx j m w hw)
  · simp at m;subst m;have:=ht.other hl hw;subst this;simp
end
theorem BI.size{v:Int}{done q lead:List Int}(h:BI l n v done q lead):done.length+q.length≤n:=by
 have:(done++q).length≤((List.range n).map fun (k:Nat)=>(k:Int)).length:=h.nd.length_le_of_subset fun x hx=>by
  have:=h.rg x hx;rw [List.mem_map];exact ⟨x.toNat,by rw [List.mem_range];omega,by omega⟩
 simpa using this
structure bQw(l:List E)(n:Nat)(v:Int)(lead:List Int):Prop where
  len:lead.length=n
  yes: ∀x:Int,0≤x→x<n→cO l x v→x≠v→ ∃(i:Nat) (y:Int),lead[x.toNat]? =some (i:Int)∧Tch l i x y∧Br l x v i
  no: ∀x:Int,0≤x→x<n→ ¬cO l x v→lead[x.toNat]? =some (-1)
theorem BI.lead{v:Int}{done lead:List Int}(h:BI l n v done [] lead):bQw l n v lead:=by
 have cl: ∀ {a b:Int},cO l a b→a∈done→b∈done:=by
  intro a b hab
  induction hab with
  |refl=>exact id
  |fwd e _ ih=>
   intro ha;obtain ⟨i,hi⟩:=List.getElem?_of_mem e;have:=h.cl _ ha i _ (.inl hi);exact ih (by simpa using this)
  |bwd e _ ih=>
   intro ha;obtain ⟨i,hi⟩:=List.getElem?_of_mem e;have:=h.cl _ ha i _ (.inr hi);exact ih (by simpa using this)
 have hv:v∈done:=by simpa using h.hv
 refine ⟨h.len,fun x h0 h1 hc hne=>?_,fun x h0 h1 hc=>?_⟩
 ·
  have hx:x∈done:=cl hc.symm hv;rcases h.ld x (by simp [hx]) with ⟨a,_⟩|⟨_,i,y,a,b,c,_⟩
  · exact absurd a hne
  · exact ⟨i,y,a,b,c⟩
 ·
  have e:((x.toNat:Nat):Int)=x:=by omega
  refine h.no x.toNat om fun m=>hc ?_;rw [e] at m;exact h.cn x m
end Go.Pt
namespace Go.Proofs.YtkdohhmacfoolaaGreatDoor
open Go Go.AM Go.Pl Go.Pt
def bUv(l:List aE)(x:Int)(i:Nat):Bool:=match l[i]? with|some e=>(e.U==x)||(e.V==x)|none=>false
def stN(l:List aE)(k:Nat)(x:Int):List Nat:=(List.range k).filter (bUv l x)
theorem aP9{l:List aE}{i:Nat}{x y:Int} :Tch (en l) i x y↔ ∃e,l[i]? =some e∧((e.U=x∧e.V=y)∨(e.U=y∧e.V=x)):=by
 unfold Tch en;rw [List.getElem?_map]
 cases l[i]? with
 |none=>simp
 |some e=>simp
theorem bGf{l:List aE}{k:Nat}{x:Int}{i:Nat} :i∈stN l k x↔i<k∧ ∃y,Tch (en l) i x y:=by
 unfold stN bUv;rw [List.mem_filter,List.mem_range];refine and_congr Iff.rfl ?_
 cases h:l[i]? with
 |none=>
  constructor
  · intro q;simp at q
  · rintro ⟨y,q⟩;obtain ⟨e,h1,_⟩:=aP9.1 q;rw [h] at h1;cases h1
 |some e=>
  simp only [Bool.or_eq_true,beq_iff_eq];constructor
  ·
   rintro (q|q)
   · exact ⟨e.V,aP9.2 ⟨e,h,.inl ⟨q,rfl⟩⟩⟩
   · exact ⟨e.U,aP9.2 ⟨e,h,.inr ⟨rfl,q⟩⟩⟩
  ·
   rintro ⟨y,q⟩;obtain ⟨e',h1,h2⟩:=aP9.1 q;rw [h] at h1;cases h1;rcases h2 with ⟨a,_⟩|⟨_,a⟩
   · exact .inl a
   · exact .inr a
theorem bLd(l:List aE)(k:Nat)(x:Int):(stN l k x).Nodup:=List.nodup_range.filter _
theorem aRf(l:List aE)(k:Nat)(x:Int):(stN l k x).length≤k:=by unfold stN;exact Nat.le_trans (List.length_filter_le _ _) (by simp)
theorem bQ9{l:List aE}{k:Nat}(h:k<l.length)(x:Int):stN l (k+1) x=stN l k x++if l[k].U=x∨l[k].V=x then [k] else []:=by
 unfold stN;rw [List.range_succ,List.filter_append,List.filter_cons]
 have:bUv l x k=decide (l[k].U=x∨l[k].V=x):=by
  unfold bUv;rw [List.getElem?_eq_getElem h];rw [Bool.eq_iff_iff,decide_eq_true_iff];simp
 rw [this]
 by_cases c:l[k].U=x∨l[k].V=x
 · rw [if_pos (by simpa using c),if_pos c];rfl
 · rw [if_neg (by simpa using c),if_neg c];rfl
def stT(n:Nat)(l:List aE)(k:Nat):List (List Int):=(List.range n).map fun (x:Nat)=>ns (stN l k (x:Int))
theorem aHw(n:Nat)(l:List aE)(k:Nat):(stT n l k).length=n:=by simp [stT]
theorem aKi{n:Nat}{l:List aE}{k x:Nat}(h:x<n):(stT n l k)[x]? =some (ns (stN l k (x:Int))):=by
 unfold stT;rw [List.getElem?_map,List.getElem?_range h];rfl
theorem bAl{n:Int}(h0:0≤n)(hn:n≤1024){l:List aE}(hl:l.length<1000000000)(hr:Rg n l)(hne: ∀e,e∈l→e.U≠e.V)(v:Int): ∀(m i:Nat),l.length<i+m→i≤l.length→
 oF m n l v (stT n.toNat l i) l (l.length:Int) (i:Int)=(mkc n n 0).bind fun lead=>mG aY l v (stT n.toNat l l.length) lead (lead.length:Int) 0
 |0,i,_,_=>by omega
 |m+1,i,hm,hi=>by
  show vP (oF m) _ _ _ _ _ _ _=_;unfold vP
  by_cases c:i<l.length
  ·
   obtain ⟨u0,un,v0,vn⟩:=hr.at c;have hd:=hne _ (List.getElem_mem c);obtain ⟨u,hu⟩:=Int.eq_ofNat_of_zero_le u0;obtain ⟨w,hw⟩:=Int.eq_ofNat_of_zero_le v0;have hun:u<n.toNat:=by omega
   have hwn:w<n.toNat:=by omega
   have huw:u≠w:=by omega
   have l1:=aRf l i (u:Int);have l2:=aRf l i (w:Int)
   rw [bt (oJ c),cN c,aA,hu,hw,mD,aKi hun,aA,gG (by rw [aFk];simp;omega),aA,uZ (by rw [aHw];exact hun),aA,mD,List.getElem?_set_ne huw,aKi hwn,aA,gG (by rw [aFk];simp;omega),aA,
    uZ (by rw [List.length_set,aHw];exact hwn),aA,wr1 i om]
   have e:((stT n.toNat l i).set u (ns (stN l i (u:Int))++[(i:Int)])).set w (ns (stN l i (w:Int))++[(i:Int)])=stT n.toNat l (i+1):=by
    apply List.ext_getElem?;intro x
    by_cases hx:x<n.toNat
    ·
     rw [aKi hx,bQ9 c,hu,hw];rw [List.getElem?_set,List.getElem?_set]
     by_cases a:w=x
     · subst a;rw [if_pos rfl,if_pos (by rw [List.length_set,aHw];exact hx),if_pos (.inr rfl)];simp [ns]
     ·
      rw [if_neg a]
      by_cases b:u=x
      · subst b;rw [if_pos rfl,if_pos (by rw [aHw];exact hx),if_pos (.inl rfl)];simp [ns]
      · rw [if_neg b,aKi hx,if_neg om,List.append_nil]
    · rw [List.getElem?_eq_none (by simp [aHw];omega),List.getElem?_eq_none (by rw [aHw];omega)]
   rw [e];exact bAl h0 hn hl hr hne v m (i+1) om c
  · rw [bf (oI c),show i=l.length by omega]
theorem bAm{l:List aE}(v:Int)(ls:List (List Int)){n:Nat}(hn:n≤1024): ∀(m i:Nat),n<i+m→i≤n→mG m l v ls (List.replicate i (-1)++List.replicate (n-i) 0) (n:Int) (i:Int)=gV aY l ls (List.replicate n (-1)) [v]
 |0,i,_,_=>by omega
 |m+1,i,hm,hi=>by
  show vQ (mG m) _ _ _ _ _ _=_;unfold vQ
  by_cases c:i<n
  ·
   have hlen:i<(List.replicate i (-1:Int)++List.replicate (n-i) 0).length:=by simp;omega
   rw [bt (oJ c),cN hlen,aA,uZ hlen,aA,wr1 i om]
   have e:(List.replicate i (-1:Int)++List.replicate (n-i) 0).set i (-1)=List.replicate (i+1) (-1)++List.replicate (n-(i+1)) 0:=by
    obtain ⟨d,hd⟩: ∃d,n-i=d+1:=⟨n-i-1,by omega⟩
    rw [List.set_append_right _ _ (by simp),List.length_replicate,Nat.sub_self,hd,show n-(i+1)=d by omega,List.replicate_succ,List.set_cons_zero,List.replicate_succ',List.append_assoc];rfl
   rw [e];exact bAm v ls hn m (i+1) om c
  · rw [bf (oI c),show i=n by omega,Nat.sub_self];simp
theorem aVy{l:List aE}{i:Nat}{x y:Int}{e:aE}(he:l[i]? =some e)(hne:e.U≠e.V)(ht:Tch (en l) i x y):uJ e x=some y:=by
 obtain ⟨e',h1,h2⟩:=aP9.1 ht;rw [he] at h1;cases h1;unfold uJ;rcases h2 with ⟨a,b⟩|⟨a,b⟩
 · rw [bt (by simp [a]),b]
 · rw [bf (by simp;omega),a]
section
variable {n:Int}(h0:0≤n)(hn:n≤1024){l:List aE}(hl:l.length<1000000000)(hr:Rg n l)(hne: ∀e,e∈l→e.U≠e.V)(hf:eN n.toNat (en l)){v:Int}
include h0 hn hl hr hne hf
theorem bAo(rec3:List aE→List (List Int)→List Int→List Int→Option (List Int))(ls:List (List Int)){done:List Int}{x:Int}(hx:0≤x∧x<n): ∀(m k:Nat) (q lead:List Int),BJ (en l) n.toNat v done x q ((stN l l.length x).take k) lead→(stN l l.length x).length<k+m→k≤(stN l l.length x).length→
 ∃q' lead',oG rec3 m l ls lead (x::q) x (ns (stN l l.length x)) ((ns (stN l l.length x)).length:Int) (k:Int)=rec3 l ls lead' q'∧BI (en l) n.toNat v (done++[x]) q' lead'
 |0,k,q,lead,_,_,_=>by omega
 |m+1,k,q,lead,hJ,hm,hk=>by
  have hln:=aRf l l.length x
  have hnl: ∀e,e∈en l→e.1≠e.2:=fun e he=>by
   obtain ⟨e',h1,rfl⟩:=oW.1 he;exact hne e' h1
  have hrI:=hr.inR h0;show ∃q' lead',vS rec3 (oG rec3 m) _ _ _ _ _ _ _ _=_∧_;unfold vS;rw [aFk]
  by_cases c:k<(stN l l.length x).length
  ·
   have hmem:=List.getElem_mem c;obtain ⟨hi,y,ht⟩:=bGf.1 hmem;have htk:(stN l l.length x).take (k+1)=(stN l l.length x).take k++[(stN l l.length x)[k]]:=vC c
   have hnot:(stN l l.length x)[k]∉(stN l l.length x).take k:=fun m=>by
    have h1:((stN l l.length x).take (k+1)).Nodup:=(bLd l l.length x).sublist (List.take_sublist _ _);rw [htk,List.nodup_append] at h1;exact h1.2.2 _ m _ (by simp) rfl
   have hxl:x.toNat<lead.length:=by rw [hJ.len];omega
   rw [bt (oJ c),bEc c,aA,xK (k:=x.toNat) om,List.getElem?_eq_getElem hxl,aA,wr1 k om];have ih:=bAo rec3 ls (done:=done) hx m (k+1);rw [aFk,htk] at ih
   have sz:done.length+(q.length+1)≤n.toNat:=by
    have h2:(done++x::q).length≤((List.range n.toNat).map fun (k:Nat)=>(k:Int)).length:=hJ.nd.length_le_of_subset fun z hz=>by
     have:=hJ.rg z hz;rw [List.mem_map];exact ⟨z.toNat,by rw [List.mem_range];omega,by omega⟩
    simpa using h2
   by_cases e:(((stN l l.length x)[k]:Nat):Int)=lead[x.toNat]
   · rw [bf (by simp [e])];exact ih q lead (hJ.back hnl ht (by rw [List.getElem?_eq_getElem hxl,e])) om om
   · obtain ⟨y0,yn,hJ'⟩:=hJ.on hrI hf hnl ht hnot (by rw [List.getElem?_eq_getElem hxl];intro q;exact e (Option.some.inj q).symm);have hget:l[(stN l l.length x)[k]]? =some l[(stN l l.length x)[k]]:=List.getElem?_eq_getElem hi;rw [bt (by simp [e]),mD,hget,aA,aVy hget (hne _ (List.getElem_mem hi)) ht,aA,bFe (k:=y.toNat) om (by rw [hJ.len];omega),aA,gG (by simp;omega),aA];exact ih (q++[y]) _ hJ' om om
  ·
   rw [bf (oI c)];rw [List.take_of_length_le om] at hJ;refine ⟨q,lead,?_,hJ.leave fun i z hz=>bGf.2 ⟨?_,z,hz⟩⟩
   ·
    have:slc (x::q) 1 ((x::q).length:Int)=some q:=by
     have:=wF (l:=x::q) (lo:=1) (a:=1) rfl (by simp)
     simpa using this
    rw [this,aA]
   · have:=hz.lt;rw [zG] at this;exact this
theorem bAn: ∀(m:Nat) (done q lead:List Int),BI (en l) n.toNat v done q lead→n.toNat<done.length+m→ ∃lead',gV m l (stT n.toNat l l.length) lead q=some lead'∧bQw (en l) n.toNat v lead'
 |0,done,q,lead,hI,hm=>by have:=hI.size;omega
 |m+1,done,q,lead,hI,hm=>by
  have hFU:=FU;show ∃lead',vR (gV m) _ _ _ _=_∧_;unfold vR
  cases q with
  |nil=>
   rw [bf (by simp)];exact ⟨lead,rfl,hI.lead⟩
  |cons x q=>
   have hx:=hI.rg x (by simp);have hxn:0≤x∧x<n:=⟨hx.1,by omega⟩
   have hs:idx (stT n.toNat l l.length) x=some (ns (stN l l.length x)):=by
    rw [xK (k:=x.toNat) om,aKi om];congr 3;omega
   have hln:=aRf l l.length x;obtain ⟨q',lead',e1,e2⟩:=bAo h0 hn hl hr hne hf (gV m) (stT n.toNat l l.length) hxn aY 0 q lead hI.enter om (Nat.zero_le _);rw [bt (by simp),show idx (x::q) 0=some x from rfl,aA,hs,aA];have e1':oG (gV m) aY l (stT n.toNat l l.length) lead (x::q) x (ns (stN l l.length x)) ((ns (stN l l.length x)).length:Int) 0=gV m l (stT n.toNat l l.length) lead' q':=e1;rw [e1'];exact bAn m (done++[x]) q' lead' e2 (by simp;omega)
theorem aU8(v0:0≤v)(vn:v<n): ∃lead,uI n l v=some lead∧bQw (en l) n.toNat v lead:=by
 have hFU:=FU;unfold uI;rw [bEs h0 om,aA]
 have e0:List.replicate n.toNat ([]:List Int)=stT n.toNat l 0:=by
  apply List.ext_getElem?;intro x
  by_cases hx:x<n.toNat
  · rw [aKi hx,List.getElem?_replicate,if_pos hx];rfl
  · rw [List.getElem?_eq_none (by simp;omega),List.getElem?_eq_none (by rw [aHw];omega)]
 have h1:=bAl h0 hn hl hr hne v aY 0 om (Nat.zero_le _);rw [e0];have h1':oF aY n l v (stT n.toNat l 0) l (l.length:Int) 0=_:=h1;rw [h1',bEs h0 om,aA];have h2:=bAm (l:=l) v (stT n.toNat l l.length) (n:=n.toNat) om aY 0 om (Nat.zero_le _)
 have h2':mG aY l v (stT n.toNat l l.length) (List.replicate n.toNat 0) ((List.replicate n.toNat (0:Int)).length:Int) 0=gV aY l (stT n.toNat l l.length) (List.replicate n.toNat (-1)) [v]:=by
  rw [List.length_replicate];exact h2
 rw [h2'];exact bAn h0 hn hl hr hne hf aY [] [v] _ (BI.start v0 om) (by simp;omega)
end
end Go.Proofs.YtkdohhmacfoolaaGreatDoor
