/- Facts. No condition. -/
import Derived.Test.YtkdohhmacfoolaaGreatDoorPgSeaP
set_option linter.unusedVariables false
set_option linter.unusedSimpArgs false
set_option maxRecDepth 20000
set_option maxHeartbeats 1000000
namespace Go.Proofs.YtkdohhmacfoolaaGreatDoor
open Go Go.AM Go.Pl Go.Pt
def mat(R V:Nat)(W:Nat→Nat→Nat):List Int:=(List.range (R*V)).map fun (k:Nat)=>((W (k/V) (k%V):Nat):Int)
theorem aXx(R V:Nat)(W:Nat→Nat→Nat):(mat R V W).length=R*V:=by simp [mat]
theorem bBo{R V r i:Nat}(hr:r<R)(hi:i<V):r*V+i<R*V:=by
 have:(r+1)*V≤R*V:=Nat.mul_le_mul_right _ hr;rw [Nat.add_mul] at this;omega
theorem bPx{V r i:Nat}(hi:i<V):(r*V+i)/V=r:=by
 rw [Nat.add_comm,Nat.add_mul_div_right _ _ om,Nat.div_eq_of_lt hi,Nat.zero_add]
theorem bPy{V r i:Nat}(hi:i<V):(r*V+i)%V=i:=by
 rw [Nat.add_comm,Nat.add_mul_mod_self_right,Nat.mod_eq_of_lt hi]
theorem aXw{R V:Nat}{W W':Nat→Nat→Nat}(h: ∀r i,r<R→i<V→W r i=W' r i):mat R V W=mat R V W':=by
 unfold mat;apply List.map_congr_left;intro k hk;rw [List.mem_range] at hk;have hV:0<V:=Nat.pos_of_ne_zero fun e=>by subst e;simp at hk
 have h1:k/V<R:=Nat.div_lt_of_lt_mul (by rw [Nat.mul_comm];exact hk);rw [h _ _ h1 (Nat.mod_lt _ hV)]
theorem bU9{R V:Nat}{W:Nat→Nat→Nat}{r i:Nat}(hr:r<R)(hi:i<V){x:Int}(hx:x=((r*V+i:Nat):Int)):idx (mat R V W) x=some ((W r i:Nat):Int):=by
 rw [xK hx];unfold mat;rw [List.getElem?_map,List.getElem?_range (bBo hr hi),Option.map_some,bPx hi,bPy hi]
theorem bUa{R V:Nat}{W W':Nat→Nat→Nat}{r i:Nat}(hr:r<R)(hi:i<V){x y:Int}(hx:x=((r*V+i:Nat):Int))(hy:y=((W' r i:Nat):Int))(hw: ∀r' i',¬(r'=r∧i'=i)→W' r' i'=W r' i'):
 stt (mat R V W) x y=some (mat R V W'):=by
 rw [bFe hx (by rw [aXx];exact bBo hr hi)];congr 1;apply List.ext_getElem?;intro k;rw [List.getElem?_set];unfold mat
 by_cases hk:k<R*V
 ·
  have hV:0<V:=by omega
  rw [List.getElem?_map,List.getElem?_map,List.getElem?_range hk]
  by_cases e:r*V+i=k
  · rw [if_pos e,if_pos (by simp;exact bBo hr hi),hy,Option.map_some,←e,bPx hi,bPy hi]
  · rw [if_neg e,Option.map_some,Option.map_some,hw];rintro ⟨q1,q2⟩;apply e;rw [←q1,←q2];exact Nat.div_add_mod' k V
 · rw [if_neg (by intro e;exact hk (by rw [←e];exact bBo hr hi)),List.getElem?_eq_none (by simp;omega),List.getElem?_eq_none (by simp;omega)]
theorem aSt(hs:List cI)(V:Nat)(names:List Nat):ns (sG hs V names)=mat hs.length V fun r j=>aEf (hs.getD r ⟨0,0⟩) j names:=by
 unfold ns sG mat;rw [List.map_map];rfl
theorem bFm(h:cI)(j:Nat)(names:List Nat)(x:Nat):aEf h j (names++[x])=if aTq h x<aI6 j then aEf h j names ^^^ x else aEf h j names:=by
 unfold aEf;rw [List.foldl_append];rfl
theorem bCe{h:cI}{j:Nat} : ∀(names:List Nat),(∀x,x∈names→x<18446744073709551616)→aEf h j names<18446744073709551616:=by
 intro names hn;unfold aEf
 have: ∀(l:List Nat) (w:Nat),(∀x,x∈l→x<18446744073709551616)→w<18446744073709551616→l.foldl (fun w x=>if aTq h x<aI6 j then w ^^^ x else w) w<18446744073709551616:=by
  intro l
  induction l with
  |nil=>intro w _ hw;exact hw
  |cons a l ih=>
   intro w hl hw;rw [List.foldl_cons];refine ih _ (fun x hx=>hl x (by simp [hx])) ?_;split
   · exact Nat.xor_lt_two_pow (n:=64) hw (hl a (by simp))
   · exact hw
 exact this names 0 hn (by decide)
section
variable {hs:List cI}{R V:Nat}(hR1:1≤R)(hR:R≤8)(hV1:1≤V)(hV:V≤61)(hl:hs.length=R)(hh: ∀h,h∈hs→HOK h){x:Nat}(hx:x<18446744073709551616)
def tog(hs:List cI)(x:Nat)(W:Nat→Nat→Nat)(r i:Nat):Nat→Nat→Nat:=fun r' j=>if (r'<r∨r'=r∧j<i)∧aTq (hs.getD r' ⟨0,0⟩) x<aI6 j then W r' j ^^^ x else W r' j
include hR hV hx
theorem aWd{W:Nat→Nat→Nat}(hW: ∀r j,W r j<18446744073709551616){r d:Nat}(hr:r<R)(hd:d≤V)(hdv: ∀j,j<V→(j<d↔aTq (hs.getD r ⟨0,0⟩) x<aI6 j))(wds:List Int)(z:aT)(rec1:Int→aT→aT→List Int→List cI→Int→Int→Option (aT×Int)): ∀(m i:Nat),d<i+m→i≤d→
 rJ rec1 m (x:Int) ⟨(R:Int),(V:Int),wds⟩ z (mat R V (tog hs x W r i)) (r:Int) hs (hs.length:Int) (r:Int) (d:Int) (i:Int)=rec1 (x:Int) ⟨(R:Int),(V:Int),wds⟩ z (mat R V (tog hs x W r d)) hs (hs.length:Int) ((r+1:Nat):Int)
 |0,i,_,_=>by omega
 |m+1,i,hm,hi=>by
  show aCa rec1 (rJ rec1 m) _ _ _ _ _ _ _ _ _ _=_;unfold aCa
  by_cases c:i<d
  ·
   have hlt:r*V+i<R*V:=bBo hr om;have hRV:R*V≤8*61:=Nat.mul_le_mul hR hV;have e1:IntKind.i64.wrap ((r:Int)*(V:Int))=((r*V:Nat):Int):=by rw [←Int.natCast_mul];exact wr0 om om
   have e2:IntKind.i64.wrap (((r*V:Nat):Int)+(i:Int))=((r*V+i:Nat):Int):=by rw [←Int.natCast_add];exact wr0 om om
   rw [bt (oJ c),e1,e2,bU9 hr om rfl,aA,aA];have e3:tog hs x W r i r i=W r i:=by unfold tog;rw [if_neg om]
   have e4:tog hs x W r (i+1) r i=W r i ^^^ x:=by unfold tog;rw [if_pos ⟨by omega,(hdv i om).1 c⟩]
   rw [e3,bYx _ _ (hW r i) hx,bUa (W':=tog hs x W r (i+1)) hr (show i<V by omega) rfl (by rw [e4]) (fun r' i' hne=>by
    unfold tog;have:(r'<r∨r'=r∧i'<i+1)↔(r'<r∨r'=r∧i'<i):=by omega
    simp only [this]),aA,wr1 i om]
   exact aWd hW hr hd hdv wds z rec1 m (i+1) om om
  · rw [bf (oI c),show i=d by omega,wr1 r om]
include hl hh
theorem aWc{W:Nat→Nat→Nat}(hW: ∀r j,W r j<18446744073709551616)(wds:List Int)(z:aT): ∀(m r:Nat),R<r+m→r≤R→
 lV m (x:Int) ⟨(R:Int),(V:Int),wds⟩ z (mat R V (tog hs x W r 0)) hs (hs.length:Int) (r:Int)=some (⟨(R:Int),(V:Int),mat R V (tog hs x W R 0)⟩,0)
 |0,r,_,_=>by omega
 |m+1,r,hm,hr=>by
  have hFU:=FU;show aC9 (lV m) _ _ _ _ _ _ _=_;unfold aC9
  by_cases c:r<R
  ·
   have hm2:hs[r]'(by omega)∈hs:=List.getElem_mem _;have eD:hs.getD r ⟨0,0⟩=hs[r]'(by omega):=by simp [List.getD,List.getElem?_eq_getElem (show r<hs.length by omega)]
   obtain ⟨d,d1,d2,d3⟩:=aXq (hh _ hm2) x V hV;rw [bt (by rw [hl];exact oJ c),cN (show r<hs.length by omega),aA];simp only [];rw [d1,aA];have:=aWd (hs:=hs) hR hV hx hW c d2 (by rw [eD];exact d3) wds z (lV m) aY 0 om (Nat.zero_le _);rw [show (0:Int)=((0:Nat):Int) from rfl,this]
   have e:mat R V (tog hs x W r d)=mat R V (tog hs x W (r+1) 0):=aXw fun r' j h1 h2=>by
    unfold tog
    by_cases q:r'=r
    ·
     subst q;rw [eD]
     by_cases q2:aTq (hs[r']'(by omega)) x<aI6 j
     · rw [if_pos ⟨.inr ⟨rfl,(d3 j h2).2 q2⟩,q2⟩,if_pos ⟨.inl om,q2⟩]
     · rw [if_neg (fun k=>q2 k.2),if_neg (fun k=>q2 k.2)]
    ·
     have:(r'<r∨r'=r∧j<d)↔(r'<r+1∨r'=r+1∧j<0):=by omega
     simp only [this]
   rw [e];exact aWc hW wds z m (r+1) om c
  · rw [bf (by rw [hl];exact oI c),show r=R by omega]
include hR1 hV1
theorem bLm{names:List Nat}(hn: ∀y,y∈names→y<18446744073709551616):tR ⟨(R:Int),(V:Int),ns (sG hs V names)⟩ hs (x:Int)=some (⟨(R:Int),(V:Int),ns (sG hs V (names++[x]))⟩,0):=by
 have hFU:=FU;have hRV:R*V≤8*61:=Nat.mul_le_mul hR hV;unfold tR rV oK mB;rw [aSt,hl];have e1:IntKind.i64.wrap ((R:Int)*(V:Int))=((R*V:Nat):Int):=by rw [←Int.natCast_mul];exact wr0 om om
 simp only [];rw [aA,aA,aXx,e1]
 have e2:((((decide (1≤(R:Int))&&decide ((R:Int)≤8))&&decide (1≤(V:Int)))&&decide ((V:Int)≤61))&&(((R*V:Nat):Int)==((R*V:Nat):Int)))=true:=by
  simp;omega
 rw [e2,bf (by simp),gG (by rw [aXx];simp;omega),aA,List.nil_append,aSt,hl];have e0:mat R V (fun r j=>aEf (hs.getD r ⟨0,0⟩) j names)=mat R V (tog hs x (fun r j=>aEf (hs.getD r ⟨0,0⟩) j names) 0 0):=aXw fun r j _ _=>by unfold tog;rw [if_neg om]
 have e3:mat R V (fun r j=>aEf (hs.getD r ⟨0,0⟩) j (names++[x]))=mat R V (tog hs x (fun r j=>aEf (hs.getD r ⟨0,0⟩) j names) R 0):=aXw fun r j h1 h2=>by
  rw [bFm];unfold tog
  by_cases q:aTq (hs.getD r ⟨0,0⟩) x<aI6 j
  · rw [if_pos q,if_pos ⟨.inl h1,q⟩]
  · rw [if_neg q,if_neg (fun k=>q k.2)]
 have:=aWc (hs:=hs) (R:=R) (V:=V) hR hV hl hh hx (W:=fun r j=>aEf (hs.getD r ⟨0,0⟩) j names) (fun r j=>bCe names hn) (mat R V fun r j=>aEf (hs.getD r ⟨0,0⟩) j names) (aT.mk 0 0 []) aY 0 om (Nat.zero_le _);rw [hl] at this;rw [e3,←this,←e0];rfl
end
theorem bG2{hs:List cI}{R V:Nat}(hR1:1≤R)(hR:R≤8)(hV1:1≤V)(hV:V≤61)(hl:hs.length=R)(hh: ∀h,h∈hs→HOK h){names:List Nat}(hn: ∀y,y∈names→y<18446744073709551616)(hnl:names.length<1000000000)(z:aT): ∀(m i:Nat),names.length<i+m→i≤names.length→
 tJ m z ⟨(R:Int),(V:Int),ns (sG hs V (names.take i))⟩ hs (ns names) ((ns names).length:Int) (i:Int)=some ⟨(R:Int),(V:Int),ns (sG hs V names)⟩
 |0,i,_,_=>by omega
 |m+1,i,hm,hi=>by
  show aDy (tJ m) _ _ _ _ _ _=_;unfold aDy;have hlen:(ns names).length=names.length:=by simp [ns]
  by_cases c:i<names.length
  ·
   have e:idx (ns names) (i:Int)=some ((names[i]:Nat):Int):=by rw [mD];unfold ns;rw [List.getElem?_map,List.getElem?_eq_getElem c];rfl
   rw [bt (by rw [hlen];exact oJ c),e,aA,bLm hR1 hR hV1 hV hl hh (hn _ (List.getElem_mem c)) (fun y hy=>hn y (List.mem_of_mem_take hy)),aA];simp only [];rw [wr1 i om,←vC c];exact bG2 hR1 hR hV1 hV hl hh hn hnl z m (i+1) om c
  · rw [bf (by rw [hlen];exact oI c),List.take_of_length_le om]
theorem bFn(hs:List cI)(V:Nat):ns (sG hs V [])=List.replicate (hs.length*V) 0:=by
 rw [aSt];unfold mat;apply List.ext_getElem?;intro k
 by_cases c:k<hs.length*V
 · rw [List.getElem?_map,List.getElem?_range c,List.getElem?_replicate,if_pos c];rfl
 · rw [List.getElem?_eq_none (by simp;omega),List.getElem?_eq_none (by simp;omega)]
section
variable {g:aJ}(h:GOK g)(hw: ∀x,x∈g.Hashes→HOK x)
theorem bS7{g:aJ}{t:Int}{x:cI}(hx:x∈hsh g t):x∈g.Hashes:=List.mem_of_mem_drop (List.mem_of_mem_take hx)
include h hw
theorem aT3{t:Int}(h0:0≤t)(ht:t<g.Config.L){c:List aE}(hc: ∀e,e∈c→EB e)(hcl:c.length<1000000000):
 wC g t c=some ⟨g.Config.R,(lvl g.Config.N:Nat),ns (sG (hsh g t) (lvl g.Config.N) (c.map nmE))⟩:=by
 have hFU:=FU;obtain ⟨l1,l3,l4⟩:=aSi h.n1 h.n2;have r1:=h.r1;have r2:=h.r2;have hlen:=bG8 h h0 ht;obtain ⟨R,hR⟩:=Int.eq_ofNat_of_zero_le (a:=g.Config.R) om;rw [hR,Int.toNat_natCast] at hlen;unfold wC aF3 oK;rw [l1,aA,hR];generalize lvl g.Config.N=V at*;have hRV:R*V≤8*22:=Nat.mul_le_mul om l4;have e1:IntKind.i64.wrap ((R:Int)*(V:Int))=((R*V:Nat):Int):=by rw [←Int.natCast_mul];exact wr0 om om
 rw [aA,bf (by simp;omega),e1,aH9 (k:=R*V) rfl (Int.le_refl _) om,aA,aA];simp only [];rw [aP1 h h0 ht,aA,aZz hcl hc,aA];have e2:=bFn (hsh g t) V;rw [hlen] at e2
 have:=bG2 (hs:=hsh g t) (R:=R) (V:=V) om om om om hlen (fun x hx=>hw x (bS7 hx)) (names:=c.map nmE) (fun y hy=>by
  obtain ⟨e,he,rfl⟩:=List.mem_map.1 hy;have:=bP6 (hc e he);omega) (by simpa using hcl) (aT.mk 0 0 []) aY 0 (by simp;omega) (Nat.zero_le _)
 rw [List.take_zero,e2] at this;exact this
end
theorem aQ3(w:Nat)(hw:w<18446744073709551616):aAq (w:Int)=some (if w%16777216≤w/16777216 then (0,0,false) else (((w/16777216:Nat):Int),((w%16777216:Nat):Int),true)):=by
 unfold aAq;have e1:Int.tmod (w:Int) 16777216=((w%16777216:Nat):Int):=by rw [Int.tmod_eq_emod_of_nonneg om];omega
 have e2:Int.tdiv (w:Int) 16777216=((w/16777216:Nat):Int):=by rw [Int.tdiv_eq_ediv_of_nonneg om];omega
 rw [e1,e2,wuN om]
 by_cases c:w%16777216≤w/16777216
 · rw [bt (by simp;omega),if_pos c]
 · rw [bf (by simp;omega),if_neg c,wr0 om om,wr0 om om]
def okW(w:Nat):Bool:=decide (w/16777216<w%16777216)
theorem bEc{l:List Nat}{i:Nat}(c:i<l.length):idx (ns l) (i:Int)=some ((l[i]:Nat):Int):=by
 rw [mD];unfold ns;rw [List.getElem?_map,List.getElem?_eq_getElem c];rfl
theorem aFk(l:List Nat):(ns l).length=l.length:=by simp [ns]
theorem bDv{p:Nat→Bool}{l:List Nat}{i:Nat}(c:i<l.length):(l.drop i).filter p=(if p l[i] then [l[i]] else [])++(l.drop (i+1)).filter p:=by
 rw [dZ c,List.filter_cons];split<;>rfl
theorem aL1{w:List Nat}(hw: ∀y,y∈w→y<18446744073709551616)(hl:w.length<1000000000): ∀(m i:Nat) (out:List Int),w.length<i+m→i≤w.length→out.length≤i→tQ m out (ns w) ((ns w).length:Int) (i:Int)=some (out++ns ((w.drop i).filter okW))
 |0,i,_,_,_,_=>by omega
 |m+1,i,out,hm,hi,ho=>by
  show aE2 (tQ m) _ _ _ _=_;unfold aE2 aE3;rw [aFk]
  by_cases c:i<w.length
  ·
   rw [bt (oJ c),bEc c,aA,aQ3 _ (hw _ (List.getElem_mem c)),aA,wr1 i om,bDv c];have ih:=fun out ho=>aL1 hw hl m (i+1) out om c ho;rw [aFk] at ih
   by_cases q:w[i]%16777216≤w[i]/16777216
   ·
    have e:okW w[i]=false:=by unfold okW;simp;omega
    rw [if_pos q,e];simp only [];rw [bf rfl,ih out om];rfl
   ·
    have e:okW w[i]=true:=by unfold okW;simp;omega
    rw [if_neg q,e];simp only [];rw [bt rfl,gG (by simp;omega),aA,ih _ (by simp;omega)];simp only [if_true,ns,List.map_append,List.map_cons,List.map_nil,List.append_assoc,List.cons_append,List.nil_append]
  · rw [bf (oI c),List.drop_eq_nil_of_le om];simp [ns]
def fnd(P:aE→Bool):List aE→Nat→Option Nat
  |[],_=>none
  |a::l,i=>if P a then some i else fnd P l (i+1)
def kN(u v:Int)(e:aE):Bool:=((e.U==u)&&(e.V==v))||((e.U==v)&&(e.V==u))
theorem aSo{u v:Int}{l:List aE}(hl:l.length<1000000000): ∀(m i:Nat),l.length<i+m→i≤l.length→aBh m u v l (l.length:Int) (i:Int)=some (match fnd (kN u v) (l.drop i) i with|some k=>((k:Nat),true)|none=>(0,false))
 |0,i,_,_=>by omega
 |m+1,i,hm,hi=>by
  show aJ3 (aBh m) _ _ _ _ _=_;unfold aJ3
  by_cases c:i<l.length
  ·
   rw [bt (oJ c),cN c,aA,wr1 i om,dZ c];show (bif kN u v l[i] then some ((i:Int),true) else _)=_;unfold fnd
   cases q:kN u v l[i] with
   |true=>rfl
   |false=>
    rw [bf rfl,aSo hl m (i+1) om c];rfl
  · rw [bf (oI c),List.drop_eq_nil_of_le om];rfl
theorem aBi{u v:Int}{l:List aE}(hl:l.length<1000000000):qT l u v=some (match fnd (kN u v) l 0 with|some k=>((k:Nat),true)|none=>(0,false)):=by
 have hFU:=FU;unfold qT;exact aSo hl aY 0 om (Nat.zero_le _)
theorem aG2{P:aE→Bool} : ∀ {l:List aE} {i k:Nat},fnd P l i=some k→i≤k∧ ∃e,l[k-i]? =some e∧P e=true∧l.find? P=some e
 |[],i,k,h=>by cases h
 |a::l,i,k,h=>by
  unfold fnd at h
  cases q:P a with
  |true=>
   rw [if_pos q] at h;cases h;exact ⟨Nat.le_refl _,a,by simp,q,by rw [List.find?_cons,q]⟩
  |false=>
   rw [if_neg (by simp [q])] at h;obtain ⟨h1,e,h2,h3,h4⟩:=aG2 h;refine ⟨by omega,e,?_,h3,by rw [List.find?_cons,q];exact h4⟩;rw [show k-i=(k-(i+1))+1 by omega,List.getElem?_cons_succ];exact h2
theorem aMw{P:aE→Bool} : ∀ {l:List aE} {i:Nat},fnd P l i=none→l.find? P=none
 |[],i,h=>rfl
 |a::l,i,h=>by
  unfold fnd at h
  cases q:P a with
  |true=>rw [if_pos q] at h;cases h
  |false=>
   rw [if_neg (by simp [q])] at h;rw [List.find?_cons,q];exact aMw h
theorem bIe{P Q:aE→Bool}{l:List aE}(h: ∀e,e∈l→P e=Q e):l.find? P=l.find? Q:=by
 induction l with
 |nil=>rfl
 |cons a l ih=>rw [List.find?_cons,List.find?_cons,h a (by simp),ih fun e he=>h e (by simp [he])]
theorem aVo{e:aE}(h:EB e)(w:Nat):kN ((w/16777216:Nat):Int) ((w%16777216:Nat):Int) e=true∧okW w=true↔nmE e=w:=by
 have h0:=aSr h;obtain ⟨h1,h2,h3⟩:=h;unfold kN okW;simp only [Bool.or_eq_true,Bool.and_eq_true,beq_iff_eq,decide_eq_true_eq];omega
def bY0(o:Option aE):aE×Bool:=match o with|some e=>(e,true)|none=>(⟨0,0,0⟩,false)
theorem bBq{c:List aE}(hc: ∀e,e∈c→EB e)(hcl:c.length<1000000000){w:List Nat}(hw: ∀y,y∈w→y<18446744073709551616∧okW y=true)(hl:w.length<1000000000): ∀(m i:Nat),w.length<i+m→i≤w.length→
 rF m ⟨0,0,0⟩ c (ns w) ((ns w).length:Int) (i:Int)=some (bY0 ((w.drop i).findSome? fun w=>c.find? fun e=>nmE e==w))
 |0,i,_,_=>by omega
 |m+1,i,hm,hi=>by
  show aC5 (rF m) _ _ _ _ _=_;unfold aC5 aC6;rw [aFk]
  by_cases q:i<w.length
  ·
   obtain ⟨w1,w2⟩:=hw _ (List.getElem_mem q);have ih:=bBq hc hcl hw hl m (i+1) om q;rw [aFk] at ih
   have e:(c.find? fun e=>nmE e==w[i])=c.find? (kN ((w[i]/16777216:Nat):Int) ((w[i]%16777216:Nat):Int)):=bIe fun e he=>by
    have:=aVo (hc e he) w[i];rw [Bool.eq_iff_iff,beq_iff_eq,←this];exact ⟨fun k=>k.1,fun k=>⟨k,w2⟩⟩
   rw [bt (oJ q),bEc q,aA,aQ3 _ w1,aA,wr1 i om,ih,dZ q,List.findSome?_cons,e];have hne: ¬w[i]%16777216≤w[i]/16777216:=by unfold okW at w2;simp at w2;omega
   rw [if_neg hne];simp only [];rw [bf (c:= !true) rfl,aBi hcl,aA]
   cases hf:fnd (kN ((w[i]/16777216:Nat):Int) ((w[i]%16777216:Nat):Int)) c 0 with
   |none=>
    simp only [];rw [bf rfl,aMw hf]
   |some k=>
    obtain ⟨_,x,h1,h2,h3⟩:=aG2 hf;simp only [];rw [bt rfl,mD,show k=k-0 from rfl,h1,aA,h3];rfl
  · rw [bf (oI q),List.drop_eq_nil_of_le om];rfl
theorem aBz{c:List aE}(hc: ∀e,e∈c→EB e): ∀w:List Nat,((w.filter okW).findSome? fun w=>c.find? fun e=>nmE e==w)=w.findSome? fun w=>c.find? fun e=>nmE e==w
 |[]=>rfl
 |a::w=>by
  rw [List.filter_cons,List.findSome?_cons]
  cases q:okW a with
  |true=>rw [if_pos rfl,List.findSome?_cons,aBz hc w]
  |false=>
   rw [if_neg (by simp),aBz hc w]
   have:(c.find? fun e=>nmE e==a)=none:=by
    rw [List.find?_eq_none];intro e he k;have:=(aVo (hc e he) a).2 (by simpa using k);rw [q] at this;cases this.2
   rw [this]
theorem aWe{hs:List cI}{V:Nat}{names:List Nat}(hn: ∀x,x∈names→x<18446744073709551616): ∀y,y∈sG hs V names→y<18446744073709551616:=fun y hy=>by
 unfold sG at hy;obtain ⟨k,_,rfl⟩:=List.mem_map.1 hy;exact bCe names hn
theorem aTt(hs:List cI)(V:Nat)(names:List Nat):(sG hs V names).length=hs.length*V:=by simp [sG]
theorem aT6{R V:Nat}(hR1:1≤R)(hR:R≤8)(hV1:1≤V)(hV:V≤61){w:List Nat}(hw: ∀y,y∈w→y<18446744073709551616)(hl:w.length=R*V):wE ⟨(R:Int),(V:Int),ns w⟩=some (ns (w.filter okW)):=by
 have hFU:=FU;have hRV:R*V≤8*61:=Nat.mul_le_mul hR hV;unfold wE rV oK;simp only [];have e1:IntKind.i64.wrap ((R:Int)*(V:Int))=((R*V:Nat):Int):=by rw [←Int.natCast_mul];exact wr0 om om
 rw [aA,aA,aFk,e1,hl]
 have e2:((((decide (1≤(R:Int))&&decide ((R:Int)≤8))&&decide (1≤(V:Int)))&&decide ((V:Int)≤61))&&(((R*V:Nat):Int)==((R*V:Nat):Int)))=true:=by
  simp;omega
 rw [e2,bf (c:= !true) rfl];have:=aL1 hw om aY 0 [] om (Nat.zero_le _) (by simp);rw [aFk,hl] at this;exact this
section
variable {g:aJ}(hE:g.Edges.length<1000000000)(hH:g.Hashes.length<1000000000)(hw: ∀x,x∈g.Hashes→HOK x)
theorem aWz{g:aJ}(h:GOK g){p:Int→Int}{v:Int} : ∀e,e∈aLi p v g.Edges→EB e:=fun e he=>h.eb (bN1 he)
theorem aMr{g:aJ}(h:GOK g){p:Int→Int}{v:Int} : ∀x,x∈(aLi p v g.Edges).map nmE→x<18446744073709551616:=fun x hx=>by
 obtain ⟨e,he,rfl⟩:=List.mem_map.1 hx;have:=bP6 (aWz h e he);omega
def wds(g:aJ)(t v:Int):List Nat:=sG (hsh g t) (lvl g.Config.N) ((aLi (pf g t) v g.Edges).map nmE)
include hE hH hw
theorem aR2(t v:Int):tM g t v=some (bY0 (if grB g=true∧0≤t∧t<g.Config.L∧0≤v∧v<g.Config.N then srch g t v else none)):=by
 have hFU:=FU;unfold tM;rw [aXb hE hH,aA]
 by_cases c:grB g=true∧0≤t∧t<g.Config.L∧0≤v∧v<g.Config.N
 ·
  obtain ⟨hb,h0,ht,v0,vn⟩:=c;have h:=gok hb;have r1:=h.r1;have r2:=h.r2;obtain ⟨_,l3,l4⟩:=aSi h.n1 h.n2;have hcl:=bN0 (pf g t) v g.Edges;have hlen:=bG8 h h0 ht;rw [bf (by simp;exact ⟨hb,h0,ht,v0,vn⟩),aT2 hE h om v0 vn,aA,aT3 h hw h0 ht (aWz h) om,aA,if_pos ⟨hb,h0,ht,v0,vn⟩];obtain ⟨R,hR⟩:=Int.eq_ofNat_of_zero_le (a:=g.Config.R) om;rw [hR,Int.toNat_natCast] at hlen;rw [hR,aT6 om om om om (aWe (aMr h)) (by rw [aTt,hlen]),aA];have hRV:R*lvl g.Config.N≤8*22:=Nat.mul_le_mul om l4
  have hwl:((sG (hsh g t) (lvl g.Config.N) ((aLi (pf g t) v g.Edges).map nmE)).filter okW).length≤176:=by
   refine Nat.le_trans (List.length_filter_le _ _) ?_;rw [aTt,hlen];omega
  have:=bBq (aWz h (p:=pf g t) (v:=v)) om (w:=(sG (hsh g t) (lvl g.Config.N) ((aLi (pf g t) v g.Edges).map nmE)).filter okW) (fun y hy=>by
   rw [List.mem_filter] at hy;exact ⟨aWe (aMr h) y hy.1,hy.2⟩) om aY 0 om (Nat.zero_le _)
  rw [show ((0:Nat):Int)=(0:Int) from rfl,List.drop_zero,aBz (aWz h)] at this;rw [this];rfl
 · rw [decide_eq_false c,bt (c:= !false) rfl,if_neg c];rfl
end
end Go.Proofs.YtkdohhmacfoolaaGreatDoor
