/- Facts. No condition. -/
import Derived.Test.YtkdohhmacfoolaaGreatDoorPgGI4
import Derived.ProofKit
import Derived.OpenShut
import Derived.ShutString
import Derived.ChangeOld
import Derived.Below
import Derived.Carry
set_option linter.unusedVariables false
set_option linter.unusedSimpArgs false
namespace Go.Proofs.YtkdohhmacfoolaaGreatDoor
open Go.Proofs.Tryz Go Go.RowKit Go.Lib Go.AM
def aUl:List (List ByteArray)→aG→List UInt8→Option (List UInt8)
  |[],_,out=>some out
  |l::ls,s,out=>bif l.isEmpty then aUl ls s out else (bP s l).bind fun x=>bif decide (out.length+x.2.size<1000000) then aUl ls x.1 (out++x.2.data.toList++[10]) else none
def aEy(a e:Int):Option ByteArray:=(bY (GA.i 36 .i64 e)).bind fun t=>bif decide (0≤a)&&(decide (a<100)&&decide (t.size≤1000)) then some (t++⟨#[32,97,116,32]⟩++⟨(Lib.decDigits a.toNat).toArray⟩++⟨#[10]⟩) else none
def yL(text:ByteArray)(words:List Int):Option ByteArray:=
  (aAp text).bind fun x=>bif x.2.2 !=0 then aEy x.2.1 x.2.2 else bif decide (x.1.length≤1000000) then (aUl x.1 ⟨⟨⟨⟨0,0,0⟩,[],[]⟩,[]⟩,⟨words,0⟩,false⟩ []).map fun out=>⟨out.toArray⟩ else none
def cJl(s:aG):SV:=⟨s.State.Graph.Config.N,s.State.Graph.Config.L,s.State.Graph.Config.R,s.State.Graph.Hashes.flatMap cH,s.State.Graph.Hashes.length,s.State.Graph.Edges.flatMap aV,s.State.Graph.Edges.length,s.State.Slots.flatMap aW,s.State.Slots.length,s.Words.List.flatMap (ci .u64),s.Words.List.length,s.Words.At,s.On⟩
theorem bBn: ∀(ls:List (List ByteArray)) (s:aG) (out r:List UInt8),out.length≤1000000→aUl ls s out=some r→
 ∃(S:Nat→aG) (outs:Nat→List UInt8) (told:Nat→ByteArray),S 0=s∧outs 0=out∧outs ls.length=r∧(∀k,k≤ls.length→(outs k).length≤1000000)∧
  ∀(k:Nat) (h:k<ls.length),(ls[k]=[]∧S (k+1)=S k∧outs (k+1)=outs k)∨(ls[k]≠[]∧outs (k+1)=outs k++(told k).data.toList++[10]∧bP (S k) ls[k]=some (S (k+1),told k))
 |[],s,out,r,ho,h=>by
  cases h;exact ⟨fun _=>s,fun _=>out,fun _=> .empty,rfl,rfl,rfl,fun _ _=>ho,fun k hk=>by simp at hk⟩
 |l::ls,s,out,r,ho,h=>by
  have go: ∀(s':aG) (out':List UInt8) (t:ByteArray),out'.length≤1000000→aUl ls s' out'=some r→((l=[]∧s'=s∧out'=out)∨(l≠[]∧out'=out++t.data.toList++[10]∧bP s l=some (s',t)))→
   ∃(S:Nat→aG) (outs:Nat→List UInt8) (told:Nat→ByteArray),S 0=s∧outs 0=out∧outs (l::ls).length=r∧(∀k,k≤(l::ls).length→(outs k).length≤1000000)∧
    ∀(k:Nat) (h:k<(l::ls).length),((l::ls)[k]=[]∧S (k+1)=S k∧outs (k+1)=outs k)∨((l::ls)[k]≠[]∧outs (k+1)=outs k++(told k).data.toList++[10]∧bP (S k) (l::ls)[k]=some (S (k+1),told k)):=by
   intro s' out' t ho' hr hc;obtain ⟨S,outs,told,e1,e2,e3,e4,e5⟩:=bBn ls s' out' r ho' hr;refine ⟨fun k=>match k with|0=>s|k+1=>S k,fun k=>match k with|0=>out|k+1=>outs k,fun k=>match k with|0=>t|k+1=>told k,rfl,rfl,e3,fun k hk=>?_,fun k hk=>?_⟩
   ·
    cases k with
    |zero=>exact ho
    |succ k=>exact e4 k (by simpa using hk)
   ·
    cases k with
    |zero=>
     show (l=[]∧S 0=s∧outs 0=out)∨(l≠[]∧outs 0=out++t.data.toList++[10]∧bP s l=some (S 0,t))
     rw [e1,e2];exact hc
    |succ k=>exact e5 k (by simpa using hk)
  unfold aUl at h
  cases l with
  |nil=>exact go s out .empty ho h (.inl ⟨rfl,rfl,rfl⟩)
  |cons x xs=>
   replace h:((bP s (x::xs)).bind fun y=>bif decide (out.length+y.2.size<1000000) then aUl ls y.1 (out++y.2.data.toList++[10]) else none)=some r:=h
   cases hl:bP s (x::xs) with
   |none=>rw [hl] at h;cases h
   |some y=>
    rw [hl] at h;replace h:(bif decide (out.length+y.2.size<1000000) then aUl ls y.1 (out++y.2.data.toList++[10]) else none)=some r:=h
    by_cases c:out.length+y.2.size<1000000
    · rw [decide_eq_true c] at h;have hz:y.2.size=y.2.data.toList.length:=rfl;exact go y.1 _ y.2 (by simp only [List.length_append,List.length_cons,List.length_nil];omega) h (.inr ⟨by simp,rfl,hl⟩)
    · rw [decide_eq_false c] at h;cases h
theorem bRw(n:Nat)(h:n<100):(Lib.decDigits n).length≤1000:=by
 have: ∀n,n<100→(Lib.decDigits n).length≤1000:=by decide+kernel
 exact this n h
theorem bPu{text:ByteArray}{words:List Int}{lines:List (List ByteArray)}{a e:Int}(hl:aAp text=some (lines,a,e))(he:e≠0){r:ByteArray}(hm:aEy a e=some r):cE prog 32 [.v (.string text),.sl (words.flatMap (ci .u64)) words.length false] (.v (.string r)):=by
 unfold aEy at hm
 cases ht:bY (GA.i 36 .i64 e) with
 |none=>rw [ht] at hm;cases hm
 |some told=>
  rw [ht] at hm;replace hm:(bif decide (0≤a)&&(decide (a<100)&&decide (told.size≤1000)) then some (told++(⟨#[32,97,116,32]⟩:ByteArray)++⟨(Lib.decDigits a.toNat).toArray⟩++⟨#[10]⟩) else none)=some r:=hm
  cases hc:(decide (0≤a)&&(decide (a<100)&&decide (told.size≤1000))) with
  |false=>rw [hc] at hm;cases hm
  |true=>
   rw [hc] at hm;cases hm;simp only [Bool.and_eq_true,decide_eq_true_eq] at hc;obtain ⟨h0,h1,h2⟩:=hc;obtain ⟨n,rfl⟩:=Int.eq_ofNat_of_zero_le h0;intro w X vs hX hv;obtain ⟨hsz,hv⟩:=hv;have q0:=(hv 0 _ rfl).v_inv;obtain ⟨t,W,rfl⟩:=bRg hsz;simp at q0;subst q0;refine (bUn he om h2 (bRw n om) (aLo hl) (fun w htb=>?_) hX W).mono ?_
   ·
    refine (aCw ht w (fun _ _=>False) #[.iface 36 (.int .i64 e)] ⟨fun _ _ h=>h.elim,htb⟩ ⟨rfl,fun k x hk=>?_⟩).mono ?_
    ·
     match k,hk with
     |0,hk=>simp at hk;subst hk;exact .ifc _ _ _ (.v _)
     |k+1,hk=>simp at hk
    · rintro e w' ⟨v,rfl,hv,hb⟩;exact ⟨by rw [hv.v_inv],hb⟩
   · rintro e w' ⟨rfl,hb⟩;exact ⟨_,rfl,.v _,hb⟩
theorem aEz{text:ByteArray}{words:List Int}{r:ByteArray}(hm:yL text words=some r):cE prog 32 [.v (.string text),.sl (words.flatMap (ci .u64)) words.length false] (.v (.string r)):=by
 unfold yL at hm
 cases hl:aAp text with
 |none=>rw [hl] at hm;cases hm
 |some x=>
  rw [hl] at hm;obtain ⟨lines,ahead,err⟩:=x;replace hm:(bif err !=0 then aEy ahead err else bif decide (lines.length≤1000000) then (aUl lines ⟨⟨⟨⟨0,0,0⟩,[],[]⟩,[]⟩,⟨words,0⟩,false⟩ []).map fun out=>(⟨out.toArray⟩:ByteArray) else none)=some r:=hm
  by_cases c0:err=0
  case neg=>
   rw [show (err !=0)=true from bne_iff_ne.2 c0] at hm;exact bPu hl c0 hm
  subst c0
  by_cases hn:lines.length≤1000000
  ·
   rw [show ((0:Int) !=0)=false from rfl,decide_eq_true hn] at hm;replace hm:(aUl lines ⟨⟨⟨⟨0,0,0⟩,[],[]⟩,[]⟩,⟨words,0⟩,false⟩ []).map (fun out=>(⟨out.toArray⟩:ByteArray))=some r:=hm;obtain ⟨out,ho,rfl⟩:=Option.map_eq_some_iff.1 hm;obtain ⟨S,outs,told,e1,e2,rfl,e4,e5⟩:=bBn lines _ _ _ (Nat.zero_le _) ho;intro w X vs hX hv;obtain ⟨hsz,hv⟩:=hv;have h0:=(hv 0 _ rfl).v_inv;have h1:=hv 1 _ rfl;obtain ⟨t,W,rfl⟩:=bRg hsz;simp at h0 h1;subst h0;refine (bPw (S:=fun k=>cJl (S k)) (told:=told) (outs:=outs) (aLo hl) (by simp only [e1];rfl) e2 e4 (fun k hk=>?_) hn hX h1).mono ?_
   ·
    rcases e5 k hk with ⟨a,b,c⟩|⟨a,b,c⟩
    · exact .inl ⟨a,by simp only [b],c⟩
    · exact .inr ⟨a,b,nU c⟩
   · rintro e w' ⟨rfl,hb⟩;exact ⟨_,rfl,.v _,hb⟩
  · rw [show ((0:Int) !=0)=false from rfl,decide_eq_false hn] at hm;cases hm
instance:Ct prog 32 (K2 prog vs (vl (ci .u64)) vs 32 yL):=⟨fun hm=>aEz hm⟩
end Go.Proofs.YtkdohhmacfoolaaGreatDoor
set_option maxRecDepth 4000
namespace Go.AM
open Go.RowKit Go.ChangeShapes
def Xno:Nat→Nat→Prop:=fun _ _=>False
def Opn{α:Type}(P:Program)(w:World)(t:TypeId)(c:α→List AV)(WF:α→Prop):Prop:=
  ∀(H:Type) (enc:TypeId×Value→H) (fuel:Nat) (cs:List Value) (x:DataW H×List MemPlace),DataW.trod enc P w 0 (fun _=>true) true fuel t cs=some x→
    ∃y:α,WF y∧cs.length=(c y).length∧ ∀(k:Nat) (a:AV),(c y)[k]? =some a→RV w Xno jO (cs.getD k undef) a
variable {P:Program}{w:World}
theorem bUi{t:TypeId}{k:IntKind}(hu:P.underlying t=some (.int k)):Opn P w t (ci k) (fun n=>(Lit.int k n).wf=true):=by
 intro H enc fuel cs x h;obtain ⟨n,rfl,_,hw⟩:=DataW.trod_int hu h;refine ⟨n,hw,rfl,fun j a hj=>?_⟩
 cases j with
 |zero=>simp [ci] at hj;subst hj;exact .v _
 |succ j=>simp [ci] at hj
theorem bGs{t:TypeId}(hu:P.underlying t=some .string):Opn P w t kD (fun s=>s.size≤maxLen):=by
 intro H enc fuel cs x h;obtain ⟨s,rfl,_,hs⟩:=DataW.trod_string hu h;refine ⟨s,hs,rfl,fun j a hj=>?_⟩
 cases j with
 |zero=>simp [kD] at hj;subst hj;exact .v _
 |succ j=>simp [kD] at hj
theorem cells?_at{a:Addr}{n:Nat}{cs:List Value}(h:w.cells? 0 a n=some cs):cs.length=n∧ ∀i,i<n→w.cell? (a.add i)=cs[i]? :=by
 unfold World.cells? at h;rw [if_pos (Nat.zero_le _)] at h;exact ⟨by simpa using mapM_some_length h,fun i hi=>mapM_some_get h i i (by simp [hi])⟩
theorem aRy{a:Addr}{v:Value}(h:w.cell? a=some v):a=⟨a.block,a.off,none⟩:=by
 obtain ⟨b,off,m⟩:=a
 cases m with
 |none=>rfl
 |some m=>
  simp only [World.cell?] at h;split at h<;>simp at h
theorem addr_add(a:Addr)(i k:Nat):(a.add i).add k=a.add (i+k):=by
 unfold Addr.add
 by_cases hi:i=0
 · subst hi;simp
 ·
  by_cases hk:k=0
  · subst hk;simp [hi]
  · simp [hi,hk,Nat.add_assoc]
theorem aPp{α:Type}{p:Nat→α→Prop} : ∀n:Nat,(∀i,i<n→ ∃y,p i y)→ ∃l:List α,l.length=n∧ ∀i y,l[i]? =some y→p i y
 |0,_=>⟨[],rfl,fun i y h=>by simp at h⟩
 |n+1,h=>by
  obtain ⟨l,hl,hp⟩:=aPp n fun i hi=>h i om;obtain ⟨y,hy⟩:=h n om;refine ⟨l++[y],by simp [hl],fun i z hz=>?_⟩
  by_cases hi:i<l.length
  · rw [List.getElem?_append_left hi] at hz;exact hp i z hz
  ·
   rw [List.getElem?_append_right om] at hz
   have:i-l.length=0:=by
    rcases Nat.eq_zero_or_pos (i-l.length) with h1|h1
    · exact h1
    · rw [List.getElem?_eq_none (by simp;omega)] at hz;cases hz
   rw [this] at hz;simp at hz;subst hz;rw [show i=n by omega];exact hy
theorem bNm{α:Type}{c:α→List AV}{sz:Nat}(hC:CF c sz)(h0:0<sz): ∀(l:List α) (k:Nat) (a:AV),(l.flatMap c)[k]? =some a→ ∃y,l[k/sz]? =some y∧(c y)[k%sz]? =some a
 |[],k,a,h=>by simp at h
 |z::l,k,a,h=>by
  rw [List.flatMap_cons] at h
  by_cases hk:k<sz
  · rw [List.getElem?_append_left (by rw [hC.len];exact hk)] at h;exact ⟨z,by rw [Nat.div_eq_of_lt hk];rfl,by rw [Nat.mod_eq_of_lt hk];exact h⟩
  ·
   rw [List.getElem?_append_right (by rw [hC.len];omega),hC.len] at h;obtain ⟨y,h1,h2⟩:=bNm hC h0 l (k-sz) a h
   have e1:k/sz=(k-sz)/sz+1:=by
    rw [←Nat.add_div_right _ h0];congr 1;omega
   have e2:k%sz=(k-sz)%sz:=by rw [←Nat.add_mod_right (k-sz)];congr 1;omega
   exact ⟨y,by rw [e1];simpa using h1,by rw [e2];exact h2⟩
theorem aGd{α:Type}{c:α→List AV}{sz:Nat}{WF:α→Prop}{t e:TypeId}(hC:CF c sz)(h0:0<sz)(hu:P.underlying t=some (.slice e))(hs:P.cellsOf e=sz)(hE:Opn P w e c WF):
 Opn P w t (csl c) (fun l=>(∀y,y∈l→WF y)∧l.length≤maxLen):=by
 intro H enc fuel cs x h;rcases DataW.trod_slice hu h with ⟨rfl,_⟩|⟨a,len,cap,elems,rest,n,_,rfl,_,_,hl,hm,hlen,hel,hsp,_⟩
 ·
  refine ⟨[],⟨fun y hy=>by simp at hy,Nat.zero_le _⟩,rfl,fun j a hj=>?_⟩
  cases j with
  |zero=>simp [csl] at hj;subst hj;exact .slnil none false
  |succ j=>simp [csl] at hj
 ·
  subst hs
  have one: ∀i,i<len→ ∃y,WF y∧ ∀(k:Nat) (b:AV),(c y)[k]? =some b→ ∃v,w.cell? (a.add (i*P.cellsOf e+k))=some v∧RV w Xno jO v b:=by
   intro i hi;have h1:=hel i hi;have h2:i<elems.length:=by omega
   rw [List.getElem?_eq_getElem h2,Option.bind_eq_some_iff] at h1;obtain ⟨cs',h3,h4⟩:=h1;obtain ⟨y,h5,h6,h7⟩:=hE H enc n cs' _ h4;obtain ⟨h8,h9⟩:=cells?_at h3;refine ⟨y,h5,fun k b hk=>?_⟩
   have hk':k<P.cellsOf e:=by
    rw [←hC.len y];exact (List.getElem?_eq_some_iff.mp hk).1
   have h10:=h9 k hk';have h11:cs'[k]? =some cs'[k]:=List.getElem?_eq_getElem om;have e1:(a.add (i*P.cellsOf e)).add k=a.add (i*P.cellsOf e+k):=addr_add ..;rw [e1,h11] at h10;refine ⟨cs'[k],h10,?_⟩;have:=h7 k b hk
   rwa [List.getD_eq_getElem?_getD,h11] at this
  obtain ⟨l,hll,hp⟩:=aPp (p:=fun i y=>WF y∧ ∀(k:Nat) (b:AV),(c y)[k]? =some b→ ∃v,w.cell? (a.add (i*P.cellsOf e+k))=some v∧RV w Xno jO v b) len one
  have plain:0<cap→a=⟨a.block,a.off,none⟩:=by
   intro hc;rcases Nat.eq_zero_or_pos len with h1|h1
   · obtain ⟨_,hr⟩:=hsp rfl;have h2:=hr 0 om;obtain ⟨hrl,_⟩:=hsp rfl;rw [List.getElem?_eq_getElem (show 0<rest.length by omega),Option.bind_eq_some_iff] at h2;obtain ⟨cs',h3,h4⟩:=h2;obtain ⟨h5,h6⟩:=cells?_at h3;have h7:=h6 0 h0;rw [List.getElem?_eq_getElem om] at h7;have:=aRy h7;simp [Addr.add,h1] at this;obtain ⟨b,off,m⟩:=a;simp at this⊢;exact this
   ·
    obtain ⟨y,hy⟩: ∃y,l[0]? =some y:=⟨l[0]'(by omega),by simp⟩
    have hc0:0<(c y).length:=by rw [hC.len];exact h0
    obtain ⟨v,hv,_⟩:=(hp 0 y hy).2 0 (c y)[0] (by simp [hc0]);have:=aRy hv;simp [Addr.add] at this;obtain ⟨b,off,m⟩:=a;simp at this⊢;exact this
  refine ⟨l,⟨fun y hy=>?_,by omega⟩,rfl,fun j b hj=>?_⟩
  · obtain ⟨i,hi⟩:=List.getElem?_of_mem hy;exact (hp i y hi).1
  ·
   cases j with
   |succ j=>simp [csl] at hj
   |zero=>
    simp [csl] at hj;subst hj;show RV w Xno jO (.slice (some a) len cap) _;rcases Nat.eq_zero_or_pos cap with hc|hc
    ·
     have:len=0:=by omega
     subst this hc;have:l=[]:=List.eq_nil_of_length_eq_zero hll;subst this;exact .slnil _ _
    ·
     rw [plain hc]
     have ex: ∀k,∃v,∀b,(l.flatMap c)[k]? =some b→w.cell? ⟨a.block,a.off+k,none⟩=some v∧RV w Xno jO v b:=by
      intro k
      cases hk:(l.flatMap c)[k]? with
      |none=>exact ⟨undef,fun b hb=>by cases hb⟩
      |some b=>
       obtain ⟨y,h1,h2⟩:=bNm hC h0 l k b hk;obtain ⟨v,h3,h4⟩:=(hp _ y h1).2 _ b h2;have e1:k/P.cellsOf e*P.cellsOf e+k%P.cellsOf e=k:=Nat.div_add_mod' ..;rw [e1,plain hc] at h3;exact ⟨v,fun b' hb'=>by cases hb';rw [Addr.add_lit] at h3;exact ⟨h3,h4⟩⟩
     obtain ⟨cs,hcs⟩:=Classical.axiomOfChoice ex;rw [hll];refine .sl a.block a.off cap (l.flatMap c) len false cs (fun k hk=>⟨?_,fun h=>h⟩) (fun k b hb=>(hcs k b hb).2) hl (fun h=>by cases h);exact (hcs k _ (List.getElem?_eq_getElem hk)).1
section
variable {H:Type}{enc:TypeId×Value→H}{t:TypeId}{v:Value}{d:DataW H}{ps:List MemPlace}{r:Reach}{b0:Nat}
theorem bP7{dd:TypeDesc}(hu:P.underlying t=some dd)(hd:(match dd with| .int _| .bool| .string| .slice _=>true|_=>false)=true)(hv:Value.okWide P w r b0 t v):v.cells= #[v]:=by
 cases v with
 |agg cs=>cases dd<;>first|(cases hd;done)|(simp [Value.okWide,hu,Cell.okWide,Cell.ok] at hv)
 |_=>rfl
theorem bYa{α:Type}{c:α→List AV}{WF:α→Prop}{dd:TypeDesc}(hu:P.underlying t=some dd)(hd:(match dd with| .int _| .bool| .string| .slice _=>true|_=>false)=true)(hv:Value.okWide P w r b0 t v)
 (hT:DataW.Trod enc P w 0 (fun _=>true) true t v d ps) (hO:Opn P w t c WF): ∃y,WF y∧ ∀a,c y=[a]→RV w Xno jO v a:=by
 obtain ⟨fuel,hf⟩:=hT;obtain ⟨y,h1,h2,h3⟩:=hO H enc fuel _ _ hf;rw [bP7 hu hd hv] at h3;refine ⟨y,h1,fun a ha=>?_⟩;have:=h3 0 a (by rw [ha];rfl)
 simpa using this
end
end Go.AM
