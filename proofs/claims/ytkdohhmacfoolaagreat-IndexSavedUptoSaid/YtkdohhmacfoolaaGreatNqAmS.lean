/- Facts. No condition. -/
import Derived.Test.YtkdohhmacfoolaaGreatNqAmM
import Derived.Lib.SlBytesConst
set_option linter.unusedSimpArgs false
set_option linter.unusedVariables false
set_option maxRecDepth 4000
namespace Go.AM
open Go.RowKit
attribute [local semireducible] aI KN aGl aAr AIn AWp gJ
variable {P:Program}
def bIa(vs:List (Nat×Nat)):Operand→Option Nat
  | .tmp k=>vs.lookup k
  |_=>none
def bI9(vs:List (Nat×Nat))(op:Op):Option Nat:=match op with| .load _ x=>bIa vs x| .fieldAddr _ x _=>bIa vs x|_=>none
def aZ9(vs:List (Nat×Nat))(op:Op):Option Nat:=match op with| .store _ a _=>bIa vs a|_=>none
def cmV(vs:List (Nat×Nat))(ops:Array Oper)(p i:Nat):Bool:=
  aVx [] ops p i||match ops[p]?,ops[i]? with
  |some op,some oi=>op.apart ops oi&&(match bI9 vs op.op,aZ9 vs oi.op with|some a,some b=>a !=b|_,_=>false)
  |_,_=>false
def bHr(vs:List (Nat×Nat))(o:Oper):Bool:=match o.dst with|some d=>(vs.lookup d).isNone|none=>true
def IV(vs:List (Nat×Nat))(s:St):Prop:= ∀k j,vs.lookup k=some j→ ∃off,s.f k= .adr j off
theorem IV.nil{s:St} :IV [] s:=fun k j h=>by cases h
theorem IV.cons{vs:List (Nat×Nat)}{s:St}{k j off:Nat}(h:s.f k= .adr j off)(h':IV vs s):IV ((k,j)::vs) s:=fun k' j' q=>by
 rw [List.lookup_cons] at q
 by_cases c:k'=k
 · subst c;simp at q;subst q;exact ⟨off,h⟩
 ·
  have:(k'==k)=false:=by simpa using c
  rw [this] at q;exact h' k' j' q
theorem aMp{vs:List (Nat×Nat)}{x:Operand}{j:Nat}(h:bIa vs x=some j): ∃k,x= .tmp k∧vs.lookup k=some j:=by
 cases x with
 |tmp k=>exact ⟨k,rfl,h⟩
 |_=>cases h
theorem bPx{ops:Array Oper}{id:Nat}{o:Oper}{s s':St}(h:gJ P true ops id o s s'): ∃r,s'.f=rJ s.f o.dst r:=by
 obtain ⟨hd,h⟩:=h;split at h
 · subst h;exact ⟨_,rfl⟩
 ·
  unfold aHn at h;split at h
  · obtain ⟨_,_,_,r,H',_,_,_,_,_,rfl⟩:=h;exact ⟨r,rfl⟩
  · rcases h with ⟨r,_,rfl⟩|⟨r,H',_,rfl⟩|⟨r,_,_,rfl⟩<;>exact ⟨r,rfl⟩
 · exact h.elim
section
variable {vs:List (Nat×Nat)}{ops:Array Oper}
theorem IV.step(hk:(ops.all (bHr vs))=true):HI P ops (IV vs):=by
 intro C a w i id o s s' hr ho h I k j hkj;have hko:bHr vs o=true:=Array.all_eq_true_iff_forall_mem.1 hk o (Array.mem_of_getElem? ho);obtain ⟨r,h1⟩:=bPx h;obtain ⟨off,h2⟩:=I k j hkj;refine ⟨off,?_⟩;rw [h1]
 cases hd:o.dst with
 |none=>exact h2
 |some d=>
  show aG s.f d r k=_;unfold aG;split
  · rename_i q;subst q;unfold bHr at hko;rw [hd] at hko;simp only [hkj] at hko;cases hko
  · exact h2
theorem bGb{op:Op}{a:Nat}(h:bI9 vs op=some a):aIo op=true:=by
 unfold bI9 at h;split at h<;>first|rfl|cases h
theorem bLz{op:Op}{a:Nat}(h:aZ9 vs op=some a):aQ1 op=true:=by
 unfold aZ9 at h;split at h<;>first|rfl|cases h
theorem IV.comm{base:Nat} :HC P ops base (cmV vs ops) (IV vs):=by
 intro C a w p i op oi s s1 s2 hr I h1 h4 hcm hne h2 h5;unfold cmV at hcm;rw [Bool.or_eq_true] at hcm;rcases hcm with hcm|hcm
 ·
  have hn: ∀s:St,NoT [] s:=fun s k hk=>by cases hk
  unfold aVx at hcm;rw [h1,h4] at hcm;simp only [Bool.or_eq_true] at hcm;rcases hcm with hcm|hcm
  ·
   unfold aM9 at hcm;rw [h1,h4] at hcm;simp only [Bool.and_eq_true,Bool.or_eq_true,decide_eq_true_eq] at hcm;obtain ⟨hap,(⟨c1,c2⟩|⟨c1,c2⟩)|⟨c1,c2⟩⟩:=hcm
   · exact aPx hr h2 h5 hap c1 c2 om
   · exact aB0 h2 h5 hap c1 c2
   · exact aAz h2 h5 hap c1 c2
  ·
   simp only [Bool.and_eq_true,Bool.or_eq_true] at hcm;obtain ⟨hap,((⟨c1,c2⟩|⟨c1,c2⟩)|⟨c1,c2⟩)|⟨c1,c2⟩⟩:=hcm
   · exact aLj h2 h5 hap c1 c2 (hn _)
   · exact aLk h2 h5 hap c1 c2 (hn _)
   · exact aJp h2 h5 hap c1 c2
   · exact aJq h2 h5 hap c1 c2
 ·
  rw [h1,h4] at hcm;simp only [Bool.and_eq_true] at hcm;obtain ⟨hap,hc⟩:=hcm;split at hc
  ·
   rename_i x y c1 c2;have hxy:x≠y:=by simpa using hc
   obtain ⟨d1,d2,d3⟩:=Oper.apart_spec hap;obtain ⟨rp,e1,tp⟩:=bLt h2 (bGb c1);subst e1
   have hent:s2.H.ent x=s.H.ent x:=by
    have c2':=c2;unfold aZ9 at c2';split at c2'
    · rename_i t z y' ho;obtain ⟨k,rfl,hk⟩:=aMp c2';obtain ⟨off,hv⟩:=I k y hk;refine bM0 (s:=⟨s.n,rJ s.f op.dst rp,s.H⟩) h5 ho ?_;have:aval (rJ s.f op.dst rp) (.tmp k)=s.f k:=mS d1 k (List.mem_append_left _ (List.mem_filterMap.2 ⟨.tmp k,by rw [ho];simp [Op.operands],rfl⟩));show mW (aval (rJ s.f op.dst rp) (.tmp k))≠some x;rw [this,hv];intro q;cases q;exact hxy rfl
    · cases c2'
   obtain ⟨ri,H',e2,ti⟩:=aOy h5 (bLz c2);subst e2;refine ⟨_,ti s.f (fun t ht=>mS d1 t ht),?_⟩
   have:=tp (rJ s.f oi.dst ri) H' (fun t ht=>(mS d3 t ht).symm) fun z hz j hj hnd=>by
    have hJ:j=x:=by
     unfold bI9 at c1;split at c1
     · rename_i t y' ho;obtain ⟨k,rfl,hk⟩:=aMp c1;rw [ho] at hz;simp [Op.operands] at hz;subst hz;obtain ⟨off,hv⟩:=I k x hk;have e:aval s.f (.tmp k)=s.f k:=rfl;rw [e,hv] at hj;cases hj;rfl
     · rename_i t y' f ho;obtain ⟨k,rfl,hk⟩:=aMp c1;rw [ho] at hz;simp [Op.operands] at hz;subst hz;obtain ⟨off,hv⟩:=I k x hk;have e:aval s.f (.tmp k)=s.f k:=rfl;rw [e,hv] at hj;cases hj;rfl
     · cases c1
    subst hJ;exact hent
   rw [←aAh s.f op.dst oi.dst rp ri d2] at this;exact this
  · cases hc
end
theorem AWp.regV{B:Nat→Prop}(vs:List (Nat×Nat))(m:Nat){id:Nat}{l:List Oper}{Q:Exit→St→Prop}{n N N':Nat}{f:Nat→AV}{e:Nat→Ent}(hmix:P.follows .mixedOrders=true)(hok:bQw (cmV vs l.toArray) l.toArray=true)(hk:(l.toArray.all (bHr vs))=true)
 (h0:IV vs ⟨n,f,⟨e,N⟩⟩) (hN:N+m=N') (h:aI P true l.toArray N 0 l (KN Q N') ⟨n,f,⟨e,N⟩⟩):AWp P B (.region id l.toArray true) Q ⟨n,f,⟨e,N⟩⟩:=by
 subst hN;exact AWp.regionG (cmV vs l.toArray) (IV vs) m hmix hok (IV.step hk) IV.comm h0 h
end Go.AM
namespace Go.AM
open Go.RowKit
attribute [local semireducible] aI KN aGl aAr AIn AWp gJ
variable {P:Program}
structure IW(vs ds:List (Nat×Nat))(ws:List Nat)(s:St):Prop where
  v:IV vs s
  d: ∀k j,ds.lookup k=some j→(∃off,s.f k= .adr j off)∨s.f k= .any∨s.f k= .v undef
  w: ∀k,k∈ws→ ∀q,q∈vs→mW (s.f k)≠some q.2
section
variable {vs ds:List (Nat×Nat)}{ws:List Nat}{ops:Array Oper}
end
end Go.AM
namespace Go.AM
open Go Go.RowKit
attribute [local semireducible] aI KN aGl aAr AIn AWp gJ
variable {P:Program}{B:Nat→Prop}
theorem St.Le.virt{s:St}(id sz:Nat)(hf:s.H.isFresh id=true):s.Le B ⟨s.n,s.f,s.H.put id (.cells sz [] 0)⟩:=by
 intro C ac w _ hr;obtain ⟨hd,O,hs,hv,ht⟩:=hr;obtain ⟨O',h1,h2,h3⟩:=hs.virt id sz (aM.isFresh_eq hf);exact ⟨hd,O',h1,⟨hv.1,fun j=>(hv.2 j).mono h2⟩,ht.trans h2⟩
theorem St.Le.nilcell{s:St}{q k i sz sz' lk:Nat}{xs:List AV}(hq:s.H.ent q= .cells sz xs lk)(hk:xs[k]? =some (.v (.slice none 0 0)))(hi:s.H.ent i= .cells sz' [] 0):
 s.Le B ⟨s.n,s.f,s.H.put q (.cells sz (xs.set k (.own i 0 0)) lk)⟩:=by
 intro C ac w _ hr;refine hr.swap (by rw [hq];rfl) fun O hs=>?_;have h0:=hs.ent q;have hi0:=hs.ent i;rw [hq] at h0;rw [hi] at hi0
 have key: ∀(w':World) (M:Nat→Nat→Prop) (x:Value),RV w' M O x (.v (.slice none 0 0))→RV w' M O x (.own i 0 0):=fun w' M x hx=>by
  rw [hx.v_inv];rcases hi0 with ⟨h1,_⟩|⟨o,h1,_⟩
  · exact .ownvirt none i 0 h1
  · exact .ownz none i 0 o h1
 rcases h0 with ⟨h1,h2,h3⟩|⟨o,h1,h2,h3,h4,h5,c,elem,fr,h6,h7,h8,h9⟩
 · subst h2;simp at hk
 ·
  refine .inr ⟨o,h1,h2,by rw [List.length_set];exact h3,h4,by rw [List.length_set];exact h5,c,elem,fr,h6,h7,h8,fun j a hj=>?_⟩
  by_cases e:k=j
  ·
   subst e;rw [List.getElem?_set] at hj;simp only [if_true] at hj;split at hj
   · cases hj;exact key _ _ _ (h9 k _ hk)
   · cases hj
  · rw [List.getElem?_set_ne e] at hj;exact h9 j a hj
theorem aY5{n N:Nat}{f:Nat→AV}{e:Nat→Ent}(q k i sz':Nat){sz:Nat}{xs ys:List AV}(hq:e q= .cells sz xs 0)(hk:xs[k]? =some (.v (.slice none 0 0)))(hf:aM.isFresh ⟨e,N⟩ i=true)(hy:xs.set k (.own i 0 0)=ys):
 (⟨n,f,⟨e,N⟩⟩:St).Le B ⟨n,f,⟨upd (upd e i (.cells sz' [] 0)) q (.cells sz ys 0),N⟩⟩:=by
 subst hy
 have hne:q≠i:=fun h=>by
  have:=aM.isFresh_eq hf;rw [←h] at this;have hq':(⟨e,N⟩:aM).ent q= .cells sz xs 0:=hq;rw [hq'] at this;cases this
 refine St.Le.trans (St.Le.virt (s:=⟨n,f,⟨e,N⟩⟩) i sz' hf) ?_;exact St.Le.nilcell (s:=⟨n,f,⟨upd e i (.cells sz' [] 0),N⟩⟩) (i:=i) (sz':=sz') (by show upd e i _ q=_;rw [upd_ne _ _ _ _ hne];exact hq) hk (by show upd e i _ i=_;exact upd_same ..)
theorem bJ1{X:Nat→Nat→Prop}{w0 w:World}{H:aM}{O:Nat→OSt}(hs:Sim X w0 w H O){t elem:TypeId}{len id:Nat}{zs xs:List AV}{parts:Array (Nat×Value)}{az:List (Nat×AV)}(hu:P.underlying t=some (.slice elem))(h8:P.underlying elem=some (.int .u8))
 (hsz:bD P elem=some 1) (hz:zeroCells? P elem=some zs) (hf:H.isFresh id=true) (hmax:len*1≤16777216) (hl0:len≠0) (hzl:zs.length=1)
 (hlen:parts.size=az.length) (hp: ∀(k i:Nat) (a:AV),az[k]? =some (i,a)→ ∃x,parts[k]? =some (i,x)∧RV w (Mut X H O) O x a)
 (hfill:rY (fun i=>some (i*1,1)) (zeros len zs) az=some xs):
 ∃v w1 w2 O',(Instr.buildSlice t len parts).run P w= .ok v w1∧(convert t t v).run P w1= .ok v w2∧Sim X w0 w2 (H.put id (.cells 1 xs 0)) O'∧lV w (Mut X H O) O w2 (Mut X (H.put id (.cells 1 xs 0)) O') O'∧RV w2 (Mut X (H.put id (.cells 1 xs 0)) O') O' v (.own id 0 len):=by
 obtain ⟨z,hz1,hz2,hz3⟩:=rW (w:=w) (M:=Mut X H O) (O:=O) hz;obtain ⟨hzz,hzg⟩:=aQ3 (n:=len) hz2 hz3 (m:=len*1) (by rw [hzl];exact Nat.le_refl _);have h0: ¬len*1=0:=by omega
 obtain ⟨c',h1,h2,h3⟩:=aCt (place:=fun i=>some (i*1,1)) (ps:=parts.toList) (c:=(Array.range (len*1)).map (z.cells[· %z.cells.size]!)) (by simpa using hlen)
  (fun k i a hk=>by simpa using hp k i a hk) (by rw [hzz,hzl];simp) hzg hfill
 have hxl:xs.length=len*1:=by
  have: ∀ {az:List (Nat×AV)} {cells r:List AV},rY (fun i=>some (i*1,1)) cells az=some r→r.length=cells.length:=by
   intro az
   induction az with
   |nil=>intro cells r h;cases h;rfl
   |cons p az ih=>
    intro cells r h;obtain ⟨i,a⟩:=p;unfold rY at h;split at h
    ·
     split at h
     · cases h
     · rename_i hb;rw [ih h];have: ¬_:=fun h=>hb (.inr h);simp;omega
    · cases h
  rw [this hfill,hzz,hzl]
 obtain ⟨O',h4,h5,h6⟩:=hs.new id (aM.isFresh_eq hf) c' elem 1 xs (.cells c' elem (c'.size,c'.size+1)) (w':=w.alloc (.cells c' elem (c'.size,c'.size+1))) rfl rfl rfl rfl (c'.size,c'.size+1) rfl (fun i hi h=>by simp at h;omega) om h3;refine ⟨.slice (some ⟨w.heap.size,0,none⟩) len len,w.alloc (.cells c' elem),_,O',?_,Lib.run_convert_bytes_const w t elem c' len len hu h8,h4,h5,?_⟩
 · simp only [Instr.buildSlice,Sem.run_bind,run_underlying hu,Result.andThen_ok,run_sizeOf hsz];rw [if_neg (by show ¬len*1>2^24;omega),if_neg h0];simp only [Sem.run_bind,Sem.run_pure,Result.andThen_ok,oA hz1];rw [h1];simp [newRow]
 ·
  have:=RV.own (w:=w.alloc (.cells c' elem (c'.size,c'.size+1))) (M:=Mut X (H.put id (.cells 1 xs 0)) O') id 0 len len _ h6 (Nat.le_refl _) (by simp;omega)
  simpa using this
theorem AWp.regL(l:List Int){rid:Nat}{d1 d2:Tmp}{t elem ty1 ty2:TypeId}{pos1 pos2:String}{af1 af2:Array Edge}{len n N N':Nat}{f:Nat→AV}{e:Nat→Ent}{zs:List AV}{parts:Array (Nat×Operand)}{ps:List (Nat×AV)}{rest:List Oper}{Q:Exit→St→Prop}
 (hd1:decide (d1<n)=true) (hd2:decide (d2<n)=true) (hu:P.underlying t=some (.slice elem)) (h8:P.underlying elem=some (.int .u8)) (hsz:bD P elem=some 1) (hz:zeroCells? P elem=some zs) (hf:aM.isFresh ⟨e,N⟩ N=true)
 (hmax:len*1≤16777216) (hl0:len≠0) (hzl:zs.length=1) (hps:parts.toList.map (fun (i,x)=>(i,aval f x))=ps) (hfill:rY (fun i=>some (i*1,1)) (zeros len zs) ps=some (l.flatMap (ci .u8))) (hll:len=l.length) (hN:N+64=N')
 (h:aI P false (⟨some d1,.buildSlice t len parts,ty1,pos1,af1,none⟩::⟨some d2,.convert t t (.tmp d1),ty2,pos2,af2,none⟩::rest).toArray N 2 rest (KN Q N') ⟨n,aG (aG f d1 .any) d2 (.own N 0 l.length),⟨upd e N (.cells 1 (l.flatMap (ci .u8)) 0),N⟩⟩):
 AWp P B (.region rid (⟨some d1,.buildSlice t len parts,ty1,pos1,af1,none⟩::⟨some d2,.convert t t (.tmp d1),ty2,pos2,af2,none⟩::rest).toArray false) Q ⟨n,f,⟨e,N⟩⟩:=by
 subst hN hps;rw [←hll] at h;have hd1:=of_decide_eq_true hd1;have hd2:=of_decide_eq_true hd2;intro C a w hb hr;obtain ⟨hd,O,hs,hv,ht⟩:=hr;refine wp_region_lit ?_
 obtain ⟨v,w1,w2,O',r1,r2,h4,h5,h6⟩:=bJ1 (P:=P) hs (t:=t) (elem:=elem) (len:=len) (id:=N) (zs:=zs) (xs:=l.flatMap (ci .u8)) (parts:=parts.map fun (i,x)=>(i,a.eval x)) (az:=parts.toList.map fun (i,x)=>(i,aval f x)) hu h8 hsz hz hf hmax hl0 hzl (by simp) (fun k i b hk=>by
  simp only [List.getElem?_map,Option.map_eq_some_iff] at hk;obtain ⟨⟨i',x⟩,hx,he⟩:=hk;simp at he;obtain ⟨rfl,rfl⟩:=he;exact ⟨a.eval x,by simp at hx;simp [hx],hv.aval x⟩) hfill
 have dn:a.tmps.size=n:=hv.1;have ev:(a.put (some d1) v).eval (.tmp d1)=v:=by simp [Act.put,Act.eval,dn,hd1]
 have real:Real C ⟨n,aG (aG f d1 .any) d2 (.own N 0 len),⟨upd e N (.cells 1 (l.flatMap (ci .u8)) 0),N⟩⟩ ((a.put (some d1) v).put (some d2) v) w2:=by
  refine ⟨hd,O',h4,?_,ht.trans h5⟩;exact ((hv.mono h5).put (some d1) hd1 (.any v)).put (some d2) hd2 h6
 unfold wpList;rw [if_pos (by rfl)];refine .inl ?_;unfold Oper.wp;simp only [execOp];rw [qN r1];rw [Oper.upon_value];unfold wpList;rw [if_pos (by rfl)];refine .inl ?_;unfold Oper.wp;simp only [execOp];rw [ev,qN r2];rw [Oper.upon_value];exact aHs rest 2 _ _ _ _ h real fun s' a' w' hk hr'=>⟨_,hr'.nxt _,hk⟩
theorem aLn{e:Nat→Ent}{J:Nat}(h:aM.isFresh ⟨e,0⟩ J=true):e J= .fresh:=aM.isFresh_eq h
theorem bOb: ∀id,3000000≤id→bR id= .fresh:=fun _ _=>rfl
theorem bFv{e:Nat→Ent}{i:Nat}{x:Ent}(h: ∀id,3000000≤id→e id= .fresh)(hi:i<3000000): ∀id,3000000≤id→upd e i x id= .fresh:=fun id hid=>by rw [upd_ne _ _ _ _ om];exact h id hid
def aDl:Ent→Prop
  | .cells _ xs l=>l≤xs.length∧ ∀a,a∈xs→Data a
  |_=>True
theorem bNi: ∀id,aDl (bR id):=fun _=>trivial
theorem nM{e:Nat→Ent}{i:Nat}{x:Ent}(hx:aDl x)(h: ∀id,aDl (e id)): ∀id,aDl (upd e i x id):=fun id=>by
 by_cases c:id=i
 · subst c;rw [upd_same];exact hx
 · rw [upd_ne _ _ _ _ c];exact h id
theorem wB{α:Type}{c:α→List AV}{sz:Nat}(h:CF c sz){l:List α} :aDl (.cells sz (l.flatMap c) 0):=⟨Nat.zero_le _,fun a ha=>by
 obtain ⟨x,_,hx⟩:=List.mem_flatMap.1 ha;exact h.dat x a hx⟩
theorem bV9{e:Nat→Ent}{j:Nat}(h: ∀id,aDl (e id)): ∀id,id≠j→aDl (e id):=fun id _=>h id
theorem bX9{α:Type}{c:α→List AV}{sz:Nat}[h:CC c sz]{l:List α} :aDl (.cells sz (l.flatMap c) 0):=wB h.h
theorem KF{e:Nat→Ent}(h: ∀id,3000000≤id→e id= .fresh:=by (repeat (first|exact bOb|refine bFv ?_ (by decide)));done): ∀id,3000000≤id→e id= .fresh:=h
theorem DF{e:Nat→Ent}{j:Nat}(h: ∀id,aDl (e id):=by (repeat (first|exact bNi|refine nM trivial ?_|refine nM bX9 ?_|refine nM ⟨Nat.zero_le _,DS⟩ ?_));done): ∀id,id≠j→aDl (e id):=bV9 h
theorem aI.callA{ops:Array Oper}{base i n d:Nat}{rest:List Oper}{K:St→Prop}{t:Nat→AV}{e e':Nat→Ent}{N:Nat}{ty:TypeId}{pos:String}{after:Array Edge}{r:AV}(hd:d<n){f:Operand}{args:Array Operand}{ats:Array TypeId}{g:FuncId}{args':List AV}
 (hf:aval t f= .clo (.func g) [] []) (hb:(P.funcs[g]?).any (fun fn=>fn.body.isSome&&fn.name != "runtime.NumGoroutine")=true) (ha:args.toList.map (aval t)=args')
 (hc:dR P g args' ⟨e,N⟩ r ⟨e',N⟩) (k:aI P false ops base (i+1) rest K ⟨n,aG t d r,⟨e',N⟩⟩):
 aI P false ops base i (⟨some d,.call { callee:= .value f,args:=args,argTypes:=ats },ty,pos,after,none⟩::rest) K ⟨n,t,⟨e,N⟩⟩:=
 aI.call hd hf hb (by rw [List.nil_append,List.append_nil,ha];exact hc) k
end Go.AM
