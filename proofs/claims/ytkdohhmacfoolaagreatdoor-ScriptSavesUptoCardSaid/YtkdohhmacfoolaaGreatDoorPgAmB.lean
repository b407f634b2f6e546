/- Facts. No condition. -/
import Derived.Test.YtkdohhmacfoolaaGreatDoorPgAmA
set_option linter.unusedSimpArgs false
set_option linter.unusedVariables false
set_option maxRecDepth 4000
namespace Go.AM
section
open Go.RowKit
def B0:Nat→Prop:=fun _=>False
structure St where
  n:Nat
  f:Nat→AV
  H:aH
def aF(f:Nat→AV)(d:Nat)(r:AV):Nat→AV:=fun j=>if j=d then r else f j
def mS(f:Nat→AV)(dst:Option Tmp)(r:AV):Nat→AV:=
  match dst with
  |some d=>aF f d r
  |none=>f
def bNb(n:Nat)(dst:Option Tmp):Prop:=
  match dst with
  |some d=>d<n
  |none=>True
def aEg(want:Bool):AV→Option Bool
  | .v (.bool b)=>some (b==want)
  | .v (.tuple _)=>some false
  |_=>none
def aDk(ops:Array Oper)(ts:Nat→AV)(o:Oper):Option Bool:=
  match o.guard with
  |none=>some true
  |some (j,want)=>match (ops[j]?).bind (·.dst) with
    |some d=>aEg want (aval ts (.tmp d))
    |none=>none
theorem Sim.xl{X:Nat→Nat→Prop}{w0 w:World}{H:aH}{O:Nat→OSt}(hs:Sim X w0 w H O):XL X w:=⟨fun b i hx=>by have:=hs.xlt.lt b i hx;have:=hs.below.size;omega,hs.xlt.tab.keep hs.below⟩
theorem Sim.mut_lt{X:Nat→Nat→Prop}{w0 w:World}{H:aH}{O:Nat→OSt}(hs:Sim X w0 w H O):XL (Mut X H O) w:=by
 refine ⟨?_,hs.xl.tab⟩;rintro b i (h|⟨id,o,ho,hb,_⟩)
 · have:=hs.xlt.lt b i h;have:=hs.below.size;omega
 · rw [←hb];exact (hs.live_lt ho).2
structure Ctx where
  X:Nat→Nat→Prop
  w0:World
  wS:World
  MS:Nat→Nat→Prop
  OS:Nat→OSt
  bd:Nat→Prop
  fr: ∀id,¬bd id→OS id= .fresh
structure Real(C:Ctx)(s:St)(a:Act)(w:World):Prop where
  defers:a.defers=[]
  ex: ∃O,Sim C.X C.w0 w s.H O∧FR w (Mut C.X s.H O) O a.tmps s.n s.f∧fQ C.wS C.MS C.OS w (Mut C.X s.H O) O
def eK(P:Program)(g:FuncId)(args:List AV)(H:aH)(r:AV)(H':aH):Prop:=
  ∀(X:Nat→Nat→Prop) (w0 w:World) (O:Nat→OSt) (vs:Array Value),Sim X w0 w H O→RVs w (Mut X H O) O vs args→
    Calls P g vs w fun e w'=> ∃v O',e= .returned v∧Sim X w0 w' H' O'∧fQ w (Mut X H O) O w' (Mut X H' O') O'∧RV w' (Mut X H' O') O' v r
def cE(P:Program)(f:FuncId)(args:List AV)(r:AV):Prop:=
  ∀(w:World) (X:Nat→Nat→Prop) (vs:Array Value),XL X w→RVs w X (fun _=> .fresh) vs args→
    Calls P f vs w fun e w'=> ∃v,e= .returned v∧RV w' X (fun _=> .fresh) v r∧Below w.heap.size w w'
def iW:AV→Option Nat
  | .own id _ _=>some id
  | .adr id _=>some id
  |_=>none
def aRm(a:AV):Prop:= ∀(w:World) (M:Nat→Nat→Prop) (O:Nat→OSt) (x:Value),RV w M O x a→RV w M (fun _=> .fresh) x a
def POp(P:Program)(op:Op)(xs:Operand→AV)(r:AV):Prop:=
  ∀(o:Oper) (w:World) (X:Nat→Nat→Prop) (ρ:Operand→Value),o.op=op→XL X w→(∀x,x∈op.operands→RV w X (fun _=> .fresh) (ρ x) (xs x))→
    ∃v w',(execOp ρ o).run P w= .ok (.value v) w'∧RV w' X (fun _=> .fresh) v r∧Below w.heap.size w w'
def aGj(P:Program)(strict:Bool)(id:Nat)(o:Oper)(s s':St):Prop:=
  match o.op with
  | .call { callee:= .value f,args,.. } => ∃g first cap r H',aval s.f f= .clo (.func g) first cap∧(P.funcs[g]?).any (fun fn=>fn.body.isSome&&fn.name != "runtime.NumGoroutine")=true∧
      (∀H:aH,strict=true→(∀x,x∈args→ ∀j,iW (aval s.f x)=some j→s.H.ent j=H.ent j)→eK P g (first++args.toList.map (aval s.f)++cap) H r H)∧(strict=true→H'=s.H)∧
      eK P g (first++args.toList.map (aval s.f)++cap) s.H r H'∧s'=⟨s.n,mS s.f o.dst r,H'⟩
  |op=>(∃r,bJ P s.H (aval s.f) op=some r∧s'=⟨s.n,mS s.f o.dst r,s.H⟩)∨(∃r H',eZ P s.H id (aval s.f) op=some (r,H')∧s'=⟨s.n,mS s.f o.dst r,H'⟩)∨
      (∃r,(∀x,x∈op.operands→aRm (aval s.f x))∧POp P op (aval s.f) r∧s'=⟨s.n,mS s.f o.dst r,s.H⟩)
def dR(P:Program)(strict:Bool)(ops:Array Oper)(id:Nat)(o:Oper)(s s':St):Prop:=
  bNb s.n o.dst∧match aDk ops s.f o with
  |some false=>s'=⟨s.n,mS s.f o.dst (.v undef),s.H⟩
  |some true=>aGj P strict id o s s'
  |none=>False
variable {P:Program}
theorem FR.mono{w w':World}{M M':Nat→Nat→Prop}{O O':Nat→OSt}(ht:fQ w M O w' M' O'){vs:Array Value}{n:Nat}{f:Nat→AV}(h:FR w M O vs n f):
 FR w' M' O' vs n f:=⟨h.1,fun k=>(h.2 k).mono ht⟩
theorem FR.put{w:World}{M:Nat→Nat→Prop}{O:Nat→OSt}{a:Act}{n:Nat}{f:Nat→AV}(h:FR w M O a.tmps n f)(dst:Option Tmp)(hd:bNb n dst){x:Value}{r:AV}(hx:RV w M O x r):
 FR w M O (a.put dst x).tmps n (mS f dst r):=by
 cases dst with
 |none=>exact h
 |some d=>
  refine ⟨by simpa [Act.put] using h.1,fun k=>?_⟩;have hdn:d<a.tmps.size:=by rw [h.1];exact hd
  by_cases hk:k=d
  ·
   subst hk
   simpa [mS,aF,Act.put,hdn] using hx
  ·
   have:=h.2 k
   simpa [mS,aF,Act.put,hk,Array.getElem?_setIfInBounds_ne (Ne.symm hk)] using this
theorem aPw{C:Ctx}{s:St}{a:Act}{w:World}{ops:Array Oper}{o:Oper}{b:Bool}(hr:Real C s a w)(h:aDk ops s.f o=some b):
 Region.wanted o (yielded ops a.tmps)=b:=by
 obtain ⟨O,_,hv,_⟩:=hr.ex;unfold aDk at h;unfold Region.wanted;split at h
 · rename_i hg;cases h;rw [hg]
 ·
  rename_i j want hg;rw [hg];simp only;split at h
  ·
   rename_i d hd;unfold yielded;rw [hd];have hv0:=hv.2 d;simp only [Option.bind_some]
   change aEg want (s.f d)=some b at h
   unfold aEg at h;split at h
   ·
    rename_i t ht;cases h;rw [ht] at hv0;have h2:=hv0.v_inv
    cases h3:a.tmps[d]? with
    |none=>simp [h3,undef] at h2
    |some y=>
     have:y= .bool t:=by simpa [h3] using h2
     subst this;cases t<;>cases want<;>rfl
   ·
    rename_i x ht;cases h;rw [ht] at hv0;have h2:=hv0.v_inv
    cases h3:a.tmps[d]? with
    |none=>cases want<;>rfl
    |some y=>
     have:y= .tuple x:=by simpa [h3] using h2
     subst this;cases want<;>rfl
   · cases h
  · cases h
theorem aRx{g:FuncId}{args:Array Value}{w:World}(h:(P.funcs[g]?).any (fun fn=>fn.body.isSome&&fn.name != "runtime.NumGoroutine")=true):
 (callFunc g args).run P w= .ok (.enter g args) w:=by
 cases hf:P.funcs[g]? with
 |none=>rw [hf] at h;cases h
 |some fn=>
  rw [hf] at h;simp only [Option.any_some,Bool.and_eq_true,bne_iff_ne,ne_eq] at h;have hb:fn.body≠none:=fun hb=>by rw [hb] at h;simp at h
  simp [callFunc,hf,h.2,hb]
theorem bDo{C:Ctx}{s s':St}{a:Act}{w:World}{o:Oper}{id:Nat}(hdst:bNb s.n o.dst){strict:Bool}(h:aGj P strict id o s s')(hr:Real C s a w){K:Act→World→Prop}{Q:Exit→Act→World→Prop}
 (hK: ∀a' w',Real C s' a' w'→K a' w'):o.wp P a w K Q:=by
 obtain ⟨hd,O,hs,hv,ht⟩:=hr;have hρ: ∀x,RV w (Mut C.X s.H O) O (a.eval x) (aval s.f x):=fun x=>hv.aval x
 have fin: ∀(v:Value) (w':World) (r:AV) (H':aH) (O':Nat→OSt),Sim C.X C.w0 w' H' O'→fQ w (Mut C.X s.H O) O w' (Mut C.X H' O') O'→RV w' (Mut C.X H' O') O' v r→
  Real C ⟨s.n,mS s.f o.dst r,H'⟩ (a.put o.dst v) w':=by
  intro v w' r H' O' h1 h2 h3;refine ⟨?_,O',h1,(hv.mono h2).put o.dst hdst h3,ht.trans h2⟩;cases o.dst<;>exact hd
 unfold aGj at h;unfold Oper.wp;split at h
 ·
  rename_i f args ats ho;obtain ⟨g,first,cap,r,H',h1,h2,_,_,h3,rfl⟩:=h;have hf:=hρ f;rw [h1] at hf;generalize hfe:a.eval f=fv at*
  cases hf with
  |clo _ fs cs _ _ hl hx hl' hx'=>
   have hargs:=bGe hρ args
   have hvs:RVs w (Mut C.X s.H O) O ((fs++args.map a.eval)++cs) (first++args.toList.map (aval s.f)++cap):=by
    refine ⟨by simp only [Array.size_append,List.length_append,hl,hl',hargs.1],fun k b hk=>?_⟩
    have e0:(fs++args.map a.eval++cs).getD k undef=if k<fs.size then fs.getD k undef else if k<fs.size+(args.map a.eval).size then (args.map a.eval).getD (k-fs.size) undef else cs.getD (k-fs.size-(args.map a.eval).size) undef:=by
     simp only [Array.getD_eq_getD_getElem?,Array.getElem?_append,Array.size_append]
     by_cases c1:k<fs.size
     · rw [if_pos om,if_pos c1,if_pos c1]
     ·
      by_cases c2:k<fs.size+(args.map a.eval).size
      · rw [if_pos c2,if_neg c1,if_neg c1,if_pos c2]
      · rw [if_neg c2,if_neg c1,if_neg c2];congr 2;omega
    rw [e0];rw [List.append_assoc,List.getElem?_append] at hk;rw [hl];split at hk
    · rename_i c1;rw [if_pos c1];exact hx _ _ hk
    ·
     rename_i c1;rw [if_neg c1];rw [List.getElem?_append] at hk;rw [hargs.1];split at hk
     · rename_i c2;rw [if_pos om];exact hargs.2 _ _ hk
     · rename_i c2;rw [if_neg om];exact hx' _ _ hk
   have hcall:=h3 C.X C.w0 w O _ hs hvs
   have hrun:(execOp a.eval o).run P w= .ok (.enter g ((fs++args.map a.eval)++cs)) w:=by
    simp only [execOp,ho,resolve,hfe,Deferred.ofValue,Sem.run_bind,Sem.run_pure,Result.andThen_ok,invoke];exact aRx h2
   rw [hrun];show Calls P g _ w _;refine hcall.mono ?_;rintro e w' ⟨v,O',rfl,h4,h5,h6⟩;exact hK _ _ (fin v w' r H' O' h4 h5 h6)
 ·
  rename_i op hne;rcases h with ⟨r,h1,rfl⟩|⟨r,H',h1,rfl⟩|⟨r,h0,h1,rfl⟩
  · obtain ⟨v,h2,h3⟩:=aPl hs hρ h1;rw [h2];exact hK _ _ (fin v w r s.H O hs (fQ.refl _ _ _) h3)
  ·
   obtain ⟨v,w',O',h2,h3,h4,h5⟩:=aPf hs hρ h1;rcases h2 with h2|⟨h2,rfl⟩
   · rw [h2];exact hK _ _ (fin v w' r H' O' h3 h4 h5)
   · rw [h2];exact hK _ _ (fin undef w' r H' O' h3 h4 h5)
  · obtain ⟨v,w',h2,h3,h4⟩:=h1 o w (Mut C.X s.H O) a.eval rfl hs.mut_lt (fun x hx=>h0 x hx _ _ _ _ (hρ x));obtain ⟨h5,h6⟩:=hs.grow h4;rw [h2];exact hK _ _ (fin v w' r s.H O h5 h6 (h3.mono ⟨fun _ _ _ h k=>⟨h,k⟩,fun _ h=>(by cases h),fun _ h=>(by cases h),fun _ _ h=>(by cases h)⟩))
theorem aE6{C:Ctx}{s s':St}{a:Act}{w:World}{o:Oper}{ops:Array Oper}{id:Nat}{strict:Bool}(h:dR P strict ops id o s s')(hr:Real C s a w){K:Act→World→Prop}{Q:Exit→Act→World→Prop}
 (hK: ∀a' w',Real C s' a' w'→K a' w'):if Region.wanted o (yielded ops a.tmps) then o.wp P a w K Q else K (a.put o.dst undef) w:=by
 unfold dR at h;obtain ⟨hdst,h⟩:=h;split at h
 ·
  rename_i hg;subst h;rw [aPw hr hg];simp only [Bool.false_eq_true,if_false];refine hK _ _ ⟨?_,?_⟩
  · cases o.dst<;>exact hr.defers
  · obtain ⟨O,h1,h2,h3⟩:=hr.ex;exact ⟨O,h1,h2.put o.dst hdst (.v _),h3⟩
 · rename_i hg;rw [aPw hr hg];simp only [if_true];exact bDo hdst h hr hK
 · exact h.elim
def aR(P:Program)(strict:Bool)(ops:Array Oper)(base:Nat):Nat→List Oper→(St→Prop)→St→Prop
  |_,[],K,s=>K s
  |i,o::rest,K,s=> ∃s',dR P strict ops (base+i) o s s'∧aR P strict ops base (i+1) rest K s'
theorem aLa{C:Ctx}{strict:Bool}{ops:Array Oper}{base:Nat}{Q:Exit→Act→World→Prop} : ∀(l:List Oper) (i:Nat) (K:St→Prop) (s:St) (a:Act) (w:World),
 aR P strict ops base i l K s→Real C s a w→(∀s' a' w',K s'→Real C s' a' w'→Q .normal a' w')→wpList P ops Q l a w
 |[],i,K,s,a,w,h,hr,hQ=>hQ s a w h hr
 |o::rest,i,K,s,a,w,h,hr,hQ=>by
  obtain ⟨s',h1,h2⟩:=h;have:=aE6 (Q:=Q) h1 hr (K:=wpList P ops Q rest) (fun a' w' hr'=>aLa rest (i+1) K s' a' w' h2 hr' hQ);unfold wpList;split at this
  · rename_i hw;simp only [hw,if_true];exact .inl this
  · rename_i hw;simp only [hw];exact this
def AWp(P:Program)(B:Nat→Prop)(c:Code)(Q:Exit→St→Prop)(s:St):Prop:=
  ∀(C:Ctx) (a:Act) (w:World),C.bd=B→Real C s a w→c.wp P (fun e a' w'=> ∃s',Real C s' a' w'∧Q e s') a w
theorem Real.nxt{C:Ctx}{s:St}{a:Act}{w:World}(h:Real C s a w)(n:Nat):Real C ⟨s.n,s.f,⟨s.H.ent,n⟩⟩ a w:=by
 obtain ⟨hd,O,h1,h2,h3⟩:=h;exact ⟨hd,O,⟨h1.below,h1.xlt,h1.ent,h1.inj⟩,h2,h3⟩
theorem AWp.region{B:Nat→Prop}(m:Nat){id:Nat}{l:List Oper}{Q:Exit→St→Prop}{n N:Nat}{f:Nat→AV}{e:Nat→Ent}
 (h:aR P false l.toArray N 0 l (fun s'=>Q .normal ⟨s'.n,s'.f,⟨s'.H.ent,N+m⟩⟩) ⟨n,f,⟨e,N⟩⟩):AWp P B (.region id l.toArray false) Q ⟨n,f,⟨e,N⟩⟩:=by
 intro C a w _ hr;refine wp_region_lit ?_;exact aLa l 0 _ _ a w h hr (fun s' a' w' hK hr'=>⟨_,hr'.nxt _,hK⟩)
end
section
open Go.RowKit
variable {P:Program}{B:Nat→Prop}
def yP(K:St→Prop)(Q:Exit→St→Prop):Exit→St→Prop
  | .normal,s=>K s
  |e,s=>Q e s
def AIn(id:Nat)(Q:Exit→St→Prop):Exit→St→Prop
  | .exit id',s=>if id'=id then Q .normal s else Q (.exit id') s
  |e,s=>Q e s
theorem AWp.mono{c:Code}{Q Q':Exit→St→Prop}{s:St}(h:AWp P B c Q s)(hq: ∀e s',Q e s'→Q' e s'):AWp P B c Q' s:=
 fun C a w hb hr=>wp_mono (h C a w hb hr) fun _ _ _ ⟨s',hr',q⟩=>⟨s',hr',hq _ _ q⟩
theorem AWp.seq{x y:Code}{Q:Exit→St→Prop}{s:St}(h: ∀K:St→Prop,(∀s',AWp P B y Q s'→K s')→AWp P B x (yP K Q) s):AWp P B (.seq x y) Q s:=by
 intro C a w hb hr;refine wp_seq (wp_mono (h _ (fun _ h=>h) C a w hb hr) ?_);rintro e a' w' ⟨s',hr',hq⟩
 cases e with
 |normal=>exact hq C a' w' hb hr'
 |_=>exact ⟨s',hr',hq⟩
theorem AWp.skip{Q:Exit→St→Prop}{s:St}(h:Q .normal s):AWp P B .skip Q s:=fun _ _ _ _ hr=>wp_skip ⟨s,hr,h⟩
theorem AWp.exit{id:Nat}{Q:Exit→St→Prop}{s:St}(h:Q (.exit id) s):AWp P B (.exit id) Q s:=fun _ _ _ _ hr=>wp_exit ⟨s,hr,h⟩
theorem AWp.ret{Q:Exit→St→Prop}{s:St}(h:Q .ret s):AWp P B .ret Q s:=fun _ _ _ _ hr=>wp_ret ⟨s,hr,h⟩
theorem Real.eval{C:Ctx}{s:St}{a:Act}{w:World}(hr:Real C s a w){x:Operand}{v:Value}(h:aval s.f x= .v v):a.eval x=v:=by
 obtain ⟨O,_,h2,_⟩:=hr.ex;have:=h2.aval x;rw [h] at this;exact this.v_inv
theorem AWp.cond{c:Operand}{x y:Code}{Q:Exit→St→Prop}{s:St}(t:Bool)(hc:aval s.f c= .v (.bool t))(ht:t=true→AWp P B x Q s)(hf:t=false→AWp P B y Q s):
 AWp P B (.cond c x y) Q s:=
 fun C a w hb hr=>wp_cond_split (hr.eval hc) (fun h=>ht h C a w hb hr) (fun h=>hf h C a w hb hr)
theorem AWp.block{id:Nat}{c:Code}{Q:Exit→St→Prop}{s:St}(h:AWp P B c (AIn id Q) s):AWp P B (.block id c) Q s:=by
 intro C a w hb hr;refine wp_block (wp_mono (h C a w hb hr) ?_);rintro e a' w' ⟨s',hr',hq⟩
 cases e with
 |exit id'=>
  by_cases hid:id'=id
  · simp only [AIn,hid,if_true] at hq;simp only [Exit.inBlock,hid,if_true];exact ⟨s',hr',hq⟩
  · simp only [AIn,hid,if_false] at hq;simp only [Exit.inBlock,hid,if_false];exact ⟨s',hr',hq⟩
 |_=>exact ⟨s',hr',hq⟩
theorem aQ7{c:Code}{Q:Exit→Act→World→Prop} : ∀(m n:Nat),m≤n→ ∀a w,Code.rounds P c Q m a w→Code.rounds P c Q n a w
 |0,_,_,_,_,h=>h.elim
 |m+1,0,hmn,_,_,_=>by omega
 |m+1,n+1,hmn,a,w,h=>wp_mono h (by
  intro e a' w' hq
  cases e with
  |normal=>exact aQ7 m n om a' w' hq
  |_=>exact hq)
theorem AWp.loop{c:Code}{Q:Exit→St→Prop}{s:St}(I:Nat→St→Prop)(n:Nat)(h0:I n s)
 (round: ∀n s,I n s→AWp P B c (yP (fun s'=> ∃m,m<n∧I m s') Q) s):AWp P B (.loop c) Q s:=by
 intro C a w hb hr
 have key: ∀n s,I n s→ ∀a w,Real C s a w→Code.rounds P c (fun e a' w'=> ∃s',Real C s' a' w'∧Q e s') (n+1) a w:=by
  intro n
  induction n using Nat.strongRecOn with
  |_ n ih=>
   intro s hI a w hr;refine wp_mono (round n s hI C a w hb hr) ?_;rintro e a' w' ⟨s',hr',hq⟩
   cases e with
   |normal=>
    obtain ⟨m,hm,hI'⟩:=hq;exact aQ7 (m+1) n om a' w' (ih m hm s' hI' a' w' hr')
   |_=>exact ⟨s',hr',hq⟩
 exact wp_loop_rounds (n+1) (key n s h0 a w hr)
def St.Le(B:Nat→Prop)(s s':St):Prop:= ∀C a w,C.bd=B→Real C s a w→Real C s' a w
theorem AWp.weaken{c:Code}{Q:Exit→St→Prop}{s s':St}(hle:s.Le B s')(h:AWp P B c Q s'):AWp P B c Q s:=
 fun C a w hb hr=>h C a w hb (hle C a w hb hr)
def yS(P:Program)(fn:Func)(s:St):Option AV:=
  match fn.results.toList.mapM (fun r=>match r with
    | .tmp t=>some (s.f t)
    | .cell p t=>bT P s.H t (s.f p)) with
  |some [x]=>some x
  |some xs=>some (.tup xs)
  |none=>none
theorem aL9{C:Ctx}{s:St}{a:Act}{w:World}{fn:Func}{r:AV}(hr:Real C s a w)(h:yS P fn s=some r):
 ∃O v,Sim C.X C.w0 w s.H O∧fQ C.wS C.MS C.OS w (Mut C.X s.H O) O∧(results fn a.tmps).run P w= .ok v w∧RV w (Mut C.X s.H O) O v r:=by
 obtain ⟨_,O,hs,hv,ht⟩:=hr;refine ⟨O,?_⟩
 have key: ∀(l:List ResultVar) (xs:List AV),l.mapM (fun r=>match r with
  | .tmp t=>some (s.f t)
  | .cell p t=>bT P s.H t (s.f p))=some xs→
  ∃vs:List Value,(l.mapM (fun r=>match r with
   | .tmp t=>pure (a.tmps.getD t undef)
   | .cell p t=>do loadVar t (←asAddr (a.tmps.getD p undef)):ResultVar→Sem Value)).run P w= .ok vs w∧vs.length=xs.length∧
   ∀k b,xs[k]? =some b→RV w (Mut C.X s.H O) O (vs.getD k undef) b:=by
  intro l
  induction l with
  |nil=>intro xs h;cases h;exact ⟨[],rfl,rfl,fun k b hk=>by simp at hk⟩
  |cons x l ih=>
   intro xs h;simp only [List.mapM_cons,Option.bind_eq_bind,Option.pure_def] at h;simp only [Option.bind_eq_some_iff] at h;obtain ⟨b,hb,xs',hxs,rest⟩:=h;cases rest;obtain ⟨vs,h1,h2,h3⟩:=ih xs' hxs
   have hone: ∃v,((match x with
    | .tmp t=>pure (a.tmps.getD t undef)
    | .cell p t=>do loadVar t (←asAddr (a.tmps.getD p undef)):Sem Value)).run P w= .ok v w∧RV w (Mut C.X s.H O) O v b:=by
    cases x with
    |tmp t=>cases hb;exact ⟨_,rfl,hv.2 t⟩
    |cell p t=>
     simp only at hb;obtain ⟨v,h4,h5⟩:=aPh hs (hv.2 p) hb;refine ⟨v,?_,h5⟩;simp only [Sem.run_bind];unfold Instr.loadAt at h4;simp only [Sem.run_bind] at h4;generalize a.tmps.getD p undef=q at*;cases q<;>simp [Instr.sureAddr] at h4<;>(try (rename_i ad;cases ad<;>simp at h4))<;>simp [asAddr,h4]
   obtain ⟨v,h4,h5⟩:=hone;refine ⟨v::vs,?_,by simp [h2],fun k c hk=>?_⟩
   · simp only [List.mapM_cons,Sem.run_bind,h4,h1,Result.andThen_ok,Sem.run_pure]
   ·
    cases k with
    |zero=>simp at hk;subst hk;simpa using h5
    |succ k=>simp at hk;simpa using h3 k c hk
 unfold yS at h;unfold results;split at h
 ·
  rename_i x hx;cases h;obtain ⟨vs,h1,h2,h3⟩:=key _ _ hx
  match vs,h2 with
  |[v],_=>
   refine ⟨v,hs,ht,?_,by have:=h3 0 r rfl;simpa using this⟩;rw [Array.mapM_eq_mapM_toList];simp only [Sem.run_bind,Sem.run_map]
   erw [h1]
   simp
 ·
  rename_i xs hne hx;cases h;obtain ⟨vs,h1,h2,h3⟩:=key _ _ hx;refine ⟨.tuple vs.toArray,hs,ht,?_,.tup _ _ (by simp [h2]) (fun k b hk=>by simpa using h3 k b hk)⟩
  have h4:vs.length≠1:=fun h=>by
   rw [h2] at h
   match xs,h with
   |[x],_=>exact hne x rfl
  rw [Array.mapM_eq_mapM_toList];simp only [Sem.run_bind,Sem.run_map]
  erw [h1]
  simp [h4]
 · cases h
def aIb(args:List AV):Nat→AV:=fun k=>args.getD k (.v undef)
theorem FR.start{w:World}{M:Nat→Nat→Prop}{O:Nat→OSt}{vs:Array Value}{args:List AV}(n:Nat)(hv:RVs w M O vs args):
 FR w M O (vs++Array.replicate (n-vs.size) undef) (args.length+(n-args.length)) (aIb args):=by
 refine ⟨by simp [hv.1],fun k=>?_⟩
 have e:(vs++Array.replicate (n-vs.size) undef).getD k undef=vs.getD k undef:=by
  simp only [Array.getD_eq_getD_getElem?,Array.getElem?_append];split
  · rfl
  · rename_i hge;rw [Array.getElem?_eq_none (by omega:vs.size≤k),Array.getElem?_replicate];split<;>rfl
 rw [e];rcases Nat.lt_or_ge k args.length with h|h
 ·
  have h1:args[k]? =some args[k]:=List.getElem?_eq_getElem h;have:=hv.2 k _ h1;have e2:aIb args k=args[k]:=by simp [aIb,List.getD,h]
  rw [e2];exact this
 ·
  have h1:vs.getD k undef=undef:=by
   have:vs.size≤k:=by rw [hv.1];exact h
   simp [this]
  have e2:aIb args k= .v undef:=by simp [aIb,List.getD,h]
  rw [h1,e2];exact .v _
theorem eK.of_body{f:FuncId}{fn:Func}{c:Code}{args:List AV}{H:aH}{r:AV}{H':aH}(hf:P.funcs[f]? =some fn)(hb:fn.body=some c)(hB: ∀id,¬B id→H.ent id= .fresh)
 (h:AWp P B c (fun e s=>(e= .normal∨e= .ret)∧yS P fn s=some r∧s.H.ent=H'.ent) ⟨args.length+(fn.ntmps-args.length),aIb args,H⟩):
 eK P f args H r H':=by
 intro X w0 w O vs hs hv;refine calls_of_wp hf hb ?_
 have hr:Real ⟨X,w0,w,Mut X H O,O,B,fun id hid=>hs.fresh (hB id hid)⟩ ⟨args.length+(fn.ntmps-args.length),aIb args,H⟩ { tmps:=vs++Array.replicate (fn.ntmps-vs.size) undef,defers:=[] } w:=
  ⟨rfl,O,hs,FR.start fn.ntmps hv,fQ.refl _ _ _⟩
 refine wp_mono (h _ _ _ rfl hr) ?_;rintro e a' w' ⟨s',hr',he,hres,hH⟩;obtain ⟨O',v,h1,h2,h3,h4⟩:=aL9 hr' hres;have hent:s'.H.ent=H'.ent:=hH;have eM:Mut X s'.H O'=Mut X H' O':=by funext b i;simp only [Mut,hent]
 have fin: ∃v' O',Ending.returned v= .returned v'∧Sim X w0 w' H' O'∧fQ w (Mut X H O) O w' (Mut X H' O') O'∧RV w' (Mut X H' O') O' v' r:=by
  refine ⟨v,O',rfl,⟨h1.below,h1.xlt,fun id=>?_,h1.inj⟩,?_,?_⟩
  · have:=h1.ent id;rw [hent] at this;rw [←eM];exact this
  · rw [←eM];exact h2
  · rw [←eM];exact h4
 rcases he with rfl|rfl
 · exact ⟨hr'.defers,v,h3,fin⟩
 · exact ⟨hr'.defers,v,h3,fin⟩
end
section
open Go.RowKit
variable {P:Program}
inductive Data:AV→Prop where
  |any:Data .any
  |v (x:Value):Data (.v x)
  |sl (xs:List AV) (n:Nat) (f:Bool) (h: ∀a,a∈xs→Data a):Data (.sl xs n f)
  |ptr (xs:List AV) (h: ∀a,a∈xs→Data a):Data (.ptr xs)
  |agg (xs:List AV) (h: ∀a,a∈xs→Data a):Data (.agg xs)
  |tup (xs:List AV) (h: ∀a,a∈xs→Data a):Data (.tup xs)
  |ifc (t:TypeId) (a:AV) (h:Data a):Data (.ifc t a)
  |clo (fn:Fn) (f c:List AV) (h: ∀a,a∈f→Data a) (h': ∀a,a∈c→Data a):Data (.clo fn f c)
@[simp] theorem Data.any_iff:Data .any↔True:=⟨fun _=>trivial,fun _=> .any⟩
@[simp] theorem Data.v_iff(x:Value):Data (.v x)↔True:=⟨fun _=>trivial,fun _=> .v x⟩
@[simp] theorem Data.sl_iff(xs:List AV)(n:Nat)(f:Bool):Data (.sl xs n f)↔ ∀a,a∈xs→Data a:=⟨fun h=>by cases h;assumption,.sl xs n f⟩
@[simp] theorem Data.ptr_iff(xs:List AV):Data (.ptr xs)↔ ∀a,a∈xs→Data a:=⟨fun h=>by cases h;assumption,.ptr xs⟩
@[simp] theorem Data.agg_iff(xs:List AV):Data (.agg xs)↔ ∀a,a∈xs→Data a:=⟨fun h=>by cases h;assumption,.agg xs⟩
@[simp] theorem Data.tup_iff(xs:List AV):Data (.tup xs)↔ ∀a,a∈xs→Data a:=⟨fun h=>by cases h;assumption,.tup xs⟩
@[simp] theorem Data.ifc_iff(t:TypeId)(a:AV):Data (.ifc t a)↔Data a:=⟨fun h=>by cases h;assumption,.ifc t a⟩
@[simp] theorem Data.clo_iff(fn:Fn)(f c:List AV):Data (.clo fn f c)↔(∀a,a∈f→Data a)∧(∀a,a∈c→Data a):=⟨fun h=>by cases h;exact ⟨‹_›,‹_›⟩,fun h=> .clo fn f c h.1 h.2⟩
@[simp] theorem Data.own_iff(i o n:Nat):Data (.own i o n)↔False:=⟨fun h=>(by cases h),fun h=>h.elim⟩
@[simp] theorem Data.adr_iff(i o:Nat):Data (.adr i o)↔False:=⟨fun h=>(by cases h),fun h=>h.elim⟩
theorem mem_of_getElem?{xs:List AV}{k:Nat}{a:AV}(h:xs[k]? =some a):a∈xs:=List.mem_of_getElem? h
theorem RV.data{w:World}{M M':Nat→Nat→Prop}{O O':Nat→OSt}{x:Value}{a:AV}(h:RV w M O x a)(hd:Data a)(hM: ∀b i,(w.cell? ⟨b,i,none⟩).isSome=true→ ¬M b i→ ¬M' b i):RV w M' O' x a:=by
 induction h with
 |any x=>exact .any x
 |v x=>exact .v x
 |sl b off cap xs len full cs hc _ hl hf ih=>
  simp only [Data.sl_iff] at hd;exact .sl b off cap xs len full cs (fun k hk=>⟨(hc k hk).1,hM _ _ (by rw [(hc k hk).1];rfl) (hc k hk).2⟩) (fun k a hk=>ih k a hk (hd a (mem_of_getElem? hk))) hl hf
 |slnil a full=>exact .slnil a full
 |ptr b off xs cs hc _ ih=>
  simp only [Data.ptr_iff] at hd;exact .ptr b off xs cs (fun k hk=>⟨(hc k hk).1,hM _ _ (by rw [(hc k hk).1];rfl) (hc k hk).2⟩) (fun k a hk=>ih k a hk (hd a (mem_of_getElem? hk)))
 |agg cs xs hl _ ih=>
  simp only [Data.agg_iff] at hd;exact .agg cs xs hl (fun k a hk=>ih k a hk (hd a (mem_of_getElem? hk)))
 |tup cs xs hl _ ih=>
  simp only [Data.tup_iff] at hd;exact .tup cs xs hl (fun k a hk=>ih k a hk (hd a (mem_of_getElem? hk)))
 |ifc t x a _ ih=>exact .ifc t x a (ih (by simpa using hd))
 |clo fn f c fs cs hl _ hl' _ ih ih'=>
  simp only [Data.clo_iff] at hd;exact .clo fn f c fs cs hl (fun k a hk=>ih k a hk (hd.1 a (mem_of_getElem? hk))) hl' (fun k a hk=>ih' k a hk (hd.2 a (mem_of_getElem? hk)))
 |owndead=>simp at hd
 |own=>simp at hd
 |ownvirt=>simp at hd
 |ownz=>simp at hd
 |adrdead=>simp at hd
 |adr=>simp at hd
def jO:Nat→OSt:=fun _=> .fresh
inductive ToD(lk:Bool)(H:aH):AV→AV→Prop where
  |data (a:AV) (h:Data a):ToD lk H a a
  |own (id off len sz:Nat) (xs ys:List AV) (l:Nat) (he:H.ent id= .cells sz xs l) (hl:lk=true→l=xs.length) (hlen:off+len*sz≤xs.length)
      (hy:ys.length=len*sz) (h: ∀(k:Nat) (a b:AV),xs[off+k]? =some a→ys[k]? =some b→ToD lk H a b):ToD lk H (.own id off len) (.sl ys len false)
  |adr (id off sz:Nat) (xs ys:List AV) (l:Nat) (he:H.ent id= .cells sz xs l) (hl:lk=true→l=xs.length) (hy:off+ys.length≤xs.length)
      (h: ∀(k:Nat) (a b:AV),xs[off+k]? =some a→ys[k]? =some b→ToD lk H a b):ToD lk H (.adr id off) (.ptr ys)
  |agg (xs ys:List AV) (hl:xs.length=ys.length) (h: ∀(k:Nat) (a b:AV),xs[k]? =some a→ys[k]? =some b→ToD lk H a b):ToD lk H (.agg xs) (.agg ys)
  |tup (xs ys:List AV) (hl:xs.length=ys.length) (h: ∀(k:Nat) (a b:AV),xs[k]? =some a→ys[k]? =some b→ToD lk H a b):ToD lk H (.tup xs) (.tup ys)
  |ifc (t:TypeId) (a b:AV) (h:ToD lk H a b):ToD lk H (.ifc t a) (.ifc t b)
  |full (xs:List AV) (n:Nat) (h: ∀a,a∈xs→Data a):ToD lk H (.sl xs n true) (.sl xs n false)
  |nil (f:Bool):ToD lk H (.v (.slice none 0 0)) (.sl [] 0 f)
theorem ToD.ownData{lk:Bool}{H:aH}{id off len sz:Nat}{xs:List AV}{l:Nat}(he:H.ent id= .cells sz xs l)(hl:lk=true→l=xs.length)(hlen:off+len*sz≤xs.length)
 (hd: ∀a,a∈xs→Data a):ToD lk H (.own id off len) (.sl ((xs.drop off).take (len*sz)) len false):=by
 refine .own id off len sz xs _ l he hl hlen (by simp;omega) (fun k a b ha hb=>?_);rw [List.getElem?_take] at hb;split at hb
 · rw [List.getElem?_drop,ha] at hb;cases hb;exact .data a (hd a (mem_of_getElem? ha))
 · cases hb
theorem ToD.ownWhole{lk:Bool}{H:aH}{id len sz:Nat}{xs:List AV}{l:Nat}(he:H.ent id= .cells sz xs l)(hl:lk=true→l=xs.length)(hlen:xs.length=len*sz)
 (hd: ∀a,a∈xs→Data a):ToD lk H (.own id 0 len) (.sl xs len false):=by
 have:=ToD.ownData (off:=0) (len:=len) he hl om hd
 simpa [←hlen] using this
theorem ToD.sound{lk:Bool}{X:Nat→Nat→Prop}{w0 w:World}{H:aH}{O:Nat→OSt}(hs:Sim X w0 w H O){M':Nat→Nat→Prop}{O':Nat→OSt}
 (hM: ∀b i,(w.cell? ⟨b,i,none⟩).isSome=true→ ¬Mut X H O b i→ ¬M' b i)
 (hM':lk=false→ ∀id o i,O id= .live o→ ¬M' o.b i) {a b:AV} (h:ToD lk H a b): ∀ {x:Value},RV w (Mut X H O) O x a→RV w M' O' x b:=by
 have live: ∀(id sz:Nat) (xs:List AV) (l:Nat),H.ent id= .cells sz xs l→(lk=true→l=xs.length)→ ∀o,O id= .live o→
  ∃cs:Nat→Value,(∀k,k<xs.length→w.cell? ⟨o.b,o.base+k,none⟩=some (cs k)∧ ¬M' o.b (o.base+k))∧(∀k a,xs[k]? =some a→RV w (Mut X H O) O (cs k) a):=by
  intro id sz xs l he hl o ho;obtain ⟨cs,h1,h2,_,_⟩:=hs.cellsOf he ho;refine ⟨cs,fun k hk=>⟨h1 k hk,?_⟩,h2⟩
  cases hlk:lk with
  |false=>exact hM' hlk id o _ ho
  |true=>
   refine hM _ _ (by rw [h1 k hk];rfl) ?_;rintro (hx|⟨j,o',hj,hb,hi⟩)
   · have:=hs.xlt.lt _ _ hx;have:=(hs.live_lt ho).1;omega
   · have:=hs.inj j id _ _ hj ho hb;subst this;rw [ho] at hj;cases hj;rw [he] at hi;simp only [Ent.lock,hl hlk] at hi;omega
 induction h with
 |data a h=>intro x hx;exact hx.data h hM
 |own id off len sz xs ys l he hl hlen hy _ ih=>
  intro x hx
  have zero: ∀a:Option Addr,len=0→RV w M' O' (.slice a 0 0) (.sl ys len false):=by
   intro a h0;subst h0;have:ys=[]:=List.eq_nil_of_length_eq_zero (by simpa using hy);subst this;exact .slnil a _
  cases hx with
  |owndead _ _ _ _ hd _=>exact absurd hd (hs.notDead he)
  |ownvirt a _ _ hv=>exact zero a rfl
  |ownz a _ _ o ho=>exact zero a rfl
  |own _ _ _ cap o ho hlc hfit=>
   obtain ⟨cs,h1,h2⟩:=live id sz xs l he hl o ho;refine .sl o.b (o.base+off) cap ys len false (fun k=>cs (off+k)) (fun k hk=>by rw [Nat.add_assoc];exact h1 _ om) (fun k b hk=>?_) hlc (fun h=>by cases h)
   have hlt:off+k<xs.length:=by
    have:k<ys.length:=by
     rcases Nat.lt_or_ge k ys.length with h|h
     · exact h
     · rw [List.getElem?_eq_none h] at hk;cases hk
    omega
   have e:xs[off+k]? =some xs[off+k]:=List.getElem?_eq_getElem hlt;exact ih k _ b e hk (h2 _ _ e)
 |adr id off sz xs ys l he hl hy _ ih=>
  intro x hx
  cases hx with
  |adrdead _ _ _ hd _=>exact absurd hd (hs.notDead he)
  |adr _ _ o ho=>
   obtain ⟨cs,h1,h2⟩:=live id sz xs l he hl o ho;refine .ptr o.b (o.base+off) ys (fun k=>cs (off+k)) (fun k hk=>by rw [Nat.add_assoc];exact h1 _ om) (fun k b hk=>?_)
   have hlt:off+k<xs.length:=by
    have:k<ys.length:=by
     rcases Nat.lt_or_ge k ys.length with h|h
     · exact h
     · rw [List.getElem?_eq_none h] at hk;cases hk
    omega
   have e:xs[off+k]? =some xs[off+k]:=List.getElem?_eq_getElem hlt;exact ih k _ b e hk (h2 _ _ e)
 |agg xs ys hl _ ih=>
  intro x hx
  cases hx with
  |agg cs _ hcl hx=>
   refine .agg cs ys (hcl.trans hl) (fun k b hk=>?_)
   have hlt:k<xs.length:=by
    rw [hl];rcases Nat.lt_or_ge k ys.length with h|h
    · exact h
    · rw [List.getElem?_eq_none h] at hk;cases hk
   have e:xs[k]? =some xs[k]:=List.getElem?_eq_getElem hlt;exact ih k _ b e hk (hx _ _ e)
 |tup xs ys hl _ ih=>
  intro x hx
  cases hx with
  |tup cs _ hcl hx=>
   refine .tup cs ys (hcl.trans hl) (fun k b hk=>?_)
   have hlt:k<xs.length:=by
    rw [hl];rcases Nat.lt_or_ge k ys.length with h|h
    · exact h
    · rw [List.getElem?_eq_none h] at hk;cases hk
   have e:xs[k]? =some xs[k]:=List.getElem?_eq_getElem hlt;exact ih k _ b e hk (hx _ _ e)
 |ifc t a b _ ih=>
  intro x hx
  cases hx with
  |ifc _ y _ h=>exact .ifc t y b (ih h)
 |full xs n h=>
  intro x hx;have hx:=hx.data (M':=M') (O':=O') (by simpa using h) hM
  cases hx with
  |slnil ao _=>exact .slnil ao false
  |sl b off cap _ _ _ cs hc hx' hl _=>exact .sl b off cap xs n false cs hc hx' hl (fun h=>by cases h)
 |nil f=>
  intro x hx;have:=hx.v_inv;subst this;exact .slnil none f
end
section
open Go.RowKit
variable {P:Program}
def aH.empty:aH:=⟨fun _=> .fresh,0⟩
def aH.one(e:Ent):aH:=aH.empty.put 0 e
def fP(P:Program)(f:FuncId)(args:List AV)(sz:Nat)(xs:List AV)(len:Nat):Prop:=
  ∀(w:World) (X:Nat→Nat→Prop) (vs:Array Value),XL X w→RVs w X jO vs args→
    Calls P f vs w fun e w'=> ∃v O',e= .returned v∧Sim X w w' (aH.one (.cells sz xs 0)) O'∧RV w' (Mut X (aH.one (.cells sz xs 0)) O') O' v (.own 0 0 len)
theorem aJz(X:Nat→Nat→Prop):Mut X aH.empty jO=X:=by
 funext b i;apply propext;constructor
 ·
  rintro (h|⟨_,_,h,_⟩)
  · exact h
  · cases h
 · exact .inl
theorem Sim.start(w:World)(X:Nat→Nat→Prop)(hX:XL X w):Sim X w w aH.empty jO:=
 ⟨Below.refl _ _,hX,fun _=>rfl,fun _ _ _ _ h=>by cases h⟩
theorem aTc{w:World}{X:Nat→Nat→Prop}{vs:Array Value}{args:List AV}{n:Nat}(hX:XL X w)(hv:RVs w X jO vs args):
 Real ⟨X,w,w,X,jO,B0,fun _ _=>rfl⟩ ⟨args.length+(n-args.length),aIb args,aH.empty⟩ { tmps:=vs++Array.replicate (n-vs.size) undef,defers:=[] } w:=by
 refine ⟨rfl,jO,Sim.start w X hX,?_,?_⟩
 · show FR w (Mut X aH.empty jO) jO _ _ _;rw [aJz];exact FR.start n hv
 · show fQ w X jO w (Mut X aH.empty jO) jO;rw [aJz];exact fQ.refl _ _ _
theorem cE.of_body{f:FuncId}{fn:Func}{c:Code}{args:List AV}{r:AV}(hf:P.funcs[f]? =some fn)(hb:fn.body=some c)
 (h:AWp P B0 c (fun e s=>(e= .normal∨e= .ret)∧ ∃r',yS P fn s=some r'∧ToD false s.H r' r) ⟨args.length+(fn.ntmps-args.length),aIb args,aH.empty⟩):
 cE P f args r:=by
 intro w X vs hX hv;refine calls_of_wp hf hb (wp_mono (h _ _ _ rfl (aTc hX hv)) ?_);rintro e a' w' ⟨s',hr',he,r',hres,hd⟩;obtain ⟨O',v,h1,_,h3,h4⟩:=aL9 hr' hres
 have fin: ∃v',Ending.returned v= .returned v'∧RV w' X jO v' r∧Below w.heap.size w w':=by
  refine ⟨v,rfl,?_,h1.below⟩;exact hd.sound h1 (fun b i _ hm hx=>hm (.inl hx)) (fun _ id o i ho hx=>by have h7:w.heap.size≤o.b:=(h1.live_lt ho).1;have:=hX.lt _ _ hx;omega) h4
 rcases he with rfl|rfl
 · exact ⟨hr'.defers,v,h3,fin⟩
 · exact ⟨hr'.defers,v,h3,fin⟩
def aH.lockIds(H:aH)(ids:List Nat):aH:=
  ⟨fun j=>if j∈ids then (match H.ent j with| .cells sz xs _=> .cells sz xs xs.length|e=>e) else H.ent j,H.nxt⟩
theorem aIz(H:aH)(ids:List Nat)(j:Nat):(H.lockIds ids).ent j=H.ent j∨ ∃sz xs l,H.ent j= .cells sz xs l∧(H.lockIds ids).ent j= .cells sz xs xs.length:=by
 simp only [aH.lockIds];split
 ·
  cases he:H.ent j with
  |cells sz xs l=>exact .inr ⟨sz,xs,l,rfl,rfl⟩
  |fresh=>exact .inl rfl
  |dead=>exact .inl rfl
  |iter s p=>exact .inl rfl
  |hid sz I=>exact .inl rfl
 · exact .inl rfl
theorem Sim.lockIds{X:Nat→Nat→Prop}{w0 w:World}{H:aH}{O:Nat→OSt}(hs:Sim X w0 w H O)(ids:List Nat):
 Sim X w0 w (H.lockIds ids) O∧fQ w (Mut X H O) O w (Mut X (H.lockIds ids) O) O:=by
 have hlk: ∀sz xs l id,H.ent id= .cells sz xs l→l≤xs.length:=by
  intro sz xs l id he;have h0:=hs.ent id;rw [he] at h0;rcases h0 with ⟨_,rfl,rfl⟩|⟨o,_,_,h3,_⟩
  · exact Nat.zero_le _
  · exact h3
 have hm: ∀b i,Mut X (H.lockIds ids) O b i→Mut X H O b i:=by
  rintro b i (h|⟨id,o,ho,hb,hi⟩)
  · exact .inl h
  ·
   refine .inr ⟨id,o,ho,hb,?_⟩;rcases aIz H ids id with h|⟨sz,xs,l,h1,h2⟩
   · rw [h] at hi;exact hi
   · rw [h2] at hi;rw [h1];have:=hlk _ _ _ _ h1;simp only [Ent.lock] at hi⊢;omega
 have ht:fQ w (Mut X H O) O w (Mut X (H.lockIds ids) O) O:=⟨fun b i v hc h=>⟨hc,fun h'=>h (hm b i h')⟩,fun _ h=>h,fun _ h=> .inl h,fun _ _ h=> .inl h⟩
 refine ⟨⟨hs.below,hs.xlt,fun id=>?_,hs.inj⟩,ht⟩;have h0:=hs.ent id;rcases aIz H ids id with h|⟨sz,xs,l,h1,h2⟩
 · rw [h];exact h0.mono ht rfl (fun _ _=>rfl)
 ·
  rw [h1] at h0;rw [h2];rcases h0 with ⟨k1,k2,k3⟩|⟨o,k1,k2,k3,k4,k5,c,elem,fr,k6,k7,k8,k9⟩
  · exact .inl ⟨k1,k2,by rw [k2];rfl⟩
  · exact .inr ⟨o,k1,k2,Nat.le_refl _,k4,k5,c,elem,fr,k6,k7,k8,fun k a hk=>(k9 k a hk).mono ht⟩
inductive oR(lk:Bool)(H:aH):List AV→List AV→Prop where
  |nil:oR lk H [] []
  |cons {a b:AV} {xs ys:List AV} (h:ToD lk H a b) (h':oR lk H xs ys):oR lk H (a::xs) (b::ys)
theorem oR.length_eq{lk:Bool}{H:aH}{xs ys:List AV}(h:oR lk H xs ys):xs.length=ys.length:=by
 induction h with
 |nil=>rfl
 |cons _ _ ih=>simp [ih]
theorem oR.get{lk:Bool}{H:aH}{xs ys:List AV}(h:oR lk H xs ys): ∀(k:Nat) (b:AV),ys[k]? =some b→ ∃a,xs[k]? =some a∧ToD lk H a b:=by
 induction h with
 |nil=>intro k b hk;simp at hk
 |cons h _ ih=>
  intro k b hk
  cases k with
  |zero=>simp at hk;subst hk;exact ⟨_,rfl,h⟩
  |succ k=>simp at hk;simpa using ih k b hk
theorem oR.data{lk:Bool}{H:aH} : ∀(xs:List AV),(∀a,a∈xs→Data a)→oR lk H xs xs
 |[],_=> .nil
 |a::xs,h=> .cons (.data a (h a (by simp))) (oR.data xs fun b hb=>h b (by simp [hb]))
theorem oR.sound{lk:Bool}{X:Nat→Nat→Prop}{w0 w:World}{H:aH}{O:Nat→OSt}(hs:Sim X w0 w H O){M':Nat→Nat→Prop}{O':Nat→OSt}
 (hM: ∀b i,(w.cell? ⟨b,i,none⟩).isSome=true→ ¬Mut X H O b i→ ¬M' b i) (hM':lk=false→ ∀id o i,O id= .live o→ ¬M' o.b i)
 {vs:Array Value} {xs ys:List AV} (h:oR lk H xs ys) (hv:RVs w (Mut X H O) O vs xs):RVs w M' O' vs ys:=by
 refine ⟨hv.1.trans h.length_eq,fun k b hk=>?_⟩;obtain ⟨a,ha,hab⟩:=h.get k b hk;exact hab.sound hs hM hM' (hv.2 k a ha)
theorem RV.fromNone{w:World}{M:Nat→Nat→Prop}{O:Nat→OSt}{x:Value}{a:AV}(h:RV w M jO x a):RV w M O x a:=
 h.mono ⟨fun _ _ _ h1 h2=>⟨h1,h2⟩,fun _ h=>(by cases h),fun _ h=>(by cases h),fun _ _ h=>(by cases h)⟩
theorem eK.pure{g:FuncId}{args args':List AV}{r:AV}{H:aH}(ids:List Nat)(hp:cE P g args' r)(hd:oR true (H.lockIds ids) args args'):eK P g args H r (H.lockIds ids):=by
 intro X w0 w O vs hs hv;obtain ⟨hs1,ht1⟩:=hs.lockIds ids;have hvs:RVs w (Mut X (H.lockIds ids) O) jO vs args':=hd.sound hs1 (fun _ _ _ h=>h) (fun h=>by cases h) (hv.mono ht1);refine (hp w (Mut X (H.lockIds ids) O) vs hs1.mut_lt hvs).mono ?_;rintro e w' ⟨v,rfl,h1,h2⟩;obtain ⟨hs2,ht2⟩:=hs1.grow h2;exact ⟨v,O,rfl,hs2,ht1.trans ht2,h1.fromNone⟩
def bLu(r:AV):Prop:=(∃x,r= .v x)∨ ∃xs:List Value,r= .tup (xs.map .v)
theorem RV.scal{w w':World}{M M':Nat→Nat→Prop}{O O':Nat→OSt}{x:Value}{r:AV}(h:RV w M O x r)(hs:bLu r):RV w' M' O' x r:=by
 rcases hs with ⟨y,rfl⟩|⟨xs,rfl⟩
 · rw [h.v_inv];exact .v y
 ·
  cases h with
  |tup cs _ hl hx=>
   refine .tup cs _ hl fun k a hk=>?_;have:=hx k a hk;simp only [List.getElem?_map,Option.map_eq_some_iff] at hk;obtain ⟨y,_,rfl⟩:=hk;rw [this.v_inv];exact .v y
theorem eK.borrow{g:FuncId}{args args':List AV}{r:AV}{H:aH}(hp:cE P g args' r)(hr:bLu r)(hd:oR false H args args'):eK P g args H r H:=by
 intro X w0 w O vs hs hv;have hvs:RVs w X jO vs args':=hd.sound hs (fun b i _ hm hx=>hm (.inl hx)) (fun _ id o i ho hx=>by have h7:=(hs.live_lt ho).1;have:=hs.xlt.lt _ _ hx;omega) hv;refine (hp w X vs hs.xl hvs).mono ?_;rintro e w' ⟨v,rfl,h1,h2⟩;obtain ⟨hs2,ht2⟩:=hs.grow h2;exact ⟨v,O,rfl,hs2,ht2,h1.scal hr⟩
theorem eK.plain{g:FuncId}{args:List AV}{r:AV}{H:aH}(hp:cE P g args r)(hd: ∀a,a∈args→Data a):eK P g args H r H:=by
 have h:=eK.pure (H:=H) [] hp (oR.data args hd);have e:H.lockIds []=H:=by simp [aH.lockIds]
 rw [e] at h;exact h
theorem fP.of_body{f:FuncId}{fn:Func}{c:Code}{args:List AV}{sz len:Nat}{xs:List AV}(hf:P.funcs[f]? =some fn)(hb:fn.body=some c)(hx: ∀a,a∈xs→Data a)
 (h:AWp P B0 c (fun e s=>(e= .normal∨e= .ret)∧ ∃id,yS P fn s=some (.own id 0 len)∧s.H.ent id= .cells sz xs 0) ⟨args.length+(fn.ntmps-args.length),aIb args,aH.empty⟩):
 fP P f args sz xs len:=by
 intro w X vs hX hv;refine calls_of_wp hf hb (wp_mono (h _ _ _ rfl (aTc hX hv)) ?_);rintro e a' w' ⟨s',hr',he,id,hres,hent⟩;obtain ⟨O',v,h1,_,h3,h4⟩:=aL9 hr' hres
 have fin: ∃v' O'',Ending.returned v= .returned v'∧Sim X w w' (aH.one (.cells sz xs 0)) O''∧RV w' (Mut X (aH.one (.cells sz xs 0)) O'') O'' v' (.own 0 0 len):=by
  have h0:=h1.ent id;rw [hent] at h0
  let O'':Nat→OSt:=fun j=>if j=0 then O' id else .fresh
  have hm: ∀b i,Mut X (aH.one (.cells sz xs 0)) O'' b i→Mut X s'.H O' b i:=by
   rintro b i (hx|⟨j,o,hj,hb,hi⟩)
   · exact .inl hx
   ·
    by_cases hj0:j=0
    ·
     subst hj0;simp only [O'',if_true] at hj;refine .inr ⟨id,o,hj,hb,?_⟩;rw [hent]
     simpa [aH.one,aH.put,upd,Ent.lock] using hi
    · simp only [O'',hj0,if_false] at hj;cases hj
  have hdata: ∀ {x:Value} {a:AV},a∈xs→RV w' (Mut X s'.H O') O' x a→RV w' (Mut X (aH.one (.cells sz xs 0)) O'') O'' x a:=
   fun ha h=>h.data (hx _ ha) (fun b i _ hn hm'=>hn (hm b i hm'))
  refine ⟨v,O'',rfl,⟨h1.below,hX,fun j=>?_,fun i j o o' hi hj hbb=>?_⟩,?_⟩
  ·
   by_cases hj0:j=0
   ·
    subst hj0;simp only [aH.one,aH.put,upd_same];rcases h0 with ⟨k1,k2,k3⟩|⟨o,k1,k2,k3,k4,k5,c,elem,fr,k6,k7,k8,k9⟩
    · exact .inl ⟨by simp only [O'',if_true];exact k1,k2,k3⟩
    · exact .inr ⟨o,by simp only [O'',if_true];exact k1,k2,k3,k4,k5,c,elem,fr,k6,k7,k8,fun k a hk=>hdata (mem_of_getElem? hk) (k9 k a hk)⟩
   · simp only [aH.one,aH.put,upd_ne _ _ _ _ hj0,aH.empty];show O'' j= .fresh;simp only [O'',hj0,if_false]
  ·
   have z: ∀k o,O'' k= .live o→k=0:=by
    intro k o hk
    by_cases hk0:k=0
    · exact hk0
    · simp only [O'',hk0,if_false] at hk;cases hk
   rw [z i o hi,z j o' hj]
  ·
   have e0:O'' 0=O' id:=by simp only [O'',if_true]
   cases h4 with
   |owndead _ _ _ _ hd _=>exact absurd hd (h1.notDead hent)
   |ownvirt a _ _ hvv=>exact .ownvirt a 0 0 (e0.trans hvv)
   |ownz a _ _ o ho=>exact .ownz a 0 0 o (e0.trans ho)
   |own _ _ _ cap o ho hlc hfit=>exact .own 0 0 len cap o (e0.trans ho) hlc hfit
 rcases he with rfl|rfl
 · exact ⟨hr'.defers,v,h3,fin⟩
 · exact ⟨hr'.defers,v,h3,fin⟩
theorem eK.fresh{g:FuncId}{args args':List AV}{sz len id:Nat}{xs:List AV}{H:aH}(ids:List Nat)(hp:fP P g args' sz xs len)(hd:oR true (H.lockIds ids) args args')
 (hx: ∀a,a∈xs→Data a) (hf:H.isFresh id=true):eK P g args H (.own id 0 len) ((H.lockIds ids).put id (.cells sz xs 0)):=by
 intro X w0 w O vs hs hv;obtain ⟨hs1,ht1⟩:=hs.lockIds ids
 have hfr:(H.lockIds ids).ent id= .fresh:=by
  have:=aH.isFresh_eq hf;rcases aIz H ids id with h|⟨_,_,_,h,_⟩
  · rw [h];exact this
  · rw [this] at h;cases h
 have hO:=hs1.fresh hfr;have hvs:RVs w (Mut X (H.lockIds ids) O) jO vs args':=hd.sound hs1 (fun _ _ _ h=>h) (fun h=>by cases h) (hv.mono ht1);refine (hp w (Mut X (H.lockIds ids) O) vs hs1.mut_lt hvs).mono ?_;rintro e w' ⟨v,O'',rfl,h1,h2⟩;have hbel:Below w.heap.size w w':=h1.below;have h0:=h1.ent 0;simp only [aH.one,aH.put,upd_same] at h0;have hblk: ∀o,O'' 0= .live o→w.heap.size≤o.b:=fun o ho=>(h1.live_lt ho).1
 have ht:fQ w (Mut X (H.lockIds ids) O) O w' (Mut X ((H.lockIds ids).put id (.cells sz xs 0)) (oP O id (O'' 0))) (oP O id (O'' 0)):=by
  refine ⟨fun b i v hc hm=>?_,fun j hd=>?_,fun j hv=>?_,fun j o hl=>?_⟩
  ·
   have hlt:=block_lt_of_cell hc;refine ⟨?_,fun hm'=>?_⟩
   · rw [World.cell?_of_block (w:=w) (w':=w') (hbel.block b hlt)];exact hc
   ·
    rcases uC hm' with ⟨o,k1,k2,_⟩|h
    · have:=hblk o k1;simp only at hlt;omega
    · exact hm h
  ·
   have:j≠id:=fun e=>by rw [e,hO] at hd;cases hd
   rw [fF _ _ _ _ this];exact hd
  ·
   have:j≠id:=fun e=>by rw [e,hO] at hv;cases hv
   rw [fF _ _ _ _ this];exact .inl hv
  ·
   have:j≠id:=fun e=>by rw [e,hO] at hl;cases hl
   rw [fF _ _ _ _ this];exact .inl hl
 have hdat: ∀ {x:Value} {a:AV},a∈xs→RV w' (Mut (Mut X (H.lockIds ids) O) (aH.one (.cells sz xs 0)) O'') O'' x a→
  RV w' (Mut X ((H.lockIds ids).put id (.cells sz xs 0)) (oP O id (O'' 0))) (oP O id (O'' 0)) x a:=by
  intro x a ha h;refine h.data (hx a ha) (fun b i _ hn hm'=>hn ?_);rcases uC hm' with ⟨o,k1,k2,k3⟩|h
  · exact .inr ⟨0,o,k1,k2,by simpa [aH.one,aH.put,upd] using k3⟩
  · exact .inl h
 have hs2:=hs1.update (w':=w') id (.cells sz xs 0) (O'' 0) (hs1.below.trans (hbel.mono hs1.below.size)) ht
  (fun j o _ hl=>hbel.block _ (hs1.live_lt hl).2)
  (by
   rcases h0 with ⟨k1,k2,k3⟩|⟨o,k1,k2,k3,k4,k5,c,elem,fr,k6,k7,k8,k9⟩
   · exact .inl ⟨(dL _ _ _).trans k1,k2,k3⟩
   · exact .inr ⟨o,(dL _ _ _).trans k1,k2,k3,by have:=hs1.below.size;omega,k5,c,elem,fr,k6,k7,k8,fun k a hk=>hdat (mem_of_getElem? hk) (k9 k a hk)⟩)
  (fun o ho j o' _ hl=>by have:=hblk o ho;have:=(hs1.live_lt hl).2;omega)
 refine ⟨v,_,rfl,hs2,ht1.trans ht,?_⟩
 cases h2 with
 |owndead _ _ _ _ hd _=>exact absurd hd (h1.notDead (id:=0) (sz:=sz) (xs:=xs) (lock:=0) (by simp [aH.one,aH.put,upd]))
 |ownvirt a _ _ hvv=>exact .ownvirt a id 0 ((dL _ _ _).trans hvv)
 |ownz a _ _ o ho=>exact .ownz a id 0 o ((dL _ _ _).trans ho)
 |own _ _ _ cap o ho hlc hfit=>exact .own id 0 len cap o ((dL _ _ _).trans ho) hlc hfit
end
section
open Go.RowKit
variable {P:Program}{B:Nat→Prop}
inductive Wk(H':aH)(ren:Nat→Nat):AV→AV→Prop where
  |any (a:AV):Wk H' ren .any a
  |data (a:AV) (h:Data a):Wk H' ren a a
  |own (id off len:Nat) (h:H'.ent id≠ .fresh):Wk H' ren (.own id off len) (.own (ren id) off len)
  |adr (id off:Nat) (h:H'.ent id≠ .fresh):Wk H' ren (.adr id off) (.adr (ren id) off)
  |agg (xs ys:List AV) (hl:xs.length=ys.length) (h: ∀(k:Nat) (a b:AV),xs[k]? =some a→ys[k]? =some b→Wk H' ren a b):Wk H' ren (.agg xs) (.agg ys)
  |tup (xs ys:List AV) (hl:xs.length=ys.length) (h: ∀(k:Nat) (a b:AV),xs[k]? =some a→ys[k]? =some b→Wk H' ren a b):Wk H' ren (.tup xs) (.tup ys)
  |ifc (t:TypeId) (a b:AV) (h:Wk H' ren a b):Wk H' ren (.ifc t a) (.ifc t b)
  |nil (f:Bool):Wk H' ren (.sl [] 0 f) (.v (.slice none 0 0))
  |niz (id off sz:Nat) (xs:List AV) (l:Nat) (h:H'.ent id= .cells sz xs l):Wk H' ren (.own id off 0) (.v (.slice none 0 0))
def Ent.live:Ent→Bool
  | .cells .. | .iter .. | .hid .. =>true
  |_=>false
def lX(H H':aH)(ren:Nat→Nat)(id:Nat):Ent→Prop
  | .fresh| .dead=>True
  | .cells sz xs' l'=>(xs'=[]∧l'=0∧H.ent (ren id)= .fresh)∨ ∃xs l,H.ent (ren id)= .cells sz xs l∧l≤l'∧l'≤xs'.length∧xs'.length≤xs.length∧ ∀(k:Nat) (a':AV),xs'[k]? =some a'→ ∃a,xs[k]? =some a∧Wk H' ren a' a
  | .iter s p=>H.ent (ren id)= .iter s p
  | .hid sz I=>H.ent (ren id)= .hid sz I
structure aAc(B:Nat→Prop)(H H':aH)(ren:Nat→Nat):Prop where
  ent: ∀id,lX H H' ren id (H'.ent id)
  inj: ∀i j,(H'.ent i).live=true→(H'.ent j).live=true→ren i=ren j→i=j
  old: ∀id,B id→ren id=id∧(H'.ent id= .fresh→H.ent id= .fresh)
def vO:OSt→OSt
  | .fresh=> .virt
  |o=>o
theorem bW4{o:OSt}(h:o≠ .fresh):vO o=o:=by cases o<;>first|rfl|exact absurd rfl h
def aBn(O:Nat→OSt)(H':aH)(ren:Nat→Nat):Nat→OSt:=fun id=>
  match H'.ent id with
  | .fresh=> .fresh
  | .dead=> .dead
  | .cells _ _ _=>vO (O (ren id))
  |_=>O (ren id)
theorem Wk.sound{X:Nat→Nat→Prop}{w0 w:World}{H H':aH}{O:Nat→OSt}(_hs:Sim X w0 w H O){ren:Nat→Nat}(_hw: ∀id,lX H H' ren id (H'.ent id))
 {M':Nat→Nat→Prop} (hM: ∀b i,M' b i→Mut X H O b i) {a b:AV} (h:Wk H' ren a b): ∀ {x:Value},RV w (Mut X H O) O x b→RV w M' (aBn O H' ren) x a:=by
 have live: ∀id,H'.ent id≠ .fresh→H'.ent id= .dead∨(O (ren id)≠ .fresh→aBn O H' ren id=O (ren id)):=by
  intro id hne;unfold aBn
  cases he:H'.ent id with
  |fresh=>exact absurd he hne
  |dead=>exact .inl rfl
  |cells _ _ _=>exact .inr fun h=>bW4 h
  |iter _ _=>exact .inr fun _=>rfl
  |hid _ _=>exact .inr fun _=>rfl
 have dead: ∀id,H'.ent id= .dead→aBn O H' ren id= .dead:=by
  intro id he;unfold aBn;rw [he]
 induction h with
 |any a=>intro x _;exact .any x
 |data a h=>intro x hx;exact hx.data h (fun b i _ hn hm=>hn (hM b i hm))
 |own id off len hne=>
  intro x hx;rcases live id hne with h1|h1
  · exact .owndead _ id off len (dead id h1) (hx.one rfl)
  ·
   cases hx with
   |owndead _ _ _ _ hd h2=>exact .owndead _ id off len ((h1 (by rw [hd];simp)).trans hd) h2
   |ownvirt a _ _ hv=>exact .ownvirt a id off ((h1 (by rw [hv];simp)).trans hv)
   |ownz a _ _ o ho=>exact .ownz a id off o ((h1 (by rw [ho];simp)).trans ho)
   |own _ _ _ cap o ho hl hf=>exact .own id off len cap o ((h1 (by rw [ho];simp)).trans ho) hl hf
 |nil f=>
  intro x hx
  cases hx with
  |v _=>exact .slnil none f
 |niz id off sz xs l he=>
  intro x hx;have e:aBn O H' ren id=vO (O (ren id)):=by unfold aBn;rw [he]
  cases hx with
  |v _=>
   cases h0:O (ren id) with
   |fresh=>exact .ownvirt none id off (by rw [e,h0];rfl)
   |dead=>exact .owndead _ id off 0 (by rw [e,h0];rfl) rfl
   |virt=>exact .ownvirt none id off (by rw [e,h0];rfl)
   |live o=>exact .ownz none id off o (by rw [e,h0];rfl)
 |adr id off hne=>
  intro x hx;rcases live id hne with h1|h1
  · exact .adrdead _ id off (dead id h1) (hx.one rfl)
  ·
   cases hx with
   |adrdead _ _ _ hd h2=>exact .adrdead _ id off ((h1 (by rw [hd];simp)).trans hd) h2
   |adr _ _ o ho=>exact .adr id off o ((h1 (by rw [ho];simp)).trans ho)
 |agg xs ys hl _ ih=>
  intro x hx
  cases hx with
  |agg cs _ hcl hx=>
   refine .agg cs xs (hcl.trans hl.symm) (fun k a hk=>?_)
   have hlt:k<ys.length:=by
    rw [←hl];rcases Nat.lt_or_ge k xs.length with h|h
    · exact h
    · rw [List.getElem?_eq_none h] at hk;cases hk
   have e:ys[k]? =some ys[k]:=List.getElem?_eq_getElem hlt;exact ih k a _ hk e (hx _ _ e)
 |tup xs ys hl _ ih=>
  intro x hx
  cases hx with
  |tup cs _ hcl hx=>
   refine .tup cs xs (hcl.trans hl.symm) (fun k a hk=>?_)
   have hlt:k<ys.length:=by
    rw [←hl];rcases Nat.lt_or_ge k xs.length with h|h
    · exact h
    · rw [List.getElem?_eq_none h] at hk;cases hk
   have e:ys[k]? =some ys[k]:=List.getElem?_eq_getElem hlt;exact ih k a _ hk e (hx _ _ e)
 |ifc t a b _ ih=>
  intro x hx
  cases hx with
  |ifc _ y _ h=>exact .ifc t y a (ih h)
theorem Sim.weak{X:Nat→Nat→Prop}{w0 w:World}{H H':aH}{O:Nat→OSt}(hs:Sim X w0 w H O){ren:Nat→Nat}(hw:aAc B H H' ren):
 Sim X w0 w H' (aBn O H' ren)∧ ∀b i,Mut X H' (aBn O H' ren) b i→Mut X H O b i:=by
 have hm: ∀b i,Mut X H' (aBn O H' ren) b i→Mut X H O b i:=by
  rintro b i (h|⟨id,o,ho,hb,hi⟩)
  · exact .inl h
  ·
   have h1:=hw.ent id;unfold aBn at ho
   cases he:H'.ent id with
   |fresh=>rw [he] at ho;cases ho
   |dead=>rw [he] at ho;cases ho
   |cells sz xs l=>
    rw [he] at ho h1 hi;rcases h1 with ⟨_,_,h1⟩|⟨xs0,l0,h2,h3,_⟩
    · simp only [hs.fresh h1,vO] at ho;cases ho
    have ho:O (ren id)= .live o:=by
     cases h0:O (ren id) with
     |live o'=>simpa [h0,vO] using ho
     |_=>simp [h0,vO] at ho
    refine .inr ⟨ren id,o,ho,hb,?_⟩;rw [h2];simp only [Ent.lock] at hi⊢;omega
   |iter s p=>
    rw [he] at ho h1 hi;refine .inr ⟨ren id,o,ho,hb,?_⟩;rw [h1];exact hi
   |hid sz I=>
    rw [he] at ho h1 hi;refine .inr ⟨ren id,o,ho,hb,?_⟩;rw [h1];exact hi
 refine ⟨⟨hs.below,hs.xlt,fun id=>?_,fun i j o o' hi hj hbb=>?_⟩,hm⟩
 ·
  have h1:=hw.ent id
  cases he:H'.ent id with
  |fresh=>show aBn O H' ren id= .fresh;unfold aBn;rw [he]
  |dead=>show aBn O H' ren id= .dead;unfold aBn;rw [he]
  |cells sz xs' l'=>
   rw [he] at h1;have e:aBn O H' ren id=vO (O (ren id)):=by unfold aBn;rw [he]
   rcases h1 with ⟨rfl,rfl,h1⟩|⟨xs,l,h2,h3,h4,h5,h6⟩
   · exact .inl ⟨by rw [e,hs.fresh h1];rfl,rfl,rfl⟩
   have h0:=hs.ent (ren id);rw [h2] at h0;rcases h0 with ⟨k1,k2,k3⟩|⟨o,k1,k2,k3,k4,k5,c,elem,fr,k6,k7,k8,k9⟩
   · subst k2;have:xs'=[]:=List.eq_nil_of_length_eq_zero (by simpa using h5);subst this;exact .inl ⟨by rw [e,k1];rfl,rfl,by simpa using h4⟩
   · refine .inr ⟨o,by rw [e,k1];rfl,k2,h4,k4,by omega,c,elem,fr,k6,k7,k8,fun k a hk=>?_⟩;obtain ⟨a0,h7,h8⟩:=h6 k a hk;exact h8.sound hs hw.ent hm (k9 k a0 h7)
  |iter s p=>
   rw [he] at h1;have e:aBn O H' ren id=O (ren id):=by unfold aBn;rw [he]
   have h0:=hs.ent (ren id);rw [h1] at h0;obtain ⟨o,k1,k2,k3,k4⟩:=h0;exact ⟨o,e.trans k1,k2,k3,k4⟩
  |hid sz I=>
   rw [he] at h1;have e:aBn O H' ren id=O (ren id):=by unfold aBn;rw [he]
   have h0:=hs.ent (ren id);rw [h1] at h0;obtain ⟨xs,hI,h0⟩:=h0;refine ⟨xs,hI,?_⟩;rcases h0 with ⟨k1,k2⟩|⟨o,k1,k2,k4,k5,c,elem,fr,k6,k7,k8,k9⟩
   · exact .inl ⟨e.trans k1,k2⟩
   · exact .inr ⟨o,e.trans k1,k2,k4,k5,c,elem,fr,k6,k7,k8,fun k a hk=>(k9 k a hk).mono ⟨fun b i v hc hn=>⟨hc,fun h=>hn (hm b i h)⟩,fun _ h=>h,fun _ h=> .inl h,fun _ _ h=> .inl h⟩⟩
 ·
  have lv: ∀i o,aBn O H' ren i= .live o→(H'.ent i).live=true∧O (ren i)= .live o:=by
   intro i o h;unfold aBn at h
   cases he:H'.ent i with
   |fresh=>rw [he] at h;cases h
   |dead=>rw [he] at h;cases h
   |cells _ _ _=>
    rw [he] at h;refine ⟨rfl,?_⟩
    cases h0:O (ren i) with
    |live o'=>simpa [h0,vO] using h
    |_=>simp [h0,vO] at h
   |iter _ _=>rw [he] at h;exact ⟨rfl,h⟩
   |hid _ _=>rw [he] at h;exact ⟨rfl,h⟩
  obtain ⟨a1,a2⟩:=lv i o hi;obtain ⟨b1,b2⟩:=lv j o' hj;exact hw.inj i j a1 b1 (hs.inj _ _ _ _ a2 b2 hbb)
theorem St.Le.weak{s s':St}(ren:Nat→Nat)(hw:aAc B s.H s'.H ren)(hl:s'.n=s.n)
 (hts: ∀k,Wk s'.H ren (s'.f k) (s.f k)):s.Le B s':=by
 intro C a w hb hr;obtain ⟨hd,O,hs,hv,ht⟩:=hr;obtain ⟨h1,hm⟩:=hs.weak hw;refine ⟨hd,_,h1,⟨hv.1.trans hl.symm,fun k=>(hts k).sound hs hw.ent hm (hv.2 k)⟩,?_⟩
 ·
  have low: ∀id,C.OS id≠ .fresh→B id:=fun id hne=>by
   refine Classical.byContradiction fun h=>?_;have hb':C.bd=B:=hb;exact hne (C.fr id (by rw [hb'];exact h))
  have now: ∀id,B id→O id≠ .fresh→aBn O s'.H ren id= .dead∨aBn O s'.H ren id=O id:=by
   intro id hid hne;obtain ⟨h2,h3⟩:=hw.old id hid;unfold aBn
   cases he:s'.H.ent id with
   |fresh=>exact absurd (hs.fresh (h3 he)) hne
   |dead=>exact .inl rfl
   |cells _ _ _=>right;simp only [h2];exact bW4 hne
   |iter _ _=>right;simp only [h2]
   |hid _ _=>right;simp only [h2]
  refine ⟨fun b i v hc hn=>?_,fun id hdd=>?_,fun id hvv=>?_,fun id o hll=>?_⟩
  · obtain ⟨h2,h3⟩:=ht.cell b i v hc hn;exact ⟨h2,fun h=>h3 (hm b i h)⟩
  ·
   have h2:=ht.dead id hdd;rcases now id (low id (by rw [hdd];simp)) (by rw [h2];simp) with h|h
   · exact h
   · rw [h];exact h2
  ·
   rcases ht.virt id hvv with h2|h2
   ·
    rcases now id (low id (by rw [hvv];simp)) (by rw [h2];simp) with h|h
    · exact .inr h
    · rw [h];exact .inl h2
   ·
    rcases now id (low id (by rw [hvv];simp)) (by rw [h2];simp) with h|h
    · exact .inr h
    · rw [h];exact .inr h2
  ·
   rcases ht.live id o hll with h2|h2
   ·
    rcases now id (low id (by rw [hll];simp)) (by rw [h2];simp) with h|h
    · exact .inr h
    · rw [h];exact .inl h2
   ·
    rcases now id (low id (by rw [hll];simp)) (by rw [h2];simp) with h|h
    · exact .inr h
    · rw [h];exact .inr h2
theorem St.Le.lock{s:St}(ids:List Nat):s.Le B ⟨s.n,s.f,s.H.lockIds ids⟩:=by
 intro C a w _ hr;obtain ⟨hd,O,hs,hv,ht⟩:=hr;obtain ⟨h1,h2⟩:=hs.lockIds ids;exact ⟨hd,O,h1,hv.mono h2,ht.trans h2⟩
theorem St.Le.trans{s s' s'':St}(h:s.Le B s')(h':s'.Le B s''):s.Le B s'':=fun C a w hb hr=>h' C a w hb (h C a w hb hr)
theorem St.Le.slot{s:St}(k:Nat)(b:AV)(h:ToD true s.H (s.f k) b):s.Le B ⟨s.n,aF s.f k b,s.H⟩:=by
 intro C ac w _ hr;obtain ⟨hd,O,hs,hv,ht⟩:=hr;refine ⟨hd,O,hs,⟨hv.1,fun j=>?_⟩,ht⟩
 by_cases hj:j=k
 ·
  subst hj;have:aF s.f j b j=b:=by simp [aF]
  show RV w (Mut C.X s.H O) O (ac.tmps.getD j undef) (aF s.f j b j);rw [this];exact (h.sound hs (fun _ _ _ h=>h) (fun h=>by cases h) (hv.2 j))
 ·
  have:aF s.f k b j=s.f j:=by simp [aF,hj]
  show RV w (Mut C.X s.H O) O (ac.tmps.getD j undef) (aF s.f k b j);rw [this];exact hv.2 j
theorem St.Le.nil{s:St}(k id sz:Nat)(hk:s.f k= .v (.slice none 0 0))(hf:s.H.isFresh id=true):s.Le B ⟨s.n,aF s.f k (.own id 0 0),s.H.put id (.cells sz [] 0)⟩:=by
 intro C ac w _ hr;obtain ⟨hd,O,hs,hv,ht⟩:=hr;obtain ⟨O',h1,h2,h3⟩:=hs.virt id sz (aH.isFresh_eq hf);refine ⟨hd,O',h1,⟨hv.1,fun j=>?_⟩,ht.trans h2⟩
 by_cases hj:j=k
 ·
  subst hj;have:aF s.f j (.own id 0 0) j= .own id 0 0:=by simp [aF]
  show RV w _ O' (ac.tmps.getD j undef) (aF s.f j (.own id 0 0) j);rw [this];have:=hv.2 j;rw [hk] at this;rw [this.v_inv];exact .ownvirt none id 0 h3
 ·
  have:aF s.f k (.own id 0 0) j=s.f j:=by simp [aF,hj]
  show RV w _ O' (ac.tmps.getD j undef) (aF s.f k (.own id 0 0) j);rw [this];exact (hv.2 j).mono h2
theorem St.Le.nxt{n N M:Nat}{f:Nat→AV}{e:Nat→Ent} :(⟨n,f,⟨e,N⟩⟩:St).Le B ⟨n,f,⟨e,M⟩⟩:=fun _ _ _ _ hr=>hr.nxt M
end
section
open Go.RowKit
variable {P:Program}{B:Nat→Prop}
def gd(b:Bool)(r:AV):AV:=if b then r else .v undef
theorem bS3(r:AV):gd true r=r:=rfl
theorem bNx(r:AV):gd false r= .v undef:=rfl
theorem bWx(want b:Bool):aEg want (.v (.bool b))=some (b==want):=rfl
theorem bS5(want b q:Bool):aEg want (gd b (.v (.bool q)))=some (b&&(q==want)):=by cases b<;>rfl
theorem bCw(x y:AV):aPj true x y=x:=rfl
theorem aZi(x y:AV):aPj false x y=y:=rfl
theorem bHi(t p:Bool):aPj t (gd (t==true) (.v (.bool p))) (.v (.bool false))= .v (.bool (t&&p)):=by cases t<;>rfl
theorem bMc(t p:Bool):aPj t (.v (.bool true)) (gd (t==false) (.v (.bool p)))= .v (.bool (t||p)):=by cases t<;>rfl
theorem bMd(t p q:Bool):aPj t (.v (.bool p)) (.v (.bool q))= .v (.bool (bif t then p else q)):=by cases t<;>rfl
section
variable {strict:Bool}{ops:Array Oper}{base i:Nat}{rest:List Oper}{K:St→Prop}{n:Nat}{t:Nat→AV}{H:aH}{d:Tmp}{op:Op}{ty:TypeId}{pos:String}{after:Array Edge}{r:AV}
def xW(op:Op):Bool:=match op with| .call { callee:= .value _,.. } =>true|_=>false
theorem aAk{id:Nat}{o:Oper}{s:St}(h:bJ P s.H (aval s.f) o.op=some r):aGj P strict id o s ⟨s.n,mS s.f o.dst r,s.H⟩:=by
 unfold aGj;split
 · rename_i f args ats ho;rw [ho] at h;cases h
 · exact .inl ⟨r,h,rfl⟩
theorem aG1{id:Nat}{o:Oper}{s:St}{H':aH}(h:eZ P s.H id (aval s.f) o.op=some (r,H')):aGj P strict id o s ⟨s.n,mS s.f o.dst r,H'⟩:=by
 unfold aGj;split
 · rename_i f args ats ho;rw [ho] at h;cases h
 · exact .inr (.inl ⟨r,H',h,rfl⟩)
theorem aDi{id:Nat}{o:Oper}{s:St}(h0: ∀x,x∈o.op.operands→aRm (aval s.f x))(h:POp P o.op (aval s.f) r)(hne:xW o.op=false):aGj P strict id o s ⟨s.n,mS s.f o.dst r,s.H⟩:=by
 unfold aGj;split
 · rename_i f args ats ho;rw [ho] at hne;cases hne
 · exact .inr (.inr ⟨r,h0,h,rfl⟩)
theorem aR.nil(h:K ⟨n,t,H⟩):aR P strict ops base i [] K ⟨n,t,H⟩:=h
theorem aR.pure(hd:d<n)(h:bJ P H (aval t) op=some r)(k:aR P strict ops base (i+1) rest K ⟨n,aF t d r,H⟩):
 aR P strict ops base i (⟨some d,op,ty,pos,after,none⟩::rest) K ⟨n,t,H⟩:=
 ⟨⟨n,aF t d r,H⟩,(show dR P strict ops (base+i) ⟨some d,op,ty,pos,after,none⟩ ⟨n,t,H⟩ ⟨n,aF t d r,H⟩ from ⟨hd,aAk (o:=⟨some d,op,ty,pos,after,none⟩) (s:=⟨n,t,H⟩) h⟩),k⟩
theorem aR.heap(hd:d<n){H':aH}{id:Nat}(hid:base+i=id)(h:eZ P H id (aval t) op=some (r,H'))(k:aR P strict ops base (i+1) rest K ⟨n,aF t d r,H'⟩):
 aR P strict ops base i (⟨some d,op,ty,pos,after,none⟩::rest) K ⟨n,t,H⟩:=by
 subst hid;exact ⟨⟨n,aF t d r,H'⟩,(show dR P strict ops (base+i) ⟨some d,op,ty,pos,after,none⟩ ⟨n,t,H⟩ ⟨n,aF t d r,H'⟩ from ⟨hd,aG1 (o:=⟨some d,op,ty,pos,after,none⟩) (s:=⟨n,t,H⟩) h⟩),k⟩
theorem aR.heap0{H':aH}{id:Nat}(hid:base+i=id)(h:eZ P H id (aval t) op=some (r,H'))(k:aR P strict ops base (i+1) rest K ⟨n,t,H'⟩):
 aR P strict ops base i (⟨none,op,ty,pos,after,none⟩::rest) K ⟨n,t,H⟩:=by
 subst hid;exact ⟨⟨n,t,H'⟩,(show dR P strict ops (base+i) ⟨none,op,ty,pos,after,none⟩ ⟨n,t,H⟩ ⟨n,t,H'⟩ from ⟨trivial,aG1 (o:=⟨none,op,ty,pos,after,none⟩) (s:=⟨n,t,H⟩) h⟩),k⟩
theorem aR.call(hd:d<n){H':aH}{f:Operand}{args:Array Operand}{ats:Array TypeId}{g:FuncId}{first cap:List AV}(hf:aval t f= .clo (.func g) first cap)
 (hb:(P.funcs[g]?).any (fun fn=>fn.body.isSome&&fn.name != "runtime.NumGoroutine")=true) (hc:eK P g (first++args.toList.map (aval t)++cap) H r H')
 (k:aR P false ops base (i+1) rest K ⟨n,aF t d r,H'⟩):
 aR P false ops base i (⟨some d,.call { callee:= .value f,args:=args,argTypes:=ats },ty,pos,after,none⟩::rest) K ⟨n,t,H⟩:=
 ⟨_,(⟨hd,g,first,cap,r,H',hf,hb,fun _ h=>(by cases h),fun h=>(by cases h),hc,rfl⟩:dR P false ops (base+i) ⟨some d,.call { callee:= .value f,args:=args,argTypes:=ats },ty,pos,after,none⟩ ⟨n,t,H⟩ ⟨n,aF t d r,H'⟩),k⟩
theorem aR.pureG(hd:d<n){j:Nat}{want b:Bool}{dj:Tmp}(hj:(ops[j]?).bind (·.dst)=some dj)(hg:aEg want (aval t (.tmp dj))=some b)(h:b=true→bJ P H (aval t) op=some r)
 (k:aR P strict ops base (i+1) rest K ⟨n,aF t d (gd b r),H⟩):aR P strict ops base i (⟨some d,op,ty,pos,after,some (j,want)⟩::rest) K ⟨n,t,H⟩:=by
 refine ⟨_,⟨hd,?_⟩,k⟩;have e:aDk ops t ⟨some d,op,ty,pos,after,some (j,want)⟩=some b:=by simp only [aDk,hj,hg]
 simp only [e]
 cases b with
 |true=>exact aAk (o:=⟨some d,op,ty,pos,after,some (j,want)⟩) (s:=⟨n,t,H⟩) (h rfl)
 |false=>rfl
theorem aR.skipG(hd:d<n){j:Nat}{want:Bool}{dj:Tmp}(hj:(ops[j]?).bind (·.dst)=some dj)(hg:aEg want (aval t (.tmp dj))=some false)
 (k:aR P strict ops base (i+1) rest K ⟨n,aF t d (.v undef),H⟩):aR P strict ops base i (⟨some d,op,ty,pos,after,some (j,want)⟩::rest) K ⟨n,t,H⟩:=by
 refine ⟨_,⟨hd,?_⟩,k⟩;have e:aDk ops t ⟨some d,op,ty,pos,after,some (j,want)⟩=some false:=by simp only [aDk,hj,hg]
 simp only [e];rfl
end
theorem bHm(f:Nat→AV)(i j:Nat)(a:AV):aval (aF f i a) (.tmp j)=bif j==i then a else aval f (.tmp j):=by
 by_cases h:j=i
 · subst h;simp [aval,aF]
 ·
  have:(j==i)=false:=by simp [h]
  simp [aval,aF,h,this]
theorem bD3(t:Nat→AV)(c:Value):aval t (.const c)=constAV c:=rfl
theorem bHn(t:Nat→AV)(f:FuncId):aval t (.func f)= .clo (.func f) [] []:=rfl
def aF8(P:Program)(B:Nat→Prop)(y:Code)(Q:Exit→St→Prop):Exit→St→Prop
  | .normal,s=>AWp P B y Q s
  |e,s=>Q e s
theorem AWp.seq'{x y:Code}{Q:Exit→St→Prop}{s:St}(h:AWp P B x (aF8 P B y Q) s):AWp P B (.seq x y) Q s:=
 AWp.seq fun _ hK=>h.mono fun e s' hq=>by
  cases e with
  |normal=>exact hK s' hq
  |_=>exact hq
theorem bQ{y:Code}{Q:Exit→St→Prop}{s:St}(h:AWp P B y Q s):aF8 P B y Q .normal s:=h
theorem jP{id:Nat}{Q:Exit→St→Prop}{s:St}(h:Q .normal s):AIn id Q .normal s:=h
theorem iA{K:St→Prop}{Q:Exit→St→Prop}{s:St}(h:K s):yP K Q .normal s:=h
theorem jC{y:Code}{Q:Exit→St→Prop}{s:St}(h:Q .ret s):aF8 P B y Q .ret s:=h
theorem sI{id:Nat}{Q:Exit→St→Prop}{s:St}(h:Q .ret s):AIn id Q .ret s:=h
theorem sJ{K:St→Prop}{Q:Exit→St→Prop}{s:St}(h:Q .ret s):yP K Q .ret s:=h
theorem kE{id:Nat}{y:Code}{Q:Exit→St→Prop}{s:St}(h:Q (.exit id) s):aF8 P B y Q (.exit id) s:=h
theorem jA{id:Nat}{K:St→Prop}{Q:Exit→St→Prop}{s:St}(h:Q (.exit id) s):yP K Q (.exit id) s:=h
theorem iS{id:Nat}{Q:Exit→St→Prop}{s:St}(h:Q .normal s):AIn id Q (.exit id) s:=by simp only [AIn,if_true];exact h
theorem aOi{id id':Nat}{Q:Exit→St→Prop}{s:St}(hne:id≠id')(h:Q (.exit id) s):AIn id' Q (.exit id) s:=by simp only [AIn,hne,if_false];exact h
theorem AWp.loopW{c:Code}{Q:Exit→St→Prop}{s:St}(I:Nat→St→Prop)(n:Nat)(h0: ∃s',s.Le B s'∧I n s')
 (round: ∀n s,I n s→AWp P B c (yP (fun s'=> ∃m s'',m<n∧s'.Le B s''∧I m s'') Q) s):AWp P B (.loop c) Q s:=by
 obtain ⟨s',hle,h0⟩:=h0;refine AWp.weaken hle ?_;refine AWp.loop (fun n s=> ∃s'',s.Le B s''∧I n s'') n ⟨s',fun _ _ _ _ h=>h,h0⟩ ?_;rintro n s ⟨s2,hle2,hI⟩;refine AWp.weaken hle2 ?_;refine (round n s2 hI).mono ?_;intro e s3 hq
 cases e with
 |normal=>
  obtain ⟨m,s4,h1,h2,h3⟩:=hq;exact ⟨m,h1,s4,h2,h3⟩
 |_=>exact hq
def KN(Q:Exit→St→Prop)(N':Nat)(s':St):Prop:=Q .normal ⟨s'.n,s'.f,⟨s'.H.ent,N'⟩⟩
theorem aR.fin{P:Program}{strict:Bool}{ops:Array Oper}{base i:Nat}{Q:Exit→St→Prop}{n N N':Nat}{t:Nat→AV}{e:Nat→Ent}(h:Q .normal ⟨n,t,⟨e,N'⟩⟩):
 aR P strict ops base i [] (KN Q N') ⟨n,t,⟨e,N⟩⟩:=h
theorem AWp.reg(m:Nat){id:Nat}{l:List Oper}{Q:Exit→St→Prop}{n N N':Nat}{f:Nat→AV}{e:Nat→Ent}(hN:N+m=N')
 (h:aR P false l.toArray N 0 l (KN Q N') ⟨n,f,⟨e,N⟩⟩):AWp P B (.region id l.toArray false) Q ⟨n,f,⟨e,N⟩⟩:=by
 subst hN;exact AWp.region m h
theorem aSx(e:Nat→Ent)(N i:Nat)(x:Ent):aH.put ⟨e,N⟩ i x=⟨upd e i x,N⟩:=rfl
theorem dM(f:Nat→Ent)(i j:Nat)(e:Ent):upd f i e j=bif j==i then e else f j:=by
 by_cases h:j=i
 · subst h;simp [upd]
 ·
  have:(j==i)=false:=by simp [h]
  simp [upd,h,this]
theorem bH{H':aH}{ren:Nat→Nat}{f g:Nat→AV}(i:Nat)(a:AV)(h:Wk H' ren a (f i))(h': ∀k,Wk H' ren (g k) (f k)): ∀k,Wk H' ren (aF g i a k) (f k):=by
 intro k
 by_cases hk:k=i
 · subst hk;simpa [aF] using h
 · simpa [aF,hk] using h' k
theorem dN{H':aH}{ren:Nat→Nat}{f:Nat→AV} : ∀k,Wk H' ren ((fun _=>AV.any) k) (f k):=fun _=> .any _
theorem lR{H':aH}{ren:Nat→Nat}{f:Nat→AV}{i:Nat}{a:AV}(h:aval f (.tmp i)=a)(hd:Data a):Wk H' ren a (f i):=by
 have h:f i=a:=h;rw [h];exact .data a hd
theorem jG{H':aH}{ren:Nat→Nat}{f:Nat→AV}{i id off len j m:Nat}(h:aval f (.tmp i)= .own j off m)(hm:m=len)(hr:ren id=j)(hn:H'.ent id≠ .fresh):Wk H' ren (.own id off len) (f i):=by
 have h:f i= .own j off m:=h;subst hm;rw [h,←hr];exact .own id off m hn
theorem kV{H':aH}{ren:Nat→Nat}{f:Nat→AV}{i id off j:Nat}(h:aval f (.tmp i)= .adr j off)(hr:ren id=j)(hn:H'.ent id≠ .fresh):Wk H' ren (.adr id off) (f i):=by
 have h:f i= .adr j off:=h;rw [h,←hr];exact .adr id off hn
def aZ:Nat→Ent:=fun _=> .fresh
theorem aXd{H:aH}{N:Nat} :aAc B0 H ⟨aZ,N⟩ id:=
 ⟨fun _=>trivial,fun _ _ h=>by simp [aZ,Ent.live] at h,fun _ h=>h.elim⟩
theorem gN{H H':aH}(ren:Nat→Nat)(he: ∀id,lX H H' ren id (H'.ent id))(hi: ∀i j,(H'.ent i).live=true→(H'.ent j).live=true→ren i=ren j→i=j):aAc B0 H H' ren:=
 ⟨he,hi,fun _ h=>h.elim⟩
theorem cG{H H':aH}{ren:Nat→Nat}{e:Nat→Ent}{i:Nat}{x:Ent}(h:lX H H' ren i x)(h': ∀id,lX H H' ren id (e id)): ∀id,lX H H' ren id (upd e i x id):=by
 intro id
 by_cases hk:id=i
 · subst hk;simpa [upd] using h
 · simpa [upd,hk] using h' id
theorem cZ{H H':aH}{ren:Nat→Nat} : ∀id,lX H H' ren id (aZ id):=fun _=>trivial
theorem oE{H H':aH}{ren:Nat→Nat}{i sz l l':Nat}{xs:List AV}(h:H.ent (ren i)= .cells sz xs l)(hl:l≤l')(hl':l'≤xs.length)(hd: ∀a,a∈xs→Data a):
 lX H H' ren i (.cells sz xs l'):=
 .inr ⟨xs,l,h,hl,hl',Nat.le_refl _,fun _ a' hk=>⟨a',hk,.data a' (hd a' (mem_of_getElem? hk))⟩⟩
theorem kX{H H':aH}{ren:Nat→Nat}{i pos:Nat}{s:ByteArray}(h:H.ent (ren i)= .iter s pos):lX H H' ren i (.iter s pos):=h
theorem zK{ren:Nat→Nat} : ∀i j,(aZ i).live=true→(aZ j).live=true→ren i=ren j→i=j:=by intro i j h;simp [aZ,Ent.live] at h
theorem zQ{p:Nat→Prop} : ∀j,(aZ j).live=true→p j:=by intro j h;simp [aZ,Ent.live] at h
theorem qR{p:Nat→Prop}{e:Nat→Ent}{a:Nat}{x:Ent}(h:p a)(h': ∀j,(e j).live=true→p j): ∀j,(upd e a x j).live=true→p j:=by
 intro j hj
 by_cases hk:j=a
 · subst hk;exact h
 · exact h' j (by simpa [upd,hk] using hj)
theorem jW{ren:Nat→Nat}{e:Nat→Ent}{a:Nat}{x:Ent}(h: ∀j,(e j).live=true→j=a∨ren a≠ren j)(h': ∀i j,(e i).live=true→(e j).live=true→ren i=ren j→i=j):
 ∀i j,(upd e a x i).live=true→(upd e a x j).live=true→ren i=ren j→i=j:=by
 intro i j hi hj hij
 by_cases hia:i=a
 ·
  by_cases hja:j=a
  · omega
  ·
   subst hia;rcases h j (by simpa [upd,hja] using hj) with h1|h1
   · exact h1.symm
   · exact absurd hij h1
 ·
  by_cases hja:j=a
  ·
   subst hja;rcases h i (by simpa [upd,hia] using hi) with h1|h1
   · exact h1
   · exact absurd hij.symm h1
  · exact h' i j (by simpa [upd,hia] using hi) (by simpa [upd,hja] using hj) hij
theorem cP{n N N':Nat}{f g:Nat→AV}{e e':Nat→Ent}(ren:Nat→Nat)(hf: ∀k,Wk ⟨e',N'⟩ ren (g k) (f k))(he:aAc B ⟨e,N⟩ ⟨e',N'⟩ ren):
 (⟨n,f,⟨e,N⟩⟩:St).Le B ⟨n,g,⟨e',N'⟩⟩:=St.Le.weak ren he rfl hf
end
section
open Go.RowKit
variable {P:Program}
theorem aEj{H H':aH}{a:AV}(h: ∀j,iW a=some j→H.ent j=H'.ent j):H.alive a=H'.alive a:=by
 cases a<;>simp only [aH.alive]
 · rw [h _ rfl]
 · rw [h _ rfl]
theorem aB6{H H':aH}{ρ ρ':Operand→AV}{op:Op}(hρ: ∀x,x∈op.operands→ρ x=ρ' x)(hH: ∀x,x∈op.operands→ ∀j,iW (ρ x)=some j→H.ent j=H'.ent j):
 bJ P H ρ op=bJ P H' ρ' op:=by
 have lst: ∀xs:Array Operand,(∀x,x∈xs→ρ x=ρ' x)→xs.toList.map ρ=xs.toList.map ρ':=fun xs h=>List.map_congr_left fun x hx=>h x (by simpa using hx)
 cases op with
 |move x=>simp only [bJ];rw [hρ x (by simp [Op.operands])]
 |assign x=>simp only [bJ];rw [hρ x (by simp [Op.operands])]
 |pick c a b=>simp only [bJ];rw [hρ c (by simp [Op.operands]),hρ a (by simp [Op.operands]),hρ b (by simp [Op.operands])]
 |load t a=>
  simp only [bJ];rw [←hρ a (by simp [Op.operands])];have h1:=hH a (by simp [Op.operands]);unfold bT;split
  · rfl
  · rename_i id off hr;rw [hr] at h1;rw [h1 id rfl]
  · rfl
 |nilCheck x=>
  simp only [bJ];rw [←hρ x (by simp [Op.operands])];have h1:=hH x (by simp [Op.operands]);split
  · rfl
  · rename_i id off hr;rw [hr] at h1;rw [aEj h1]
  · rfl
  · rfl
 |binOp op t x y yt=>simp only [bJ];rw [hρ x (by simp [Op.operands]),hρ y (by simp [Op.operands])]
 |unOp op t x=>simp only [bJ];rw [hρ x (by simp [Op.operands])]
 |convert s d x=>
  simp only [bJ];rw [←hρ x (by simp [Op.operands])];have h1:=hH x (by simp [Op.operands]);unfold mU;split<;>try rfl
  rename_i e id off len hs hd hr;rw [hr] at h1;rw [h1 id rfl]
 |makeInterface t x=>simp only [bJ];rw [hρ x (by simp [Op.operands])]
 |makeFunc fn f c=>simp only [bJ];rw [lst f (fun x hx=>hρ x (by simp [Op.operands,hx])),lst c (fun x hx=>hρ x (by simp [Op.operands,hx]))]
 |slice t x lo hi mx=>
  simp only [bJ];have ex:=hρ x (by simp [Op.operands]);have elo:lo.map ρ=lo.map ρ':=by cases lo with|none=>rfl|some q=>simp [hρ q (by simp [Op.operands])]
  have ehi:hi.map ρ=hi.map ρ':=by cases hi with|none=>rfl|some q=>simp [hρ q (by simp [Op.operands])]
  have emx:mx.map ρ=mx.map ρ':=by cases mx with|none=>rfl|some q=>simp [hρ q (by simp [Op.operands])]
  have h1:=hH x (by simp [Op.operands]);rw [←ex,←elo,←ehi,←emx];unfold xJ;split<;>try rfl
  rename_i id off len hu hr;rw [hr] at h1;rw [h1 _ rfl]
 |fieldAddr t x f=>
  simp only [bJ];rw [←hρ x (by simp [Op.operands]),aEj (hH x (by simp [Op.operands]))]
 |field t x f=>simp only [bJ];rw [hρ x (by simp [Op.operands])]
 |indexAddr t x i=>
  simp only [bJ];rw [←hρ x (by simp [Op.operands]),←hρ i (by simp [Op.operands]),aEj (hH x (by simp [Op.operands]))]
 |index t x i=>simp only [bJ];rw [hρ x (by simp [Op.operands]),hρ i (by simp [Op.operands])]
 |typeAssert x xt a ok=>simp only [bJ];rw [hρ x (by simp [Op.operands])]
 |extract x i=>simp only [bJ];rw [hρ x (by simp [Op.operands])]
 |build t parts=>
  simp only [bJ]
  have:(parts.toList.map fun (i,x)=>(i,ρ x))=parts.toList.map fun (i,x)=>(i,ρ' x):=List.map_congr_left fun p hp=>by
   obtain ⟨i,x⟩:=p;simp only;rw [hρ x (by simp only [Op.operands];simp;exact ⟨i,by simpa using hp⟩)]
  rw [this]
 |call c=>
  obtain ⟨callee,args,ats⟩:=c
  cases callee with
  |builtin b=>
   simp only [bJ];have hm: ∀x,x∈args→x∈(Op.call { callee:= .builtin b,args:=args,argTypes:=ats }).operands:=fun x hx=>by simp [Op.operands,Call.operands,hx]
   rw [lst args (fun x hx=>hρ x (hm x hx))]
   have:(args.toList.map ρ').all H.alive=(args.toList.map ρ').all H'.alive:=by
    rw [←lst args (fun x hx=>hρ x (hm x hx))];rw [List.all_map,List.all_map]
    have: ∀l:List Operand,(∀x,x∈l→x∈args)→l.all (H.alive∘ρ)=l.all (H'.alive∘ρ):=by
     intro l
     induction l with
     |nil=>intro _;rfl
     |cons x l ih=>
      intro hl;simp only [List.all_cons,Function.comp];rw [aEj (hH x (hm x (hl x (by simp)))),ih (fun y hy=>hl y (by simp [hy]))]
    exact this args.toList (fun x hx=>by simpa using hx)
   rw [this]
  |value f=>rfl
  |invoke r m=>rfl
 |_=>rfl
def sP(op:Op):Nat:=
  match op with
  | .alloc _| .box .. | .buildSlice .. | .makeSlice .. | .range .. =>1
  | .call { callee:= .value _,.. } =>2
  | .call { callee:= .builtin .append,.. } =>3
  | .store .. | .next .. =>3
  |_=>0
theorem aPe{H:aH}{id:Nat}{ρ:Operand→AV}{op:Op}{r:AV}{H':aH}(hc:sP op=1)(h:eZ P H id ρ op=some (r,H')):
 ∃e,H.isFresh id=true∧H'=H.put id e∧ ∀(G:aH) (ρ':Operand→AV),G.isFresh id=true→(∀x,x∈op.operands→ρ x=ρ' x)→eZ P G id ρ' op=some (r,G.put id e):=by
 cases op with
 |alloc elem=>
  simp only [eZ] at h⊢;split at h
  ·
   split at h
   · rename_i hf;cases h;exact ⟨_,hf,rfl,fun G _ hg _=>by simp only [*,if_true]⟩
   · cases h
  · cases h
 |box elem x=>
  simp only [eZ] at h⊢;split at h
  ·
   rename_i cs hcs;split at h
   · rename_i hf;cases h;refine ⟨_,hf,rfl,fun G ρ' hg hρ=>?_⟩;rw [←hρ x (by simp [Op.operands])];simp only [hcs,hg,if_true]
   · cases h
  · cases h
 |buildSlice t len parts=>
  simp only [eZ] at h⊢;split at h
  ·
   rename_i elem hu;split at h
   ·
    rename_i s zs hs hz;split at h
    ·
     rename_i hcc;simp only [Option.map_eq_some_iff,Prod.mk.injEq] at h;obtain ⟨xs,hfill,rfl,rfl⟩:=h;refine ⟨_,hcc.1,rfl,fun G ρ' hg hρ=>?_⟩
     have:(parts.toList.map fun (i,x)=>(i,ρ' x))=parts.toList.map fun (i,x)=>(i,ρ x):=List.map_congr_left fun p hp=>by
      obtain ⟨i,x⟩:=p;simp only;rw [hρ x (by simp only [Op.operands];simp;exact ⟨i,by simpa using hp⟩)]
     rw [this];simp only [hg];rw [if_pos ⟨trivial,hcc.2⟩,hfill];rfl
    · cases h
   · cases h
  · cases h
 |makeSlice t l c=>
  simp only [eZ] at h⊢;split at h
  ·
   rename_i elem kl l' kc c' hu hl hc';split at h
   ·
    rename_i i zs hi hz;split at h
    · rename_i hcc;cases h;refine ⟨_,hcc.1,rfl,fun G ρ' hg hρ=>?_⟩;rw [←hρ l (by simp [Op.operands]),←hρ c (by simp [Op.operands])];simp only [hu,hl,hc',hi,hz,hg];rw [if_pos ⟨trivial,hcc.2⟩]
    · cases h
   · cases h
  · cases h
 |range t x=>
  simp only [eZ] at h⊢;split at h
  ·
   rename_i s hu hx;split at h
   · rename_i hf;cases h;refine ⟨_,hf,rfl,fun G ρ' hg hρ=>?_⟩;rw [←hρ x (by simp [Op.operands])];simp only [hu,hx,hg,if_true]
   · cases h
  · cases h
 |call c=>
  obtain ⟨callee,args,ats⟩:=c;cases callee<;>simp [sP] at hc;rename_i b;cases b<;>simp at hc
 |_=>simp [sP] at hc
end
section
open Go.RowKit
variable {P:Program}
theorem bLr{o:Oper}{a:Act}{w:World}{K:Act→World→Prop}(h:o.wp P a w K (fun _ _ _=>False)): ∃a' w',K a' w':=by
 unfold Oper.wp at h;generalize (execOp a.eval o).run P w=r at h
 cases r with
 |ok x w'=>
  cases x with
  |value v=>exact ⟨_,_,h⟩
  |skip=>exact ⟨_,_,h⟩
  |defer d=>exact ⟨_,_,h⟩
  |enter f args=>
   obtain ⟨e,w'',fr,hR,_⟩:=h []
   cases e with
   |returned v=>exact ⟨_,_,hR⟩
   |panicked c=>exact hR.elim
   |outgrown=>obtain ⟨_,_,hF⟩:=hR;exact hF.elim
  |row row args=>
   obtain ⟨v,w'',hR,_⟩:=h default [];exact ⟨_,_,hR⟩
  |_=>exact h.elim
 |halt x w'=>
  cases x<;>exact h.elim
theorem aP8{C:Ctx}{s s':St}{a:Act}{w:World}{o:Oper}{ops:Array Oper}{id:Nat}{strict:Bool}(h:dR P strict ops id o s s')(hr:Real C s a w): ∃a' w',Real C s' a' w':=by
 have:=aE6 (Q:=fun _ _ _=>False) h hr (K:=fun a' w'=>Real C s' a' w') (fun _ _ h=>h);split at this
 · exact bLr this
 · exact ⟨_,_,this⟩
theorem Real.notFresh{C:Ctx}{s:St}{a:Act}{w:World}(hr:Real C s a w){x:Operand}{j:Nat}(h:iW (aval s.f x)=some j):s.H.ent j≠ .fresh:=by
 obtain ⟨O,hs,hv,_⟩:=hr.ex;intro hf;have hO:=hs.fresh hf;have h1:=hv.aval x;generalize aval s.f x=b at*;generalize a.eval x=y at*;have key:O j≠ .fresh→False:=fun hne=>hne hO;cases h1<;>simp only [iW,Option.some.injEq,reduceCtorEq] at h
 all_goals (subst h;apply key;rename_i h2;intro h3;simp_all)
theorem aQd{ops:Array Oper}{id:Nat}{o:Oper}{s s':St}(h:dR P true ops id o s s')(hc:sP o.op≤2):
 ∃(r:AV) (eff:Option Ent),s'=⟨s.n,mS s.f o.dst r,match eff with|some e=>s.H.put id e|none=>s.H⟩∧(eff.isSome=true→s.H.isFresh id=true)∧
  ∀(f':Nat→AV) (G:aH),(∀t,t∈o.looksAt ops→s.f t=f' t)→(∀x,x∈o.op.operands→ ∀j,iW (aval s.f x)=some j→s.H.ent j=G.ent j)→(eff.isSome=true→G.isFresh id=true)→
   dR P true ops id o ⟨s.n,f',G⟩ ⟨s.n,mS f' o.dst r,match eff with|some e=>G.put id e|none=>G⟩:=by
 obtain ⟨hd,h⟩:=h
 have hop: ∀(f':Nat→AV),(∀t,t∈o.looksAt ops→s.f t=f' t)→ ∀x,x∈o.op.operands→aval s.f x=aval f' x:=by
  intro f' hf x hx
  cases x with
  |tmp t=>exact hf t (List.mem_append_left _ (List.mem_filterMap.2 ⟨.tmp t,by simpa using hx,rfl⟩))
  |_=>rfl
 have hgs: ∀(f':Nat→AV),(∀t,t∈o.looksAt ops→s.f t=f' t)→aDk ops s.f o=aDk ops f' o:=by
  intro f' hf;unfold aDk
  cases hg:o.guard with
  |none=>rfl
  |some gw=>
   obtain ⟨j,want⟩:=gw;simp only
   cases hb:(ops[j]?).bind (·.dst) with
   |none=>rfl
   |some d=>
    simp only;have:s.f d=f' d:=hf d (List.mem_append_right _ (by simp [hg,hb]));show aEg want (s.f d)=aEg want (f' d);rw [this]
 split at h
 · rename_i hg;subst h;refine ⟨.v undef,none,rfl,fun h=>(by cases h),fun f' G hf _ _=>⟨hd,?_⟩⟩;have:=hgs f' hf;rw [hg] at this;simp only [←this]
 ·
  rename_i hg;unfold aGj at h;split at h
  ·
   rename_i f args ats ho;obtain ⟨g,first,cap,r,H',h1,h2,h3,h4,h5,rfl⟩:=h;have:=h4 rfl;subst this;refine ⟨r,none,rfl,fun h=>(by cases h),fun f' G hf hG _=>⟨hd,?_⟩⟩;have e:=hgs f' hf;rw [hg] at e;simp only [←e];have ef:=hop f' hf f (by simp [ho,Op.operands,Call.operands]);have ea:args.toList.map (aval s.f)=args.toList.map (aval f'):=List.map_congr_left fun x hx=>hop f' hf x (by simp at hx;simp [ho,Op.operands,Call.operands,hx]);unfold aGj;simp only [ho];have hG': ∀x,x∈args→ ∀j,iW (aval s.f x)=some j→s.H.ent j=G.ent j:=fun x hx=>hG x (by simp [ho,Op.operands,Call.operands,hx])
   refine ⟨g,first,cap,r,G,by rw [←ef];exact h1,h2,fun H _ hH=>by
    rw [←ea];exact h3 H rfl fun x hx j hj=>(hG' x hx j hj).trans (hH x hx j (by rw [←hop f' hf x (by simp [ho,Op.operands,Call.operands,hx])];exact hj)),fun _=>rfl,by rw [←ea];exact h3 G rfl hG',rfl⟩
  ·
   rename_i op hne;rcases h with ⟨r,h1,rfl⟩|⟨r,H',h1,rfl⟩|⟨r,h0,h1,rfl⟩
   · refine ⟨r,none,rfl,fun h=>(by cases h),fun f' G hf hG _=>⟨hd,?_⟩⟩;have e:=hgs f' hf;rw [hg] at e;simp only [←e];refine aAk (s:=⟨s.n,f',G⟩) ?_;rw [←h1];exact (aB6 (hop f' hf) hG).symm
   ·
    have hc1:sP o.op=1:=by
     have h0:sP o.op≠0:=by
      intro h0
      cases hop':o.op with
      |call c=>
       obtain ⟨callee,args,ats⟩:=c;rw [hop'] at h1 h0
       cases callee with
       |builtin b=>cases b<;>first|(simp [sP] at h0;done)|(simp [eZ] at h1;done)
       |value f=>simp [sP] at h0
       |invoke r m=>simp [eZ] at h1
      |next it b=>rw [hop'] at h1 h0;cases b<;>simp [sP] at h0 h1
      |_=>rw [hop'] at h1 h0;first|(simp [eZ] at h1;done)|(simp [sP] at h0;done)
     have h2:sP o.op≠2:=by
      intro h2
      cases hop':o.op with
      |call c=>
       obtain ⟨callee,args,ats⟩:=c;rw [hop'] at h1 h2
       cases callee with
       |builtin b=>cases b<;>simp [sP] at h2
       |value f=>simp [eZ] at h1
       |invoke r m=>simp [eZ] at h1
      |_=>rw [hop'] at h2;simp [sP] at h2
     omega
    obtain ⟨e,k1,rfl,k3⟩:=aPe hc1 h1;refine ⟨r,some e,rfl,fun _=>k1,fun f' G hf hG hfr=>⟨hd,?_⟩⟩;have e':=hgs f' hf;rw [hg] at e';simp only [←e'];exact aG1 (s:=⟨s.n,f',G⟩) (k3 G (aval f') (hfr rfl) (hop f' hf))
   ·
    refine ⟨r,none,rfl,fun h=>(by cases h),fun f' G hf hG _=>⟨hd,?_⟩⟩;have e:=hgs f' hf;rw [hg] at e;simp only [←e];refine aDi (s:=⟨s.n,f',G⟩) (fun x hx=>by rw [←hop f' hf x hx];exact h0 x hx) (fun o' w X ρ h2 h3 h4=>h1 o' w X ρ h2 h3 (fun x hx=>by rw [hop f' hf x hx];exact h4 x hx)) ?_;unfold xW;split
    · rename_i f args ats ho;exact absurd ho (by intro ho;exact hne _ _ _ ho)
    · rfl
 · exact h.elim
theorem yB(f:Nat→AV)(x y:Option Tmp)(r q:AV)(h: ∀d,x=some d→y≠some d):mS (mS f x r) y q=mS (mS f y q) x r:=by
 cases x with
 |none=>rfl
 |some d=>
  cases y with
  |none=>rfl
  |some e=>
   have hne:d≠e:=fun he=>h d rfl (he▸rfl);funext k;simp only [mS,aF]
   by_cases h1:k=e
   · subst h1;simp [Ne.symm hne]
   ·
    by_cases h2:k=d
    · subst h2;simp [h1]
    · simp [h1,h2]
theorem iR{f:Nat→AV}{dst:Option Tmp}{r:AV}{l:List Tmp}(h: ∀d,dst=some d→d∉l): ∀t,t∈l→mS f dst r t=f t:=by
 intro t ht
 cases dst with
 |none=>rfl
 |some d=>
  have:t≠d:=fun e=>h d rfl (e▸ht);simp [mS,aF,this]
theorem aIt{H:aH}{i j:Nat}{e:Ent}(h:j≠i):(H.put i e).isFresh j=H.isFresh j:=by
 simp [aH.isFresh,aH.put,upd_ne _ _ _ _ h]
theorem put_comm{H:aH}{i j:Nat}{e g:Ent}(h:i≠j):(H.put i e).put j g=(H.put j g).put i e:=by
 unfold aH.put;congr 1;funext k
 by_cases h1:k=i
 · subst h1;simp [upd,h]
 · simp [upd,h1]
theorem aP7{C:Ctx}{ops:Array Oper}{ip ii:Nat}{p i:Oper}{s s1 s2:St}{a:Act}{w:World}(hr:Real C s a w)(hp:dR P true ops ip p s s1)(hi:dR P true ops ii i s1 s2)
 (hap:p.apart ops i=true) (hcp:sP p.op≤2) (hci:sP i.op≤2) (hne:ip≠ii): ∃t,dR P true ops ii i s t∧dR P true ops ip p t s2:=by
 obtain ⟨d1,d2,d3⟩:=Oper.apart_spec hap;obtain ⟨rp,ep,e1,fp,tp⟩:=aQd hp hcp;obtain ⟨ri,ei,e2,fi,ti⟩:=aQd hi hci;subst e1;subst e2;have hpf: ∀t,t∈i.looksAt ops→mS s.f p.dst rp t=s.f t:=iR d1;have hif: ∀t,t∈p.looksAt ops→mS s.f i.dst ri t=s.f t:=iR d3
 have hopi: ∀x,x∈i.op.operands→aval (mS s.f p.dst rp) x=aval s.f x:=by
  intro x hx
  cases x with
  |tmp t=>exact hpf t (List.mem_append_left _ (List.mem_filterMap.2 ⟨.tmp t,by simpa using hx,rfl⟩))
  |_=>rfl
 have key:=ti s.f s.H hpf (fun x hx j hj=>by
  rw [hopi x hx] at hj;have:=hr.notFresh hj
  cases ep with
  |none=>rfl
  |some e=>
   have hfr:=aH.isFresh_eq (fp rfl);have:j≠ip:=fun h=>by rw [h] at this;exact this hfr
   simp [aH.put,upd_ne _ _ _ _ this]) (fun h=>by
  have:=fi h
  cases ep with
  |none=>exact this
  |some e=>simpa [aIt (Ne.symm hne)] using this)
 refine ⟨_,key,?_⟩
 have key2:=tp (mS s.f i.dst ri) (match ei with|some e=>s.H.put ii e|none=>s.H) (fun t ht=>(hif t ht).symm) (fun x hx j hj=>by
  have:=hr.notFresh hj
  cases ei with
  |none=>rfl
  |some e=>
   have hfr:s.H.ent ii= .fresh:=by
    have:=fi rfl
    cases ep with
    |none=>exact aH.isFresh_eq this
    |some e=>exact aH.isFresh_eq (by simpa [aIt (Ne.symm hne)] using this)
   have:j≠ii:=fun h=>by rw [h] at this;exact this hfr
   simp [aH.put,upd_ne _ _ _ _ this]) (fun h=>by
  have:=fp h
  cases ei with
  |none=>exact this
  |some e=>simpa [aIt hne] using this)
 have ef:=yB s.f p.dst i.dst rp ri d2;rw [ef];cases ep<;>cases ei<;>simp only at key2⊢ <;>first|exact key2|(rw [put_comm hne];exact key2)
end
section
open Go.RowKit
variable {P:Program}
def aI8(P:Program)(ops:Array Oper)(base:Nat):List Nat→St→St→Prop
  |[],s,s'=>s=s'
  |i::L,s,s'=> ∃o s1,ops[i]? =some o∧dR P true ops (base+i) o s s1∧aI8 P ops base L s1 s'
theorem aCi{ops:Array Oper}{base:Nat}{K:St→Prop} : ∀(l:List Oper) (i:Nat) (s:St),(∀j,l[j]? =ops[i+j]?)→aR P true ops base i l K s→
 ∃s',aI8 P ops base (List.range' i l.length) s s'∧K s'
 |[],i,s,_,h=>⟨s,rfl,h⟩
 |o::l,i,s,hl,h=>by
  obtain ⟨s1,h1,h2⟩:=h;obtain ⟨s',h3,h4⟩:=aCi l (i+1) s1 (fun j=>by have:=hl (j+1);simpa [Nat.add_assoc,Nat.add_comm 1] using this) h2;have h0:=hl 0;simp at h0;exact ⟨s',⟨o,s1,h0.symm,h1,h3⟩,h4⟩
def rI(op:Op):Bool:=match op with| .move _| .assign _| .extract .. | .binOp .. | .unOp .. | .pick .. | .field .. =>true|_=>false
def aHx(op:Op):Bool:=match op with| .store .. =>true|_=>false
theorem aYp{H G:aH}{ρ ρ':Operand→AV}{op:Op}(hs:rI op=true)(hρ: ∀x,x∈op.operands→ρ x=ρ' x):bJ P H ρ op=bJ P G ρ' op:=by
 cases op with
 |move x=>simp only [bJ];rw [hρ x (by simp [Op.operands])]
 |assign x=>simp only [bJ];rw [hρ x (by simp [Op.operands])]
 |extract x i=>simp only [bJ];rw [hρ x (by simp [Op.operands])]
 |binOp o t x y yt=>simp only [bJ];rw [hρ x (by simp [Op.operands]),hρ y (by simp [Op.operands])]
 |unOp o t x=>simp only [bJ];rw [hρ x (by simp [Op.operands])]
 |pick c a b=>simp only [bJ];rw [hρ c (by simp [Op.operands]),hρ a (by simp [Op.operands]),hρ b (by simp [Op.operands])]
 |field t x f=>simp only [bJ];rw [hρ x (by simp [Op.operands])]
 |_=>simp [rI] at hs
theorem iN{ops:Array Oper}{o:Oper}{f f':Nat→AV}(hf: ∀t,t∈o.looksAt ops→f t=f' t):aDk ops f o=aDk ops f' o:=by
 unfold aDk
 cases hg:o.guard with
 |none=>rfl
 |some gw=>
  obtain ⟨j,want⟩:=gw;simp only
  cases hb:(ops[j]?).bind (·.dst) with
  |none=>rfl
  |some d=>
   simp only;have:f d=f' d:=hf d (List.mem_append_right _ (by simp [hg,hb]));show aEg want (f d)=aEg want (f' d);rw [this]
theorem mY{ops:Array Oper}{o:Oper}{f f':Nat→AV}(hf: ∀t,t∈o.looksAt ops→f t=f' t): ∀x,x∈o.op.operands→aval f x=aval f' x:=by
 intro x hx
 cases x with
 |tmp t=>exact hf t (List.mem_append_left _ (List.mem_filterMap.2 ⟨.tmp t,by simpa using hx,rfl⟩))
 |_=>rfl
theorem aF2{ops:Array Oper}{id:Nat}{o:Oper}{s s':St}(h:dR P true ops id o s s')(hs:rI o.op=true):
 ∃r,s'=⟨s.n,mS s.f o.dst r,s.H⟩∧ ∀(f':Nat→AV) (G:aH),(∀t,t∈o.looksAt ops→s.f t=f' t)→dR P true ops id o ⟨s.n,f',G⟩ ⟨s.n,mS f' o.dst r,G⟩:=by
 obtain ⟨hd,h⟩:=h;split at h
 · rename_i hg;subst h;refine ⟨.v undef,rfl,fun f' G hf=>⟨hd,?_⟩⟩;have:=iN (ops:=ops) hf;rw [hg] at this;simp only [←this]
 ·
  rename_i hg;unfold aGj at h;split at h
  · rename_i f args ats ho;rw [ho] at hs;cases hs
  ·
   rename_i op hne;rcases h with ⟨r,h1,rfl⟩|⟨r,H',h1,rfl⟩|⟨r,h0,h1,rfl⟩
   · refine ⟨r,rfl,fun f' G hf=>⟨hd,?_⟩⟩;have e:=iN (ops:=ops) hf;rw [hg] at e;simp only [←e];refine aAk (s:=⟨s.n,f',G⟩) ?_;rw [←h1];exact (aYp hs (mY hf)).symm
   ·
    exfalso
    cases ho:o.op<;>rw [ho] at h1 hs<;>first|(simp [rI] at hs;done)|(simp [eZ] at h1;done)
   ·
    refine ⟨r,rfl,fun f' G hf=>⟨hd,?_⟩⟩;have e:=iN (ops:=ops) hf;rw [hg] at e;simp only [←e];have hop:=mY hf;refine aDi (s:=⟨s.n,f',G⟩) (fun x hx=>by rw [←hop x hx];exact h0 x hx) (fun o' w X ρ h2 h3 h4=>h1 o' w X ρ h2 h3 (fun x hx=>by rw [hop x hx];exact h4 x hx)) ?_;unfold xW;split
    · rename_i f args ats ho;exact absurd ho (by intro ho;exact hne _ _ _ ho)
    · rfl
 · exact h.elim
theorem aTd{ops:Array Oper}{id:Nat}{o:Oper}{s s':St}(h:dR P true ops id o s s')(hs:aHx o.op=true):
 ∃r H',s'=⟨s.n,mS s.f o.dst r,H'⟩∧ ∀(f':Nat→AV),(∀t,t∈o.looksAt ops→s.f t=f' t)→dR P true ops id o ⟨s.n,f',s.H⟩ ⟨s.n,mS f' o.dst r,H'⟩:=by
 obtain ⟨hd,h⟩:=h;split at h
 · rename_i hg;subst h;refine ⟨.v undef,_,rfl,fun f' hf=>⟨hd,?_⟩⟩;have:=iN (ops:=ops) hf;rw [hg] at this;simp only [←this]
 ·
  rename_i hg;unfold aGj at h;split at h
  · rename_i f args ats ho;rw [ho] at hs;cases hs
  ·
   rename_i op hne;rcases h with ⟨r,h1,rfl⟩|⟨r,H',h1,rfl⟩|⟨r,h0,h1,rfl⟩
   ·
    exfalso
    cases ho:o.op<;>rw [ho] at h1 hs<;>first|(simp [aHx] at hs;done)|(simp [bJ] at h1;done)
   ·
    refine ⟨r,H',rfl,fun f' hf=>⟨hd,?_⟩⟩;have e:=iN (ops:=ops) hf;rw [hg] at e;simp only [←e];refine aG1 (s:=⟨s.n,f',s.H⟩) ?_;rw [←h1];have hop:=mY hf;cases ho:o.op<;>rw [ho] at hs hop<;>first|(simp [aHx] at hs;done)|skip
    rename_i t a x;simp only [eZ];rw [hop a (by simp [Op.operands]),hop x (by simp [Op.operands])]
   ·
    refine ⟨r,_,rfl,fun f' hf=>⟨hd,?_⟩⟩;have e:=iN (ops:=ops) hf;rw [hg] at e;simp only [←e];have hop:=mY hf;refine aDi (s:=⟨s.n,f',s.H⟩) (fun x hx=>by rw [←hop x hx];exact h0 x hx) (fun o' w X ρ h2 h3 h4=>h1 o' w X ρ h2 h3 (fun x hx=>by rw [hop x hx];exact h4 x hx)) ?_;unfold xW;split
    · rename_i f args ats ho;exact absurd ho (by intro ho;exact hne _ _ _ ho)
    · rfl
 · exact h.elim
theorem zB{ops:Array Oper}{ip ii:Nat}{p i:Oper}{s s1 s2:St}(hp:dR P true ops ip p s s1)(hi:dR P true ops ii i s1 s2)
 (hap:p.apart ops i=true) (hcp:aHx p.op=true) (hci:rI i.op=true): ∃t,dR P true ops ii i s t∧dR P true ops ip p t s2:=by
 obtain ⟨d1,d2,d3⟩:=Oper.apart_spec hap;obtain ⟨rp,H',e1,tp⟩:=aTd hp hcp;subst e1;obtain ⟨ri,e2,ti⟩:=aF2 hi hci;subst e2;refine ⟨_,ti s.f s.H (fun t ht=>iR d1 t ht),?_⟩;have:=tp (mS s.f i.dst ri) (fun t ht=>(iR d3 t ht).symm);rw [←yB s.f p.dst i.dst rp ri d2] at this;exact this
theorem zA{ops:Array Oper}{ip ii:Nat}{p i:Oper}{s s1 s2:St}(hp:dR P true ops ip p s s1)(hi:dR P true ops ii i s1 s2)
 (hap:p.apart ops i=true) (hcp:rI p.op=true) (hci:aHx i.op=true): ∃t,dR P true ops ii i s t∧dR P true ops ip p t s2:=by
 obtain ⟨d1,d2,d3⟩:=Oper.apart_spec hap;obtain ⟨rp,e1,tp⟩:=aF2 hp hcp;subst e1;obtain ⟨ri,H',e2,ti⟩:=aTd hi hci;subst e2;refine ⟨_,ti s.f (fun t ht=>iR d1 t ht),?_⟩;have:=tp (mS s.f i.dst ri) H' (fun t ht=>(iR d3 t ht).symm);rw [←yB s.f p.dst i.dst rp ri d2] at this;exact this
def aLh(ops:Array Oper)(p i:Nat):Bool:=
  match ops[p]?,ops[i]? with
  |some op,some oi=>op.apart ops oi&&((decide (sP op.op≤2)&&decide (sP oi.op≤2))||(aHx op.op&&rI oi.op)||(rI op.op&&aHx oi.op))
  |_,_=>false
theorem aPn{C:Ctx}{ops:Array Oper}{base:Nat} : ∀(L1:List Nat) (i:Nat) (L2:List Nat) (s sf:St) (a:Act) (w:World),Real C s a w→(∀p,p∈L1→aLh ops p i=true∧p≠i)→
 aI8 P ops base (L1++i::L2) s sf→ ∃o t,ops[i]? =some o∧dR P true ops (base+i) o s t∧aI8 P ops base (L1++L2) t sf
 |[],i,L2,s,sf,a,w,_,_,h=>h
 |p::L1,i,L2,s,sf,a,w,hr,hc,h=>by
  obtain ⟨op,s1,h1,h2,h3⟩:=h;obtain ⟨a1,w1,hr1⟩:=aP8 h2 hr;obtain ⟨oi,t1,h4,h5,h6⟩:=aPn L1 i L2 s1 sf a1 w1 hr1 (fun q hq=>hc q (by simp [hq])) h3;obtain ⟨hcm,hne⟩:=hc p (by simp);unfold aLh at hcm;rw [h1,h4] at hcm;simp only [Bool.and_eq_true,Bool.or_eq_true,decide_eq_true_eq] at hcm;obtain ⟨hap,(⟨c1,c2⟩|⟨c1,c2⟩)|⟨c1,c2⟩⟩:=hcm
  · obtain ⟨t,h7,h8⟩:=aP7 hr h2 h5 hap c1 c2 om;exact ⟨oi,t,h4,h7,op,t1,h1,h8,h6⟩
  · obtain ⟨t,h7,h8⟩:=zB h2 h5 hap c1 c2;exact ⟨oi,t,h4,h7,op,t1,h1,h8,h6⟩
  · obtain ⟨t,h7,h8⟩:=zA h2 h5 hap c1 c2;exact ⟨oi,t,h4,h7,op,t1,h1,h8,h6⟩
def aXv(acc:List Nat)(o:Oper):Nat:=
  o.after.toList.foldl (fun m e=>if Region.binds .any e then m ||| 2^e.on ||| acc.getD e.on 0 else m) 0
def aDo:List Nat→List Oper→List Nat
  |acc,[]=>acc
  |acc,o::l=>aDo (acc++[aXv acc o]) l
def dOK(ops:Array Oper):Bool:=
  (List.range ops.size).all fun i=>
    ((ops[i]?).map (·.after.all fun e=> !Region.binds .any e||decide (e.on<i))).getD false&&
    (List.range i).all fun p=>((aDo [] ops.toList).getD i 0).testBit p||aLh ops p i
theorem aLp{acc:List Nat}{o:Oper}{p:Nat}(h:(aXv acc o).testBit p=true):
 ∃e,e∈o.after∧Region.binds .any e=true∧(e.on=p∨(acc.getD e.on 0).testBit p=true):=by
 have key: ∀(l:List Edge) (m:Nat),(l.foldl (fun m e=>if Region.binds .any e then m ||| 2^e.on ||| acc.getD e.on 0 else m) m).testBit p=true→
  m.testBit p=true∨ ∃e,e∈l∧Region.binds .any e=true∧(e.on=p∨(acc.getD e.on 0).testBit p=true):=by
  intro l
  induction l with
  |nil=>intro m h;exact .inl h
  |cons e l ih=>
   intro m h;simp only [List.foldl_cons] at h;rcases ih _ h with h|⟨e',h1,h2⟩
   ·
    split at h
    ·
     rename_i hb;simp only [Nat.testBit_or,Bool.or_eq_true,Nat.testBit_two_pow,decide_eq_true_eq] at h;rcases h with (h|h)|h
     · exact .inl h
     · exact .inr ⟨e,by simp,hb,.inl h⟩
     · exact .inr ⟨e,by simp,hb,.inr h⟩
    · exact .inl h
   · exact .inr ⟨e',by simp [h1],h2⟩
 rcases key o.after.toList 0 h with h|⟨e,h1,h2⟩
 · simp at h
 · exact ⟨e,by simpa using h1,h2⟩
theorem aH8: ∀(l:List Oper) (acc:List Nat) (i:Nat),i<acc.length→(aDo acc l).getD i 0=acc.getD i 0
 |[],_,_,_=>rfl
 |o::l,acc,i,h=>by
  rw [aDo,aH8 l _ i (by simp;omega)];simp [List.getD,List.getElem?_append_left h]
theorem aN3: ∀(l:List Oper) (acc:List Nat) (k:Nat) (o:Oper),l[k]? =some o→
 ∃acc':List Nat,(aDo acc l).getD (acc.length+k) 0=aXv acc' o∧ ∀j,j<acc.length+k→acc'.getD j 0=(aDo acc l).getD j 0
 |[],_,_,_,h=>by simp at h
 |o'::l,acc,0,o,h=>by
  simp at h;subst h;refine ⟨acc,?_,fun j hj=>?_⟩
  · rw [aDo,aH8 l _ _ (by simp)];simp [List.getD]
  · rw [aDo,aH8 l _ _ (by simp;omega)];simp [List.getD,List.getElem?_append_left (show j<acc.length by omega)]
 |o'::l,acc,k+1,o,h=>by
  simp at h;obtain ⟨acc',h1,h2⟩:=aN3 l (acc++[aXv acc o']) k o h;simp only [List.length_append,List.length_singleton] at h1 h2;refine ⟨acc',?_,fun j hj=>?_⟩
  · rw [aDo];rw [←h1];congr 1;omega
  · rw [aDo];exact h2 j om
section
variable {ops:Array Oper}
theorem aSk(hok:dOK ops=true){listed:Array Bool}
 (hclosed: ∀k o,ops[k]? =some o→listed.getD k false=true→ ∀e,e∈o.after→Region.binds .any e=true→listed.getD e.on false=true):
 ∀(i:Nat) (o:Oper),ops[i]? =some o→(∀e,e∈o.after→Region.binds .any e=true→listed.getD e.on false=true)→
 ∀p,((aDo [] ops.toList).getD i 0).testBit p=true→listed.getD p false=true:=by
 intro i
 induction i using Nat.strongRecOn with
 |_ i ih=>
  intro o ho hall p hp;obtain ⟨acc',h1,h2⟩:=aN3 ops.toList [] i o (by simpa using ho);simp only [List.length_nil,Nat.zero_add] at h1 h2;rw [h1] at hp;obtain ⟨e,he,hb,h3⟩:=aLp hp;have hon:=hall e he hb;rcases h3 with rfl|h3
  · exact hon
  ·
   have hlt:i<ops.size:=(Array.getElem?_eq_some_iff.1 ho).1
   have hei:e.on<i:=by
    have:=List.all_eq_true.1 hok i (by simpa using hlt);simp only [Bool.and_eq_true,ho,Option.map_some,Option.getD_some] at this;have:=Array.all_eq_true_iff_forall_mem.1 this.1 e he
    simpa [hb] using this
   obtain ⟨oe,hoe⟩: ∃oe,ops[e.on]? =some oe:=⟨ops[e.on]'(by omega),by simp [show e.on<ops.size by omega]⟩
   rw [h2 _ hei] at h3;exact ih e.on hei oe hoe (fun e' he' hb'=>hclosed e.on oe hoe hon e' he' hb') p h3
theorem bDj{C:Ctx}{base:Nat}{Q:Exit→Act→World→Prop}(hok:dOK ops=true): ∀(fuel:Nat) (L:List Nat) (listed:Array Bool) (s sf:St) (a:Act) (w:World),
 L.length=fuel→L.Pairwise (· < ·)→listed.size=ops.size→(∀i,i<ops.size→(listed.getD i false=true↔i∉L))→(∀i,i∈L→i<ops.size)→
 (∀k o,ops[k]? =some o→listed.getD k false=true→ ∀e,e∈o.after→Region.binds .any e=true→listed.getD e.on false=true)→
 aI8 P ops base L s sf→Real C s a w→(∀a' w',Real C sf a' w'→Q .normal a' w')→wpAny P .any ops Q fuel listed a w:=by
 intro fuel
 have hdep: ∀i o,ops[i]? =some o→ ∀e,e∈o.after→Region.binds .any e=true→e.on<i:=by
  intro i o ho e he hb;have hlt:i<ops.size:=(Array.getElem?_eq_some_iff.1 ho).1;have:=List.all_eq_true.1 hok i (by simpa using hlt);simp only [Bool.and_eq_true,ho,Option.map_some,Option.getD_some] at this;have:=Array.all_eq_true_iff_forall_mem.1 this.1 e he
  simpa [hb] using this
 have getDt: ∀(listed:Array Bool) (i:Nat),listed.size=ops.size→i<ops.size→listed.getD i true=listed.getD i false:=by
  intro listed i hs hi;simp [hs,hi]
 induction fuel with
 |zero=>
  intro L listed s sf a w hL _ hsz hl hlt hcl hch hr hQ;have:L=[]:=List.eq_nil_of_length_eq_zero hL;subst this;have:s=sf:=hch;subst this;refine ⟨?_,hQ a w hr⟩
  cases hrd:Region.ready .any ops listed with
  |nil=>rfl
  |cons x xs=>
   have hx:x∈Region.ready .any ops listed:=by rw [hrd];simp
   obtain ⟨h1,o,h2,_⟩:=mem_ready.1 hx;have hxs:x<ops.size:=(Array.getElem?_eq_some_iff.1 h2).1;rw [getDt listed x hsz hxs] at h1;have:=(hl x hxs).2 (by simp);rw [h1] at this;cases this
 |succ fuel ih=>
  intro L listed s sf a w hL hsort hsz hl hlt hcl hch hr hQ;refine ⟨fun hempty=>?_,fun i hi=>?_⟩
  ·
   
   exfalso
   match L,hL with
   |x::L',_=>
    have hxs:x<ops.size:=hlt x (by simp);obtain ⟨o,ho⟩: ∃o,ops[x]? =some o:=⟨ops[x],by simp [hxs]⟩
    have:x∈Region.ready .any ops listed:=by
     refine mem_ready.2 ⟨?_,o,ho,fun e he hb=>?_⟩
     ·
      rw [getDt listed x hsz hxs]
      cases hv:listed.getD x false with
      |false=>rfl
      |true=>exact absurd (by simp) ((hl x hxs).1 hv)
     ·
      have hex:=hdep x o ho e he hb;refine (hl e.on om).2 (fun hm=>?_);rcases List.mem_cons.1 hm with h|h
      · omega
      · have:=List.rel_of_pairwise_cons hsort h;omega
    rw [hempty] at this;cases this
  ·
   obtain ⟨h1,oi,hoi,hall⟩:=mem_ready.1 hi;have his:i<ops.size:=(Array.getElem?_eq_some_iff.1 hoi).1;rw [getDt listed i hsz his] at h1
   have hiL:i∈L:=by
    rcases Classical.em (i∈L) with h|h
    · exact h
    · have:=(hl i his).2 h;rw [h1] at this;cases this
   obtain ⟨L1,L2,rfl⟩:=List.append_of_mem hiL;have hp:=List.pairwise_append.1 hsort
   have hpre: ∀p,p∈L1→aLh ops p i=true∧p≠i:=by
    intro p hpm;have hpi:p<i:=hp.2.2 p hpm i (by simp);refine ⟨?_,by omega⟩;have:=List.all_eq_true.1 hok i (by simpa using his);simp only [Bool.and_eq_true] at this;have:=List.all_eq_true.1 this.2 p (by simpa using hpi);simp only [Bool.or_eq_true] at this;rcases this with h|h
    ·
     exfalso
     have:=aSk hok hcl i oi hoi hall p h;exact ((hl p om).1 this) (by simp [hpm])
    · exact h
   obtain ⟨o,t,h2,h3,h4⟩:=aPn L1 i L2 s sf a w hr hpre hch;rw [hoi] at h2;cases h2
   have hst:=aE6 (Q:=Q) h3 hr (K:=wpAny P .any ops Q fuel (listed.setIfInBounds i true)) (fun a' w' hr'=>by
    refine ih (L1++L2) (listed.setIfInBounds i true) t sf a' w' (by simp at hL ⊢; omega) ?_ (by simpa using hsz) (fun j hj=>?_) (fun j hj=>hlt j (by simp at hj ⊢; rcases hj with h|h<;>simp [h])) ?_ h4 hr' hQ
    · refine List.pairwise_append.2 ⟨hp.1,(List.pairwise_cons.1 hp.2.1).2,fun x hx y hy=>hp.2.2 x hx y (by simp [hy])⟩
    ·
     have hnd:i∉L1++L2:=by
      intro hm;rcases List.mem_append.1 hm with h|h
      · have:=hp.2.2 i h i (by simp);omega
      · have:=(List.pairwise_cons.1 hp.2.1).1 i h;omega
     by_cases hji:j=i
     ·
      subst hji;simp [hsz,his]
      simpa using hnd
     · have e:(listed.setIfInBounds i true).getD j false=listed.getD j false:=getD_set_ne false (Ne.symm hji);rw [e,hl j hj];simp [hji]
    ·
     intro k o hk hkl e he hb
     by_cases hki:k=i
     · subst hki;rw [hoi] at hk;cases hk;exact getD_set_true (hall e he hb)
     · rw [getD_set_ne false (Ne.symm hki)] at hkl;exact getD_set_true (hcl k o hk hkl e he hb))
   unfold wpOp;simp only [hoi];split at hst
   · rename_i hw;simp only [hw,if_true];exact .inl hst
   · rename_i hw;simp only [hw];exact hst
end
theorem AWp.regionD{B:Nat→Prop}(m:Nat){id:Nat}{l:List Oper}{Q:Exit→St→Prop}{n N:Nat}{f:Nat→AV}{e:Nat→Ent}(hmix:P.follows .mixedOrders=true)(hok:dOK l.toArray=true)
 (h:aR P true l.toArray N 0 l (fun s'=>Q .normal ⟨s'.n,s'.f,⟨s'.H.ent,N+m⟩⟩) ⟨n,f,⟨e,N⟩⟩):AWp P B (.region id l.toArray true) Q ⟨n,f,⟨e,N⟩⟩:=by
 intro C a w _ hr;refine wp_region_any hmix ?_;obtain ⟨sf,h1,h2⟩:=aCi l 0 _ (fun j=>by simp) h
 have hr':Real C ⟨n,f,⟨e,N⟩⟩ a { w with drawn:=w.drawn+1 } :=by
  obtain ⟨hd,O,hs,hv,ht⟩:=hr;obtain ⟨h3,h4⟩:=hs.same (w':= { w with drawn:=w.drawn+1 }) rfl rfl rfl rfl;exact ⟨hd,O,h3,hv.mono h4,ht.trans h4⟩
 refine bDj hok l.toArray.size (List.range' 0 l.length) _ _ sf a _ (by simp) List.pairwise_lt_range' (by simp) (fun i hi=>?_) (fun i hi=>by simp at hi ⊢; omega) (fun k o hk hkl=>?_) h1 hr' (fun a' w' hr''=>⟨_,hr''.nxt _,h2⟩)
 · simp at hi;simp [hi]
 ·
  have:(Array.replicate l.toArray.size false).getD k false=false:=by
   simp only [Array.getD_eq_getD_getElem?,Array.getElem?_replicate];split<;>rfl
  rw [this] at hkl;cases hkl
theorem AWp.regD{B:Nat→Prop}(m:Nat){id:Nat}{l:List Oper}{Q:Exit→St→Prop}{n N N':Nat}{f:Nat→AV}{e:Nat→Ent}(hmix:P.follows .mixedOrders=true)(hok:dOK l.toArray=true)(hN:N+m=N')
 (h:aR P true l.toArray N 0 l (KN Q N') ⟨n,f,⟨e,N⟩⟩):AWp P B (.region id l.toArray true) Q ⟨n,f,⟨e,N⟩⟩:=by
 subst hN;exact AWp.regionD m hmix hok h
end
section
open Go.RowKit
variable {P:Program}{H:aH}{ρ:Operand→AV}
theorem bHl(l:List AV)(j:Nat):aval (aIb l) (.tmp j)=l.getD j (.v undef):=rfl
theorem iO:aH.empty=⟨aZ,0⟩:=rfl
theorem bCy(x:Operand):bJ P H ρ (.move x)=some (ρ x):=rfl
theorem aWp(x:Operand):bJ P H ρ (.assign x)=some (ρ x):=rfl
theorem bCz(c a b:Operand):bJ P H ρ (.pick c a b)=match ρ c with| .v (.bool t)=>some (aPj t (ρ a) (ρ b))|_=>none:=rfl
theorem bCx(t:TypeId)(a:Operand):bJ P H ρ (.load t a)=bT P H t (ρ a):=rfl
theorem aRs(x:Operand):bJ P H ρ (.nilCheck x)=match ρ x with
 | .ptr xs=>some (.ptr xs)
 | .adr id off=>if H.alive (.adr id off) then some (.adr id off) else none
 | .clo (.func f) a b=>some (.clo (.func f) a b)
 |_=>none:=rfl
theorem aZj(op:BinOp)(t:TypeId)(x y:Operand)(yt:TypeId):bJ P H ρ (.binOp op t x y yt)=iI P op t (ρ x) (ρ y):=rfl
theorem bD0(op:UnOp)(t:TypeId)(x:Operand):bJ P H ρ (.unOp op t x)=aun op (ρ x):=rfl
theorem aU1(s d:TypeId)(x:Operand):bJ P H ρ (.convert s d x)=mU P H s d (ρ x):=rfl
theorem aRr(fn:Fn)(f c:Array Operand):bJ P H ρ (.makeFunc fn f c)=some (.clo fn (f.toList.map ρ) (c.toList.map ρ)):=rfl
theorem aZm(t:TypeId)(x:Operand)(lo hi mx:Option Operand):bJ P H ρ (.slice t x lo hi mx)=xJ P H t (ρ x) (lo.map ρ) (hi.map ρ) (mx.map ρ):=rfl
theorem aQi(t:TypeId)(x:Operand)(f:Nat):bJ P H ρ (.fieldAddr t x f)=if H.alive (ρ x) then aI P t (ρ x) f else none:=rfl
theorem aZk(t:TypeId)(x:Operand)(f:Nat):bJ P H ρ (.field t x f)=aWk P t (ρ x) f:=rfl
theorem aQj(t:TypeId)(x i:Operand):bJ P H ρ (.indexAddr t x i)=if H.alive (ρ x) then lS P t (ρ x) (ρ i) else none:=rfl
theorem aZl(t:TypeId)(x i:Operand):bJ P H ρ (.index t x i)=aO6 P t (ρ x) (ρ i):=rfl
theorem aO8(x:Operand)(xt a:TypeId)(ok:Bool):bJ P H ρ (.typeAssert x xt a ok)=nD P (ρ x) a ok:=rfl
theorem aU2(x:Operand)(i:Nat):bJ P H ρ (.extract x i)=match ρ x with| .tup xs=>xs[i]? |_=>none:=rfl
theorem aPk(t:TypeId)(parts:Array (Nat×Operand)):bJ P H ρ (.build t parts)=aAd P t (parts.toList.map fun (i,x)=>(i,ρ x)):=rfl
theorem aU0(b:Builtin)(args:Array Operand)(ats:Array TypeId):bJ P H ρ (.call { callee:= .builtin b,args:=args,argTypes:=ats })=
 if (args.toList.map ρ).all H.alive then bF P b ats.toList (args.toList.map ρ) else none:=rfl
section
variable (t:TypeId)(k:IntKind)(a b:Int)(x y:ByteArray)(p q:Bool)
theorem bLw:iI P .add t (.v (.int k a)) (.v (.int k b))=some (.v (.int k (k.wrap (a+b)))):=by simp [iI,lP]
theorem bM5:iI P .sub t (.v (.int k a)) (.v (.int k b))=some (.v (.int k (k.wrap (a-b)))):=by simp [iI,lP]
theorem bM3:iI P .mul t (.v (.int k a)) (.v (.int k b))=some (.v (.int k (k.wrap (a*b)))):=by simp [iI,lP]
theorem aZ9(h:b≠0):iI P .quo t (.v (.int k a)) (.v (.int k b))=some (.v (.int k (k.wrap (a.tdiv b)))):=by simp [iI,lP,h]
theorem aZa(h:b≠0):iI P .rem t (.v (.int k a)) (.v (.int k b))=some (.v (.int k (a.tmod b))):=by simp [iI,lP,h]
theorem bLx:iI P .and t (.v (.int k a)) (.v (.int k b))=some (.v (.int k (k.wrap (BitVec.ofInt k.bits a &&& BitVec.ofInt k.bits b).toNat))):=by simp [iI,lP]
theorem bR0:iI P .or t (.v (.int k a)) (.v (.int k b))=some (.v (.int k (k.wrap (BitVec.ofInt k.bits a ||| BitVec.ofInt k.bits b).toNat))):=by simp [iI,lP]
theorem bM6:iI P .xor t (.v (.int k a)) (.v (.int k b))=some (.v (.int k (k.wrap (BitVec.ofInt k.bits a ^^^ BitVec.ofInt k.bits b).toNat))):=by simp [iI,lP]
theorem aZ8:iI P .andNot t (.v (.int k a)) (.v (.int k b))=some (.v (.int k (k.wrap (BitVec.ofInt k.bits a &&& ~~~BitVec.ofInt k.bits b).toNat))):=by simp [iI,lP]
theorem aZb(k':IntKind)(h:0≤b):iI P .shl t (.v (.int k a)) (.v (.int k' b))=some (.v (.int k (k.wrap (a*2^(min b.toNat k.bits))))):=by
 simp only [iI,lP];rw [if_neg om]
theorem aZc(k':IntKind)(h:0≤b):iI P .shr t (.v (.int k a)) (.v (.int k' b))=some (.v (.int k (a.fdiv (2^(min b.toNat k.bits))))):=by
 simp only [iI,lP];rw [if_neg om]
theorem bLy:iI P .eql t (.v (.int k a)) (.v (.int k b))=some (.v (.bool (a==b))):=by simp [iI,lP]
theorem bM4:iI P .neq t (.v (.int k a)) (.v (.int k b))=some (.v (.bool (a !=b))):=by simp [iI,lP]
theorem bM2:iI P .lss t (.v (.int k a)) (.v (.int k b))=some (.v (.bool (decide (a<b)))):=by simp [iI,lP]
theorem bM1:iI P .leq t (.v (.int k a)) (.v (.int k b))=some (.v (.bool (decide (a≤b)))):=by simp [iI,lP]
theorem bM0:iI P .gtr t (.v (.int k a)) (.v (.int k b))=some (.v (.bool (decide (b<a)))):=by simp [iI,lP]
theorem bLz:iI P .geq t (.v (.int k a)) (.v (.int k b))=some (.v (.bool (decide (b≤a)))):=by simp [iI,lP]
theorem str_eq{x y:ByteArray} :(x.toList==y.toList)=decide (x=y):=by
 rw [ByteArray.toList_eq,ByteArray.toList_eq]
 by_cases h:x=y
 · subst h;simp
 · have h':x.data.toList≠y.data.toList:=fun e=>h (by cases x;cases y;simp at e;rw [e]);rw [beq_eq_false_iff_ne.mpr h',decide_eq_false h]
theorem aRg{x:ByteArray} :x.toList=x.data.toList:=ByteArray.toList_eq x
theorem bCj(h:x.size+y.size≤9223372036854775807):iI P .add t (.v (.string x)) (.v (.string y))=some (.v (.string (x++y))):=by simp only [iI,aB0];rw [if_pos h]
theorem bCl:iI P .eql t (.v (.string x)) (.v (.string y))=some (.v (.bool (decide (x=y)))):=by simp only [iI,aB0,str_eq]
theorem bCr:iI P .neq t (.v (.string x)) (.v (.string y))=some (.v (.bool (!decide (x=y)))):=by simp only [iI,aB0,str_eq]
theorem bCp:iI P .lss t (.v (.string x)) (.v (.string y))=some (.v (.bool (Op.bytesLess x.data.toList y.data.toList))):=by simp only [iI,aB0,str_eq];simp only [aRg]
theorem bCo:iI P .leq t (.v (.string x)) (.v (.string y))=some (.v (.bool (Op.bytesLess x.data.toList y.data.toList||decide (x=y)))):=by simp only [iI,aB0,str_eq];simp only [aRg]
theorem bCn:iI P .gtr t (.v (.string x)) (.v (.string y))=some (.v (.bool (!(Op.bytesLess x.data.toList y.data.toList||decide (x=y))))):=by simp only [iI,aB0,str_eq];simp only [aRg]
theorem bCm:iI P .geq t (.v (.string x)) (.v (.string y))=some (.v (.bool (!Op.bytesLess x.data.toList y.data.toList))):=by simp only [iI,aB0,str_eq];simp only [aRg]
theorem bCk(h:P.underlying t=some .bool):iI P .eql t (.v (.bool p)) (.v (.bool q))=some (.v (.bool (p==q))):=by simp [iI,h]
theorem bCq(h:P.underlying t=some .bool):iI P .neq t (.v (.bool p)) (.v (.bool q))=some (.v (.bool (!(p==q)))):=by simp [iI,h]
theorem bRi:aun .not (.v (.bool p))=some (.v (.bool (!p))):=rfl
theorem bRh:aun .neg (.v (.int k a))=some (.v (.int k (k.wrap (0-a)))):=rfl
end
def aLb(s:ByteArray)(i:Nat):Nat:=(s.data.toList.getD i 0).toNat
theorem bCu{t:TypeId}{s:ByteArray}{k:IntKind}{n:Int}(hu:P.underlying t=some .string)(h0:0≤n)(h1:n<s.size):
 aO6 P t (.v (.string s)) (.v (.int k n))=some (.v (.int .u8 (aLb s n.toNat))):=by
 have h:0≤n∧n.toNat<s.size:=⟨h0,by omega⟩
 simp only [aO6,hu];rw [dif_pos h]
 have:aLb s n.toNat=(s[n.toNat]'h.2).toNat:=by
  have h2:n.toNat<s.data.toList.length:=by simpa using h.2
  simp only [aLb,List.getD,List.getElem?_eq_getElem h2,Option.getD_some];rfl
 rw [this]
theorem gK{s d:TypeId}{ds:TypeDesc}{k k':IntKind}{n:Int}(h1:P.underlying s=some ds)(h2:P.underlying d=some (.int k)):mU P H s d (.v (.int k' n))=some (.v (.int k (k.wrap n))):=by
 simp only [mU,h1,h2]
theorem bD1{t:TypeId}{s:ByteArray}{lo hi:Option AV}{l h:Nat}(hu:P.underlying t=some .string)(h1:fV 0 lo=some l)(h2:fV s.size hi=some h)(hl:l≤h)(hh:h≤s.size):
 xJ P H t (.v (.string s)) lo hi none=some (.v (.string (s.extract l h))):=by
 simp only [xJ,hu,h1,h2];rw [if_pos ⟨hl,hh⟩]
theorem aZd(d:Nat):fV d none=some d:=rfl
theorem dV(e:Nat→Ent)(N i j:Nat)(x:Ent):aH.isFresh ⟨upd e i x,N⟩ j=bif j==i then (match x with| .fresh=>true|_=>false) else aH.isFresh ⟨e,N⟩ j:=by
 simp only [aH.isFresh,dM];cases j==i<;>rfl
theorem kZ(N j:Nat):aH.isFresh ⟨aZ,N⟩ j=true:=rfl
theorem dB{t e:TypeId}{xs:List AV}{n:Nat}{f:Bool}{ts:List TypeId}{r:List AV}(h:P.underlying t=some (.slice e)):bF P .len (t::ts) (.sl xs n f::r)=some (.v (.int .i64 n)):=by simp [bF,h]
theorem cY{t e:TypeId}{i o n:Nat}{ts:List TypeId}{r:List AV}(h:P.underlying t=some (.slice e)):bF P .len (t::ts) (.own i o n::r)=some (.v (.int .i64 n)):=by simp [bF,h]
theorem aAe{t:TypeId}{s:ByteArray}{ts:List TypeId}{r:List AV}(h:P.underlying t=some .string):bF P .len (t::ts) (.v (.string s)::r)=some (.v (.int .i64 s.size)):=by simp [bF,h]
theorem cX{t e:TypeId}{a:Option Addr}{n c:Nat}{ts:List TypeId}{r:List AV}(h:P.underlying t=some (.slice e)):bF P .len (t::ts) (.v (.slice a n c)::r)=some (.v (.int .i64 n)):=by simp [bF,h]
theorem aWj{ts:List TypeId}{k k':IntKind}{a b:Int} :bF P .min ts [.v (.int k a),.v (.int k' b)]=some (.v (.int k (if b<a then b else a))):=by
 cases ts<;>rfl
theorem aWi{ts:List TypeId}{k k':IntKind}{a b:Int} :bF P .max ts [.v (.int k a),.v (.int k' b)]=some (.v (.int k (if b>a then b else a))):=by
 cases ts<;>rfl
theorem bR7(H:aH)(x:Value):H.alive (.v x)=true:=rfl
theorem bM8(H:aH)(xs:List AV)(n:Nat)(f:Bool):H.alive (.sl xs n f)=true:=rfl
theorem bHg(H:aH)(xs:List AV):H.alive (.ptr xs)=true:=rfl
theorem bHe(H:aH)(xs:List AV):H.alive (.agg xs)=true:=rfl
def Ent.isCells:Ent→Bool| .cells .. =>true|_=>false
theorem bHf(H:aH)(i o n:Nat):H.alive (.own i o n)=(H.ent i).isCells:=by
 simp only [aH.alive];cases H.ent i<;>rfl
theorem bHd(H:aH)(i o:Nat):H.alive (.adr i o)=(H.ent i).isCells:=by
 simp only [aH.alive];cases H.ent i<;>rfl
theorem aUf(s:Nat)(xs:List AV)(l:Nat):(Ent.cells s xs l).isCells=true:=rfl
section
variable {e:Nat→Ent}{N id:Nat}
theorem aIa{t:TypeId}{x:Operand}{s:ByteArray}(hu:P.underlying t=some .string)(hx:ρ x= .v (.string s))(hf:aH.isFresh ⟨e,N⟩ id=true):
 eZ P ⟨e,N⟩ id ρ (.range t x)=some (.adr id 0,⟨upd e id (.iter s 0),N⟩):=by
 simp only [eZ,hu,hx,hf,if_true,aSx]
theorem aDa{it:Operand}{j pos:Nat}{s:ByteArray}(hi:ρ it= .adr j 0)(he:e j= .iter s pos)(hlt:pos<s.size):
 eZ P ⟨e,N⟩ id ρ (.next it true)=some (.tup [.v (.bool true),.v (.int .i64 pos),.v (.int .i32 (Utf8.decode s pos).1)],⟨upd e j (.iter s (pos+(Utf8.decode s pos).2)),N⟩):=by
 simp only [eZ,hi,he,hlt,if_true,aSx]
theorem aFb{it:Operand}{j pos:Nat}{s:ByteArray}(hi:ρ it= .adr j 0)(he:e j= .iter s pos)(hlt: ¬pos<s.size):
 eZ P ⟨e,N⟩ id ρ (.next it true)=some (.tup [.v (.bool false)],⟨e,N⟩):=by
 simp only [eZ,hi,he,hlt,if_false]
theorem aGm{t tx elem:TypeId}{d:TypeDesc}{i:TypeInfo}{z:Value}{s x:Operand}{j off len lock n sz:Nat}{xs new:List AV}(hu:P.underlying t=some (.slice elem))(hux:P.underlying tx=some d)
 (hd:TypeDesc.isInt d=false) (hi:P.info? elem=some i) (hsz:i.size=sz) (hby0:i.bytes≠0) (hz:i.zero=some z) (hzs:z.cells.size=sz) (hs0:sz≠0)
 (hs:ρ s= .own j off len) (he:e j= .cells sz xs lock) (hlen:off+len*sz=xs.length) (hx:aFa ⟨e,N⟩ sz (ρ x)=some (new,n)) (hf:aH.isFresh ⟨e,N⟩ id=true)
 (hby:(len+n)*i.bytes≤140737488355328) (hone:new.all AV.one=true):
 eZ P ⟨e,N⟩ id ρ (.call { callee:= .builtin .append,args:= #[s,x],argTypes:= #[t,tx] })=some (.own id 0 (len+n),⟨upd (upd e j .dead) id (.cells sz (xs.drop off++new) (lock-off)),N⟩):=by
 subst hsz
 have hb:aZ6 ⟨e,N⟩ i.size (.own j off len)=some (xs.drop off,len,lock-off,some j):=by
  simp only [aZ6,he];rw [if_pos ⟨trivial,hlen⟩]
 simp only [eZ,aK0,hu,hux,hd,hi,hs,hb,hx];rw [if_neg (by simp)];rw [if_pos ⟨hf,hs0,hby0,by simp [hz],by simp [hz,hzs],hby,hone,fun h=>by simp at h⟩];rfl
theorem bLv{sz j off n lock:Nat}{xs:List AV}(he:e j= .cells sz xs lock)(h:off+n*sz≤xs.length):aFa ⟨e,N⟩ sz (.own j off n)=some ((xs.drop off).take (n*sz),n):=by
 simp only [aFa,he];rw [if_pos ⟨trivial,h⟩]
theorem bQz{sz n:Nat}{f:Bool}{ys:List AV}(h:ys.length=n*sz):aFa ⟨e,N⟩ sz (.sl ys n f)=some (ys,n):=by
 simp only [aFa];rw [if_pos h]
theorem aFw{t elem:TypeId}{len sz:Nat}{zs xs:List AV}{parts:Array (Nat×Operand)}(hu:P.underlying t=some (.slice elem))(hsz:aO P elem=some sz)(hz:zeroCells? P elem=some zs)
 (hf:aH.isFresh ⟨e,N⟩ id=true) (hl:len*sz≤16777216) (hzl:zs.length=sz) (hs0:sz≠0) (h:nP (fun i=>some (i*sz,sz)) (zeros len zs) (parts.toList.map fun (i,x)=>(i,ρ x))=some xs):
 eZ P ⟨e,N⟩ id ρ (.buildSlice t len parts)=some (.own id 0 len,⟨upd e id (.cells sz xs 0),N⟩):=by
 simp only [eZ,hu,hsz,hz];rw [if_pos ⟨hf,hl,hzl,hs0⟩,h];rfl
theorem aV7{elem:TypeId}{x:Operand}{cs:List AV}(hx:(ρ x).cells? =some cs)(hf:aH.isFresh ⟨e,N⟩ id=true):
 eZ P ⟨e,N⟩ id ρ (.box elem x)=some (.adr id 0,⟨upd e id (.cells 1 cs 0),N⟩):=by
 simp only [eZ,hx,hf,if_true,aSx]
theorem nQ{elem:TypeId}{zs:List AV}(hz:zeroCells? P elem=some zs)(hf:aH.isFresh ⟨e,N⟩ id=true):
 eZ P ⟨e,N⟩ id ρ (.alloc elem)=some (.adr id 0,⟨upd e id (.cells 1 zs 0),N⟩):=by
 simp only [eZ,hz,hf,if_true,aSx]
theorem aPg{t:TypeId}{a x:Operand}{j off sz lock:Nat}{xs cs:List AV}(ha:ρ a= .adr j off)(hx:(ρ x).cells? =some cs)(he:e j= .cells sz xs lock)(hs:aO P t=some cs.length)(hl:lock≤off)
 (hlen:off+cs.length≤xs.length) (hone:cs.all AV.one=true):eZ P ⟨e,N⟩ id ρ (.store t a x)=some (.v undef,⟨upd e j (.cells sz (setAt xs off cs) lock),N⟩):=by
 simp only [eZ,ha,hx,he];rw [if_pos ⟨hs,hl,hlen,hone⟩];rfl
end
section
variable {fn:Func}{e:Exit}{n:Nat}{f:Nat→AV}{a b c:Tmp}{r1 r2 r3:AV}
theorem bMe(hr:fn.results= #[.tmp a]):yS P fn ⟨n,f,H⟩=some (aval f (.tmp a)):=by simp [yS,hr,aval]
theorem bV6(hr:fn.results= #[.tmp a,.tmp b]):yS P fn ⟨n,f,H⟩=some (.tup [aval f (.tmp a),aval f (.tmp b)]):=by simp [yS,hr,aval]
theorem bYv(hr:fn.results= #[.tmp a,.tmp b,.tmp c]):yS P fn ⟨n,f,H⟩=some (.tup [aval f (.tmp a),aval f (.tmp b),aval f (.tmp c)]):=by simp [yS,hr,aval]
theorem aNg(he:e= .normal∨e= .ret)(hr:fn.results= #[.tmp a])(h1:ToD false H (aval f (.tmp a)) r1):(e= .normal∨e= .ret)∧ ∃r',yS P fn ⟨n,f,H⟩=some r'∧ToD false H r' r1:=
 ⟨he,_,bMe hr,h1⟩
theorem aGg(he:e= .normal∨e= .ret)(hr:fn.results= #[.tmp a,.tmp b])(h1:ToD false H (aval f (.tmp a)) r1)(h2:ToD false H (aval f (.tmp b)) r2):
 (e= .normal∨e= .ret)∧ ∃r',yS P fn ⟨n,f,H⟩=some r'∧ToD false H r' (.tup [r1,r2]):=
 ⟨he,_,bV6 hr,.tup _ _ rfl (fun k x y hx hy=>by
  match k,hx,hy with
  |0,hx,hy=>cases hx;cases hy;exact h1
  |1,hx,hy=>cases hx;cases hy;exact h2)⟩
theorem bGx(he:e= .normal∨e= .ret)(hr:fn.results= #[.tmp a,.tmp b,.tmp c])(h1:ToD false H (aval f (.tmp a)) r1)(h2:ToD false H (aval f (.tmp b)) r2)(h3:ToD false H (aval f (.tmp c)) r3):
 (e= .normal∨e= .ret)∧ ∃r',yS P fn ⟨n,f,H⟩=some r'∧ToD false H r' (.tup [r1,r2,r3]):=
 ⟨he,_,bYv hr,.tup _ _ rfl (fun k x y hx hy=>by
  match k,hx,hy with
  |0,hx,hy=>cases hx;cases hy;exact h1
  |1,hx,hy=>cases hx;cases hy;exact h2
  |2,hx,hy=>cases hx;cases hy;exact h3)⟩
end
end
section
open Go.RowKit
variable {P:Program}{H:aH}{ρ:Operand→AV}
def bYz(l:List Nat):List AV:=l.map fun b=> .v (.int .u8 ((b:Nat):Int))
@[simp] theorem bV7(a:List Nat):(bYz a).length=a.length:=by simp [bYz]
section
variable {e:Nat→Ent}{N id:Nat}
theorem aRp{t tx elem:TypeId}{d:TypeDesc}{i:TypeInfo}{z:Value}{s x:Operand}{j len n sz:Nat}{xs new:List AV}(hu:P.underlying t=some (.slice elem))(hux:P.underlying tx=some d)
 (hd:TypeDesc.isInt d=false) (hi:P.info? elem=some i) (hsz:i.size=sz) (hby0:i.bytes≠0) (hz:i.zero=some z) (hzs:z.cells.size=sz) (hs0:sz≠0)
 (hs:ρ s= .own j 0 len) (he:e j= .cells sz xs 0) (hlen:len*sz=xs.length) (hx:aFa ⟨e,N⟩ sz (ρ x)=some (new,n)) (hf:aH.isFresh ⟨e,N⟩ id=true)
 (hby:(len+n)*i.bytes≤140737488355328) (hone:new.all AV.one=true):
 eZ P ⟨e,N⟩ id ρ (.call { callee:= .builtin .append,args:= #[s,x],argTypes:= #[t,tx] })=some (.own id 0 (len+n),⟨upd (upd e j .dead) id (.cells sz (xs++new) 0),N⟩):=by
 have:=aGm hu hux hd hi hsz hby0 hz hzs hs0 hs he om hx hf hby hone
 simpa using this
theorem cells_one{a:AV}(h:a.one=true):a.cells? =some [a]:=by
 cases a<;>simp_all [AV.cells?,AV.one]
theorem bCi{sz j n lock:Nat}{xs:List AV}(he:e j= .cells sz xs lock)(h:n*sz=xs.length):aFa ⟨e,N⟩ sz (.own j 0 n)=some (xs,n):=by
 have:=bLv (N:=N) (off:=0) (n:=n) he om;rw [this,h];simp
end
theorem aB4{t:TypeId}{a:AV}{d:TypeDesc}(hu:P.underlying t=some d)(hn: ∀m,d≠ .interface m):nD P (.ifc t a) t true=some (.tup [a,.v (.bool true)]):=by
 cases d<;>first|exact absurd rfl (hn _)|simp [nD,hu]
theorem yQ{t t':TypeId}{a:AV}{d:TypeDesc}{i:TypeInfo}{z:Value}(hu:P.underlying t=some d)(hn: ∀m,d≠ .interface m)(hne:t'≠t)(hi:P.info? t=some i)(hz:i.zero=some z):
 nD P (.ifc t' a) t true=some (.tup [constAV z,.v (.bool false)]):=by
 cases d<;>first|exact absurd rfl (hn _)|simp [nD,hu,hne,hi,hz]
theorem aZ7{t:TypeId}{d:TypeDesc}{i:TypeInfo}{z:Value}(hu:P.underlying t=some d)(hn: ∀m,d≠ .interface m)(hi:P.info? t=some i)(hz:i.zero=some z):
 nD P (.v .nilIface) t true=some (.tup [constAV z,.v (.bool false)]):=by
 cases d<;>first|exact absurd rfl (hn _)|simp [nD,hu,hi,hz]
theorem aC2{B:Nat→Prop}{n N:Nat}{f:Nat→AV}{e:Nat→Ent}(k id sz:Nat)(hk:aval f (.tmp k)= .v (.slice none 0 0))(hf:aH.isFresh ⟨e,N⟩ id=true):
 (⟨n,f,⟨e,N⟩⟩:St).Le B ⟨n,aF f k (.own id 0 0),⟨upd e id (.cells sz [] 0),N⟩⟩:=St.Le.nil (s:=⟨n,f,⟨e,N⟩⟩) k id sz hk hf
theorem cE.of_val{f:FuncId}{vs:List Value}{v:Value}(h: ∀w,Calls P f vs.toArray w fun e w'=>e= .returned v∧w'=w):cE P f (vs.map .v) (.v v):=by
 intro w X xs _ hr
 have e:xs=vs.toArray:=by
  obtain ⟨h1,h2⟩:=hr;apply Array.ext
  · simpa using h1
  ·
   intro i hi hj;have hj':i<vs.length:=by simpa using hj
   have:=h2 i (.v vs[i]) (by simp [hj']);have:=this.v_inv
   simpa [Array.getD,hi,hj'] using this
 subst e;refine (h w).mono ?_;rintro e w' ⟨rfl,rfl⟩;exact ⟨v,rfl,.v v,Below.refl ..⟩
end
attribute [irreducible] aR KN aF8 yP AIn AWp dR
end Go.AM
