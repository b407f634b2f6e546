/- Facts. No condition. -/
import Derived.Test.YtkdohhmacfoolaaGreatDoorPgAmD
set_option linter.unusedSimpArgs false
set_option linter.unusedVariables false
set_option maxRecDepth 4000
namespace Go.AM
open Go.RowKit
attribute [local semireducible] aR KN aF8 yP AIn AWp dR
variable {P:Program}{B:Nat→Prop}
theorem aD6{X:Nat→Nat→Prop}{H:aH}{O:Nat→OSt}{id:Nat}{e:Ent}(hl:e.lock=(H.ent id).lock):Mut X (H.put id e) O=Mut X H O:=by
 funext b i
 have: ∀j,((H.put id e).ent j).lock=(H.ent j).lock:=fun j=>by
  by_cases h:j=id
  · subst h;simp only [aH.put,upd_same,hl]
  · simp only [aH.put,upd_ne _ _ _ _ h]
 simp only [Mut,this]
theorem Sim.swap{X:Nat→Nat→Prop}{w0 w:World}{H:aH}{O:Nat→OSt}(hs:Sim X w0 w H O){id:Nat}{e:Ent}(hl:e.lock=(H.ent id).lock)
 (he:aB3 w0.heap.size w (Mut X H O) O id e):Sim X w0 w (H.put id e) O:=by
 refine ⟨hs.below,hs.xlt,fun j=>?_,hs.inj⟩;rw [aD6 hl]
 by_cases h:j=id
 · subst h;simpa only [aH.put,upd_same] using he
 ·
  have:(H.put id e).ent j=H.ent j:=by simp only [aH.put,upd_ne _ _ _ _ h]
  rw [this];exact hs.ent j
theorem Real.swap{C:Ctx}{s:St}{a:Act}{w:World}(hr:Real C s a w){id:Nat}{e:Ent}(hl:e.lock=(s.H.ent id).lock)
 (he: ∀O,Sim C.X C.w0 w s.H O→aB3 C.w0.heap.size w (Mut C.X s.H O) O id e):Real C ⟨s.n,s.f,s.H.put id e⟩ a w:=by
 obtain ⟨hd,O,hs,hv,ht⟩:=hr;refine ⟨hd,O,hs.swap hl (he O hs),?_,?_⟩
 · show FR w (Mut C.X (s.H.put id e) O) O _ _ _;rw [aD6 hl];exact hv
 · show fQ _ _ _ w (Mut C.X (s.H.put id e) O) O;rw [aD6 hl];exact ht
theorem aB3.hide{n:Nat}{w:World}{M:Nat→Nat→Prop}{O:Nat→OSt}{id sz:Nat}{xs:List AV}{I:List AV→Prop}(h:aB3 n w M O id (.cells sz xs 0))(hI:I xs)(hd: ∀a,a∈xs→Data a):
 aB3 n w M O id (.hid sz I):=by
 refine ⟨xs,hI,?_⟩;rcases h with ⟨h1,h2,_⟩|⟨o,h1,h2,_,h4,h5,c,elem,fr,h6,h7,h8,h9⟩
 · exact .inl ⟨h1,h2⟩
 · exact .inr ⟨o,h1,h2,h4,h5,c,elem,fr,h6,h7,h8,fun k a hk=>(h9 k a hk).data (hd a (List.mem_of_getElem? hk)) fun _ _ _ h=>h⟩
theorem aB3.unhide{n:Nat}{w:World}{M:Nat→Nat→Prop}{O:Nat→OSt}{id sz:Nat}{I:List AV→Prop}(h:aB3 n w M O id (.hid sz I)):
 ∃xs,I xs∧aB3 n w M O id (.cells sz xs 0):=by
 obtain ⟨xs,hI,h⟩:=h;refine ⟨xs,hI,?_⟩;rcases h with ⟨h1,h2⟩|⟨o,h1,h2,h4,h5,c,elem,fr,h6,h7,h8,h9⟩
 · exact .inl ⟨h1,h2,rfl⟩
 · exact .inr ⟨o,h1,h2,Nat.zero_le _,h4,h5,c,elem,fr,h6,h7,h8,fun k a hk=>RV.fromNone (h9 k a hk)⟩
theorem St.Le.hide{s:St}{id sz:Nat}{xs:List AV}{I:List AV→Prop}(he:s.H.ent id= .cells sz xs 0)(hI:I xs)(hd: ∀a,a∈xs→Data a):
 s.Le B ⟨s.n,s.f,s.H.put id (.hid sz I)⟩:=by
 intro C a w _ hr;refine hr.swap (by rw [he];rfl) fun O hs=>?_;have:=hs.ent id;rw [he] at this;exact this.hide hI hd
theorem AWp.unhide{c:Code}{Q:Exit→St→Prop}{s:St}{id sz:Nat}{I:List AV→Prop}(he:s.H.ent id= .hid sz I)(h: ∀xs,I xs→AWp P B c Q ⟨s.n,s.f,s.H.put id (.cells sz xs 0)⟩):
 AWp P B c Q s:=by
 unfold AWp;intro C a w hb hr
 have: ∃xs,I xs∧Real C ⟨s.n,s.f,s.H.put id (.cells sz xs 0)⟩ a w:=by
  obtain ⟨hd,O,hs,hv,ht⟩:=hr;have h0:=hs.ent id;rw [he] at h0;obtain ⟨xs,hI,h1⟩:=h0.unhide;have hl:(Ent.cells sz xs 0).lock=(s.H.ent id).lock:=by rw [he];rfl
  refine ⟨xs,hI,hd,O,hs.swap hl h1,?_,?_⟩
  · show FR w (Mut C.X (s.H.put id _) O) O _ _ _;rw [aD6 hl];exact hv
  · show fQ _ _ _ w (Mut C.X (s.H.put id _) O) O;rw [aD6 hl];exact ht
 obtain ⟨xs,hI,hr'⟩:=this;have:=h xs hI;unfold AWp at this;exact this C a w hb hr'
theorem bGv(H:aH)(id:Nat)(e e':Ent):(H.put id e).put id e'=H.put id e':=by
 simp only [aH.put];congr 1;funext j;unfold upd;split<;>rfl
theorem bPq(H:aH)(id:Nat)(e:Ent)(h:H.ent id=e):H.put id e=H:=by
  cases H with | mk f n => simp only [aH.put]; congr 1; funext j; unfold upd; split
                           · rename_i h';subst h';exact h.symm
                           · rfl
theorem eK.hid{g:FuncId}{args:List AV}{r:AV}{id sz:Nat}{I:List AV→Prop}
 (h: ∀xs,I xs→ ∃ys,I ys∧(∀a,a∈ys→Data a)∧ ∀H:aH,H.ent id= .cells sz xs 0→eK P g args H r (H.put id (.cells sz ys 0))) {H:aH} (he:H.ent id= .hid sz I):eK P g args H r H:=by
 intro X w0 w O vs hs hv;have h0:=hs.ent id;rw [he] at h0;obtain ⟨xs,hI,h1⟩:=h0.unhide;have hl:(Ent.cells sz xs 0).lock=(H.ent id).lock:=by rw [he];rfl
 obtain ⟨ys,hJ,hd,hc⟩:=h xs hI;have hs':=hs.swap hl h1;have hm:Mut X (H.put id (.cells sz xs 0)) O=Mut X H O:=aD6 hl;have:=hc (H.put id (.cells sz xs 0)) (by simp only [aH.put,upd_same]) X w0 w O vs hs' (by rw [hm];exact hv);rw [bGv,hm] at this;refine this.mono ?_;rintro e w' ⟨v,O',h2,h3,h4,h5⟩;have hl2: ∀O',Mut X (H.put id (.cells sz ys 0)) O'=Mut X H O':=fun O'=>aD6 (by rw [he];rfl);refine ⟨v,O',h2,?_,?_,?_⟩
 ·
  have h6:=h3.ent id;simp only [aH.put,upd_same] at h6
  have h7:=h3.swap (id:=id) (e:= .hid sz I) (by simp only [aH.put,upd_same];rfl) (by
   have:=h6.hide hJ hd;exact this)
  rw [bGv,bPq _ _ _ he] at h7;exact h7
 · rw [hl2] at h4;exact h4
 · rw [hl2] at h5;exact h5
theorem St.Le.cells{s:St}{id sz l:Nat}{xs ys:List AV}(he:s.H.ent id= .cells sz xs l)(hl:ys.length=xs.length)(h: ∀(k:Nat) (a b:AV),xs[k]? =some a→ys[k]? =some b→ToD true s.H a b):
 s.Le B ⟨s.n,s.f,s.H.put id (.cells sz ys l)⟩:=by
 intro C a w _ hr;refine hr.swap (by rw [he];rfl) fun O hs=>?_;have h0:=hs.ent id;rw [he] at h0;rcases h0 with ⟨h1,h2,h3⟩|⟨o,h1,h2,h3,h4,h5,c,elem,fr,h6,h7,h8,h9⟩
 · subst h2;exact .inl ⟨h1,List.eq_nil_of_length_eq_zero hl,h3⟩
 ·
  refine .inr ⟨o,h1,h2,by omega,h4,by omega,c,elem,fr,h6,h7,h8,fun k b hk=>?_⟩
  have hlt:k<xs.length:=by
   rw [←hl];exact (List.getElem?_eq_some_iff.1 hk).1
  have e:xs[k]? =some xs[k]:=List.getElem?_eq_getElem hlt;exact (h k _ b e hk).sound hs (fun _ _ _ h=>h) (fun h=>by cases h) (h9 k _ e)
def bW7:Nat→Prop:=fun _=>True
theorem eK.of_bodyAll{f:FuncId}{fn:Func}{c:Code}{args:List AV}{H:aH}{r:AV}{H':aH}(hf:P.funcs[f]? =some fn)(hb:fn.body=some c)
 (h:AWp P bW7 c (fun e s=>(e= .normal∨e= .ret)∧yS P fn s=some r∧s.H.ent=H'.ent) ⟨args.length+(fn.ntmps-args.length),aIb args,H⟩):eK P f args H r H':=
 eK.of_body hf hb (fun _ h=>absurd trivial h) h
theorem aF7(e:Nat→Ent)(i:Nat)(x y:Ent):upd (upd e i x) i y=upd e i y:=by funext j;unfold upd;split<;>rfl
theorem eK.of_bodyM{f:FuncId}{fn:Func}{c:Code}{args:List AV}{H:aH}{r:AV}{i0:Nat}{x y:Ent}(hf:P.funcs[f]? =some fn)(hb:fn.body=some c)(he:H.ent i0=x)
 (h:AWp P bW7 c (fun e s=>(e= .normal∨e= .ret)∧yS P fn s=some r∧s.H.ent=upd H.ent i0 y) ⟨args.length+(fn.ntmps-args.length),aIb args,⟨upd H.ent i0 x,0⟩⟩):eK P f args H r (H.put i0 y):=by
 refine eK.of_bodyAll hf hb ?_
 have e:upd H.ent i0 x=H.ent:=by
  funext j;unfold upd;split
  · rename_i h';subst h';exact he.symm
  · rfl
 rw [e] at h;exact AWp.weaken St.Le.nxt h
theorem sD{n N N':Nat}{f g:Nat→AV}{e e':Nat→Ent}(hf: ∀k,g k= .any∨g k=f k)(he:e=e'):(⟨n,f,⟨e,N⟩⟩:St).Le B ⟨n,g,⟨e',N'⟩⟩:=by
 subst he;intro C a w _ hr;obtain ⟨hd,O,hs,hv,ht⟩:=hr;refine ⟨hd,O,⟨hs.below,hs.xlt,hs.ent,hs.inj⟩,⟨hv.1,fun k=>?_⟩,ht⟩;rcases hf k with h|h
 · show RV w _ O _ (g k);rw [h];exact .any _
 · show RV w _ O _ (g k);rw [h];exact hv.2 k
theorem nF{f:Nat→AV} : ∀k:Nat,(fun _=>AV.any) k= .any∨(fun _=>AV.any) k=f k:=fun _=> .inl rfl
theorem bD{f g:Nat→AV}(i:Nat)(x:AV)(h:aval f (.tmp i)=x)(hg: ∀k,g k= .any∨g k=f k): ∀k,aF g i x k= .any∨aF g i x k=f k:=by
 intro k;unfold aF
 by_cases hk:k=i
 · subst hk;simp only [if_true];exact .inr h.symm
 · simp only [hk,if_false];exact hg k
theorem sE{f:Nat→AV}{i j off m len:Nat}(h:aval f (.tmp i)= .own j off m)(hm:m=len):aval f (.tmp i)= .own j off len:=by rw [h,hm]
theorem bBl{fn:Func}{e:Exit}{a n N:Nat}{f:Nat→AV}{x:AV}{h h':Nat→Ent}(he:e= .normal∨e= .ret)(hr:fn.results= #[.tmp a])(h1:aval f (.tmp a)=x)(hh:h=h'):
 (e= .normal∨e= .ret)∧yS P fn ⟨n,f,⟨h,N⟩⟩=some x∧(⟨n,f,⟨h,N⟩⟩:St).H.ent=h':=⟨he,by rw [bMe hr];exact congrArg some h1,hh⟩
theorem cAz{fn:Func}{e:Exit}{n N:Nat}{f:Nat→AV}{h h':Nat→Ent}(he:e= .normal∨e= .ret)(hr:fn.results= #[])(hh:h=h'):
 (e= .normal∨e= .ret)∧yS P fn ⟨n,f,⟨h,N⟩⟩=some (.tup [])∧(⟨n,f,⟨h,N⟩⟩:St).H.ent=h':=⟨he,by unfold yS;rw [hr];rfl,hh⟩
theorem bU4{n N:Nat}{f:Nat→AV}{e:Nat→Ent}{id sz:Nat}{xs:List AV}{I:List AV→Prop}(he:e id= .cells sz xs 0)(hI:I xs)(hd: ∀a,a∈xs→Data a):
 (⟨n,f,⟨e,N⟩⟩:St).Le B ⟨n,f,⟨upd e id (.hid sz I),N⟩⟩:=St.Le.hide (s:=⟨n,f,⟨e,N⟩⟩) he hI hd
theorem AWp.unhide'{c:Code}{Q:Exit→St→Prop}{n N:Nat}{f:Nat→AV}{e:Nat→Ent}{id sz:Nat}{I:List AV→Prop}(he:e id= .hid sz I)(h: ∀xs,I xs→AWp P B c Q ⟨n,f,⟨upd e id (.cells sz xs 0),N⟩⟩):
 AWp P B c Q ⟨n,f,⟨e,N⟩⟩:=AWp.unhide (s:=⟨n,f,⟨e,N⟩⟩) he h
theorem aR.callH{strict:Bool}{ops:Array Oper}{base i n d:Nat}{rest:List Oper}{K:St→Prop}{t:Nat→AV}{H:aH}{ty:TypeId}{pos:String}{after:Array Edge}{r:AV}(hd:d<n){f:Operand}{args:Array Operand}{ats:Array TypeId}{g:FuncId}{args':List AV}
 (hf:aval t f= .clo (.func g) [] []) (hb:(P.funcs[g]?).any (fun fn=>fn.body.isSome&&fn.name != "runtime.NumGoroutine")=true) {id sz:Nat} {I:List AV→Prop} (he:H.ent id= .hid sz I)
 (ha:args.toList.map (aval t)=args') {o l:Nat} (hm:AV.own id o l∈args') (hc: ∀H':aH,H'.ent id= .hid sz I→eK P g args' H' r H') (k:aR P strict ops base (i+1) rest K ⟨n,aF t d r,H⟩):
 aR P strict ops base i (⟨some d,.call { callee:= .value f,args:=args,argTypes:=ats },ty,pos,after,none⟩::rest) K ⟨n,t,H⟩:=by
 have hA: ∀H':aH,(∀x,x∈args→ ∀j,iW (aval t x)=some j→H.ent j=H'.ent j)→eK P g ([]++args.toList.map (aval t)++[]) H' r H':=fun H' hH=>by
  rw [List.nil_append,List.append_nil,ha];refine hc H' ?_;rw [←ha] at hm;obtain ⟨x,hx,hx'⟩:=List.mem_map.1 hm;rw [←hH x (by simpa using hx) id (by rw [hx'];rfl)];exact he
 exact ⟨_,(⟨hd,g,[],[],r,H,hf,hb,fun H' _ hH=>hA H' hH,fun _=>rfl,hA H fun _ _ _ _=>rfl,rfl⟩:dR P strict ops (base+i) ⟨some d,.call { callee:= .value f,args:=args,argTypes:=ats },ty,pos,after,none⟩ ⟨n,t,H⟩ ⟨n,aF t d r,H⟩),k⟩
theorem bVq{a:AV}(h:Data a):aRm a:=fun w M O x hx=>hx.data h fun _ _ _ h=>h
theorem aN2{s:Sem Value}{w w':World} :(do pure (.value (←s)):Sem Next).run P w≠ .ok .skip w':=by
 intro h;rw [Sem.run_bind] at h
 cases hs:s.run P w with
 |ok v w1=>rw [hs] at h;cases h
 |_=>rw [hs] at h;cases h
theorem bD7{o:Oper}{ρ:Operand→Value}{w w':World}(hc:sP o.op=1):(execOp ρ o).run P w≠ .ok .skip w':=by
 unfold execOp
 cases ho:o.op with
 |call c=>
  rw [ho] at hc;obtain ⟨callee,args,ats⟩:=c
  cases callee with
  |builtin b=>cases b<;>simp [sP] at hc
  |value f=>simp [sP] at hc
  |invoke r m=>simp [sP] at hc
 |alloc e=>exact aN2
 |box e x=>exact aN2
 |buildSlice t l p=>exact aN2
 |makeSlice t l c=>exact aN2
 |range t x=>exact aN2
 |_=>rw [ho] at hc;simp [sP] at hc
theorem aNc{op:Op}{xs:Operand→AV}{r r':AV}{H1:aH}(hc:sP op=1)(h:eZ P aH.empty 0 xs op=some (r,H1))(hto:ToD false H1 r r'):POp P op xs r':=by
 intro o w X ρ ho hX hρ;subst ho;obtain ⟨e,h1,h2,h3⟩:=aPe hc h
 classical
 have h4:=h3 aH.empty (fun x=>if x∈o.op.operands then xs x else .any) h1 (fun x hx=>by simp only [hx,if_true])
 obtain ⟨v,w',O',h5,h6,h7,h8⟩:=aPf (Sim.start w X hX) (ρ:=ρ) (ρa:=fun x=>if x∈o.op.operands then xs x else .any) (fun x=>by
  by_cases hx:x∈o.op.operands
  · simp only [hx,if_true];rw [aJz];exact hρ x hx
  · simp only [hx,if_false];exact .any _) h4
 rcases h5 with h5|⟨h5,_⟩
 · refine ⟨v,w',h5,?_,h6.below⟩;rw [←h2] at h6 h8;exact hto.sound h6 (fun b i _ hm hx=>hm (.inl hx)) (fun _ id o i ho hx=>by have h7:w.heap.size≤o.b:=(h6.live_lt ho).1;have:=hX.lt _ _ hx;omega) h8
 · exact absurd h5 (bD7 hc)
section
variable {strict:Bool}{ops:Array Oper}{base i:Nat}{rest:List Oper}{K:St→Prop}{n:Nat}{t:Nat→AV}{H:aH}{d:Tmp}{op:Op}{ty:TypeId}{pos:String}{after:Array Edge}{r:AV}{N:Nat}{f:Nat→AV}{e:Nat→Ent}
theorem aR.pop(hd:d<n)(h0: ∀x,x∈op.operands→aRm (aval t x))(h:POp P op (aval t) r)(hne:xW op=false)(k:aR P strict ops base (i+1) rest K ⟨n,aF t d r,H⟩):
 aR P strict ops base i (⟨some d,op,ty,pos,after,none⟩::rest) K ⟨n,t,H⟩:=
 ⟨_,(show dR P strict ops (base+i) ⟨some d,op,ty,pos,after,none⟩ ⟨n,t,H⟩ ⟨n,aF t d r,H⟩ from ⟨hd,aDi (o:=⟨some d,op,ty,pos,after,none⟩) (s:=⟨n,t,H⟩) h0 h hne⟩),k⟩
theorem aNb{α:Type}{c:α→List AV}{sz:Nat}(hC:CF c sz){l:List α}{t el:TypeId}{len:Nat}{zs xs:List AV}{ρ:Operand→AV}{parts:Array (Nat×Operand)}{ps:List (Nat×AV)}(hu:P.underlying t=some (.slice el))(hsz:aO P el=some sz)(hz:zeroCells? P el=some zs)
 (hlen:len*sz≤16777216) (hzs:zs.length=sz) (h0:sz≠0) (hps:parts.toList.map (fun (i,x)=>(i,ρ x))=ps)
 (hxs:(nP (fun i=>some (i*sz,sz)) (zeros len zs) ps,len)=(some xs,l.length)) (htd: ∀H,oR false H xs (l.flatMap c)):POp P (.buildSlice t len parts) ρ (.sl (l.flatMap c) l.length false):=by
 obtain ⟨hx,hl⟩:=Prod.mk.inj hxs;subst hps;have h:=aFw (P:=P) (N:=0) (id:=0) (e:=aZ) (ρ:=ρ) hu hsz hz rfl hlen hzs h0 hx;refine aNc rfl h ?_;have hlx:=(htd aH.empty).length_eq;have hfl:=hC.fmlen l;rw [←hl];refine ToD.own 0 0 len sz xs _ 0 (by simp [upd]) (fun h=>by cases h) (by rw [hlx,hfl,←hl];omega) (by rw [hfl,hl]) (fun k a b ha hb=>?_);rw [Nat.zero_add] at ha;obtain ⟨a',h1,h2⟩:=(htd ⟨upd aZ 0 (.cells sz xs 0),0⟩).get k b hb;rw [ha] at h1;cases h1;exact h2
theorem aEu{t:TypeId}{len:Nat}{ρ:Operand→AV}{parts:Array (Nat×Operand)}{ps:List (Nat×AV)}(hps:parts.toList.map (fun (i,x)=>(i,ρ x))=ps)(h: ∀p,p∈ps→Data p.2):
 ∀x,x∈(Op.buildSlice t len parts).operands→aRm (ρ x):=by
 subst hps;intro x hx;simp only [Op.operands] at hx;have: ∃p,p∈parts.toList∧p.2=x:=by simp at hx;obtain ⟨i,hi⟩:=hx;exact ⟨(i,x),by simpa using hi,rfl⟩
 obtain ⟨p,h1,h2⟩:=this;refine bVq ?_;have:=h (p.1,ρ p.2) (List.mem_map.2 ⟨p,h1,rfl⟩);rw [←h2];exact this
theorem aR9: ∀p:Nat×AV,p∈([]:List (Nat×AV))→Data p.2:=fun _ h=>by cases h
theorem aBb{i:Nat}{x:AV}{ps:List (Nat×AV)}(h:Data x)(h': ∀p,p∈ps→Data p.2): ∀p,p∈(i,x)::ps→Data p.2:=by
 intro p hp;rcases List.mem_cons.1 hp with rfl|hp
 · exact h
 · exact h' p hp
theorem aSg(id:Nat){sz l:Nat}{xs ys:List AV}(he:e id= .cells sz xs l)(h:oR true ⟨e,N⟩ xs ys):(⟨n,f,⟨e,N⟩⟩:St).Le B ⟨n,f,⟨upd e id (.cells sz ys l),N⟩⟩:=
 St.Le.cells (s:=⟨n,f,⟨e,N⟩⟩) he h.length_eq.symm fun k a b ha hb=>by
  obtain ⟨a',h1,h2⟩:=h.get k b hb;rw [ha] at h1;cases h1;exact h2
theorem bOp(id:Nat){sz l:Nat}{xs:List AV}(he:e id= .cells sz xs l):(⟨n,f,⟨e,N⟩⟩:St).Le B ⟨n,f,⟨upd e id (.cells sz xs xs.length),N⟩⟩:=by
 have h:=St.Le.lock (B:=B) (s:=⟨n,f,⟨e,N⟩⟩) [id]
 have e1:(⟨e,N⟩:aH).lockIds [id]=⟨upd e id (.cells sz xs xs.length),N⟩:=by
  simp only [aH.lockIds];congr 1;funext j
  by_cases hj:j=id
  · subst hj;simp [upd,he]
  · simp [upd,hj]
 rw [e1] at h;exact h
theorem bR6{α:Type}{c:α→List AV}{sz:Nat}(hC:CF c sz){t:TypeId}{ρ:Operand→AV}{a x:Operand}{id j lk off m:Nat}{iv:Int}{l l':List α}{y y':α}{cs:List AV}(hs:aO P t=some m)(ha:ρ a= .adr j (0+iv.toNat*sz+off))(hx:(ρ x).cells? =some cs)(he:e j= .cells sz (l.flatMap c) lk)
 (hlk:lk=0) (hv:idx l iv=some y) (hm:cs.length=m) (hfit:off+m≤sz) (hone:cs.all AV.one=true) (hset:setAt (c y) off cs=c y') (hv':stt l iv y'=some l'):eZ P ⟨e,N⟩ id ρ (.store t a x)=some (.v undef,⟨upd e j (.cells sz (l'.flatMap c) 0),N⟩):=by
 subst hlk hm;obtain ⟨h1,h2,h3⟩:=aTf hv';have hl:=hC.fmlen l;have hb:iv.toNat*sz+sz≤l.length*sz:=by rw [←Nat.succ_mul];exact Nat.mul_le_mul_right _ om
 rw [aPg ha hx he hs (Nat.zero_le _) om hone];have hlt:iv.toNat<l.length:=by omega
 obtain ⟨_,_,hy⟩:=aOj hv;have hy':l[iv.toNat]=y:=by rw [List.getElem?_eq_getElem hlt] at hy;exact Option.some.inj hy
 have e1:l=l.take iv.toNat++y::l.drop (iv.toNat+1):=by rw [←hy',←List.drop_eq_getElem_cons hlt,List.take_append_drop]
 have e2:l'=l.take iv.toNat++y'::l.drop (iv.toNat+1):=by rw [h3];rw [List.set_eq_take_append_cons_drop,if_pos hlt]
 have e3:c y=(c y).take off++(((c y).drop off).take cs.length++(c y).drop (off+cs.length)):=by
  rw [←List.drop_drop,List.take_append_drop,List.take_append_drop]
 have l1:((c y).take off).length=off:=by rw [List.length_take,hC.len];omega
 have l2:(((c y).drop off).take cs.length).length=cs.length:=by rw [List.length_take,List.length_drop,hC.len];omega
 have l3:((l.take iv.toNat).flatMap c).length=iv.toNat*sz:=by rw [hC.fmlen,List.length_take,Nat.min_eq_left om]
 have s1:setAt (c y) off cs=(c y).take off++(cs++(c y).drop (off+cs.length)):=by
  have:=aP3 ((c y).take off) _ cs ((c y).drop (off+cs.length)) l2;rw [←e3,l1] at this;exact this
 have s2:=aP3 ((l.take iv.toNat).flatMap c++(c y).take off) _ cs ((c y).drop (off+cs.length)++(l.drop (iv.toNat+1)).flatMap c) l2
 have e4:l.flatMap c=((l.take iv.toNat).flatMap c++(c y).take off)++(((c y).drop off).take cs.length++((c y).drop (off+cs.length)++(l.drop (iv.toNat+1)).flatMap c)):=by
  conv=>lhs;rw [e1,List.flatMap_append,List.flatMap_cons,e3]
  simp only [List.append_assoc]
 have e5:l'.flatMap c=((l.take iv.toNat).flatMap c++(c y).take off)++(cs++((c y).drop (off+cs.length)++(l.drop (iv.toNat+1)).flatMap c)):=by
  rw [e2,List.flatMap_append,List.flatMap_cons,←hset,s1];simp only [List.append_assoc]
 rw [←e4,List.length_append,l3,l1,←e5] at s2;rw [Nat.zero_add,s2]
inductive Wks(H':aH)(ren:Nat→Nat):List AV→List AV→Prop where
  |nil:Wks H' ren [] []
  |cons {x y:AV} {xs ys:List AV} (h:Wk H' ren x y) (h':Wks H' ren xs ys):Wks H' ren (x::xs) (y::ys)
theorem Wks.len{H':aH}{ren:Nat→Nat}{xs ys:List AV}(h:Wks H' ren xs ys):xs.length=ys.length:=by
 induction h with
 |nil=>rfl
 |cons _ _ ih=>simp [ih]
theorem Wks.get{H':aH}{ren:Nat→Nat}{xs ys:List AV}(h:Wks H' ren xs ys): ∀(k:Nat) (a:AV),xs[k]? =some a→ ∃b,ys[k]? =some b∧Wk H' ren a b:=by
 induction h with
 |nil=>intro k a h;simp at h
 |cons h _ ih=>
  intro k a hk
  cases k with
  |zero=>simp at hk;subst hk;exact ⟨_,rfl,h⟩
  |succ k=>exact ih k a (by simpa using hk)
theorem jR{H H':aH}{ren:Nat→Nat}{i sz l:Nat}{xs ys:List AV}(h:H.ent (ren i)= .cells sz ys l)(hl:l=0)(hw:Wks H' ren xs ys):lX H H' ren i (.cells sz xs 0):=by
 subst hl;exact .inr ⟨ys,0,h,Nat.le_refl _,Nat.zero_le _,by rw [hw.len];exact Nat.le_refl _,hw.get⟩
theorem vE{H':aH}{ren:Nat→Nat}{id off len j m:Nat}(hm:m=len)(hr:ren id=j)(hn:H'.ent id≠ .fresh):Wk H' ren (.own id off len) (.own j off m):=by
 subst hm;rw [←hr];exact .own id off m hn
end
theorem aK1{t el:TypeId}{xs:List AV}{n:Nat}{f:Bool}(hu:P.underlying t=some (.slice el))(h:n≠0):iI P .eql t (.sl xs n f) (.v (.slice none 0 0))=some (.v (.bool false)):=by
 cases n with
 |zero=>exact absurd rfl h
 |succ n=>simp only [iI,hu]
theorem aK2{t el:TypeId}{a:Addr}{c:Nat}(hu:P.underlying t=some (.slice el)):iI P .eql t (.v (.slice (some a) 0 c)) (.v (.slice none 0 0))=some (.v (.bool false)):=by simp only [iI,hu];rfl
theorem aMd{t el:TypeId}(hu:P.underlying t=some (.slice el)):iI P .eql t (.v (.slice none 0 0)) (.v (.slice none 0 0))=some (.v (.bool true)):=by simp only [iI,hu];rfl
theorem aBv{t ty:TypeId}{H:aH}{ρ:Operand→AV}{x y:Operand}{a b r:AV}(hx:ρ x=a)(hy:ρ y=b)(h:iI P .eql t a b=some r):bJ P H ρ (.binOp .eql t x y ty)=some r:=by
 simp only [bJ,hx,hy];exact h
theorem aR5{e:Nat→Ent}{N sz:Nat}{α:Type}{c:α→List AV}{x:AV}{a:Addr}{cp:Nat}(h:x= .v (.slice (some a) 0 cp)):aFa ⟨e,N⟩ sz x=some (([]:List α).flatMap c,0):=by subst h;rfl
theorem fP.nil_arg{f:FuncId}{sz len:Nat}{xs:List AV}(h1:fP P f [.v (.slice none 0 0)] sz xs len)(h2: ∀a c,fP P f [.v (.slice (some a) 0 c)] sz xs len):fP P f [.sl [] 0 false] sz xs len:=by
 intro w X vs hX hv;have h0:=hv.2 0 _ rfl
 have key: ∀x:Value,RV w X jO x (.sl [] 0 false)→ ∃a c,x= .slice a 0 c∧(a=none→c=0):=fun x hx=>by
  cases hx with
  |sl b off cap _ _ _ cs hc hx hl hf=>exact ⟨_,_,rfl,fun h=>by cases h⟩
  |slnil a _=>exact ⟨_,_,rfl,fun _=>rfl⟩
 obtain ⟨a,c,e,hac⟩:=key _ h0
 have hv':RVs w X jO vs [.v (.slice a 0 c)]:=⟨hv.1,fun k b hk=>by
  cases k with
  |zero=>simp at hk;subst hk;rw [e];exact .v _
  |succ k=>simp at hk⟩
 cases a with
 |none=>rw [hac rfl] at hv';exact h1 w X vs hX hv'
 |some a=>exact h2 a c w X vs hX hv'
theorem cE.of_fresh{α:Type}{c:α→List AV}{sz:Nat}(hC:CF c sz){f:FuncId}{args:List AV}{l:List α}(h:fP P f args sz (l.flatMap c) l.length):cE P f args (.sl (l.flatMap c) l.length false):=by
 intro w X vs hX hv;refine (h w X vs hX hv).mono ?_;rintro e w' ⟨v,O',rfl,h1,h2⟩;refine ⟨v,rfl,?_,h1.below⟩;have hto:ToD false (aH.one (.cells sz (l.flatMap c) 0)) (.own 0 0 l.length) (.sl (l.flatMap c) l.length false):=tdo hC rfl (lk:=0) (by simp [aH.one,aH.put,upd]) rfl;exact hto.sound h1 (fun b i _ hm hx=>hm (.inl hx)) (fun _ id o i ho hx=>by have h7:w.heap.size≤o.b:=(h1.live_lt ho).1;have:=hX.lt _ _ hx;omega) h2
theorem bMb{t el:TypeId}{H:aH}{ρ:Operand→AV}{x y:Operand}{n:Nat}{k:IntKind}{m:Int}(hu:P.underlying t=some (.slice el))(hs:aO P el=some n)(hx:ρ x= .v (.slice none 0 0))(hy:ρ y= .v (.int k m))(hm:m=0):
 bJ P H ρ (.slice t x none (some y) none)=some (.v (.slice none 0 0)):=by
 subst hm;simp [bJ,xJ,hu,hs,hx,hy,fV]
theorem bR5{t tx el:TypeId}{d:TypeDesc}{i:TypeInfo}{e:Nat→Ent}{N id sz:Nat}{ρ:Operand→AV}{s x:Operand}{k:IntKind}{m:Int}(hu:P.underlying t=some (.slice el))(hux:P.underlying tx=some d)(hd:TypeDesc.isInt d=true)(hi:P.info? el=some i)(hsz:i.size=sz)
 (hb:i.bytes≤1024) (hb0:i.bytes≠0) {z:Value} (hz:i.zero=some z) (hzs:z.cells.size=sz) (h0:sz≠0) (hs:ρ s= .v (.slice none 0 0)) (hx:ρ x= .v (.int k m)) (hf:aH.isFresh ⟨e,N⟩ id=true) (hv:chk (decide (0<m)&&decide (m≤4294967296))=some ()):
 eZ P ⟨e,N⟩ id ρ (.call { callee:= .builtin .append,args:= #[s,x],argTypes:= #[t,tx] })=some (.own id 0 m.toNat,⟨upd e id (.cells sz (List.replicate (m.toNat*sz) .any) 0),N⟩):=by
 subst hsz
 have hm:0<m∧m≤4294967296:=by
  have:=vL hv
  simpa using this
 have hmb:m.toNat*i.bytes≤4294967296*1024:=Nat.mul_le_mul om hb;simp only [eZ,aK0,hu,hux,hd,hi,hs,hx,if_true];rw [if_pos ⟨hf,hm.1,by omega,hb0,by omega,by rw [hz];simp [hzs],h0⟩];rfl
theorem bRb{t el:TypeId}{H:aH}{ρ:Operand→AV}{x y:Operand}{j n lk sz:Nat}{k:IntKind}{m:Int}(hu:P.underlying t=some (.slice el))(hs:aO P el=some sz)(hx:ρ x= .own j 0 n)
 (he:H.ent j= .cells sz (List.replicate (n*sz) .any) lk) (hy:ρ y= .v (.int k m)) (hm:m=0):bJ P H ρ (.slice t x none (some y) none)=some (.own j 0 0):=by
 subst hm;simp only [bJ,hx,Option.map_none,Option.map_some,hy,xJ,hu,hs,he,fV];rw [if_pos om];simp
theorem bU5{n N sz:Nat}{f:Nat→AV}{e:Nat→Ent}(id:Nat){xs:List AV}(he:e id= .cells sz xs 0):(⟨n,f,⟨e,N⟩⟩:St).Le B ⟨n,f,⟨upd e id (.cells sz [] 0),N⟩⟩:=by
 intro C a w _ hr;refine hr.swap (s:=⟨n,f,⟨e,N⟩⟩) (by show _=(e id).lock;rw [he];rfl) fun O hs=>?_;have h0:=hs.ent id;have he':(⟨e,N⟩:aH).ent id= .cells sz xs 0:=he;rw [he'] at h0;rcases h0 with ⟨h1,h2,h3⟩|⟨o,h1,h2,h3,h4,h5,cc,elem,fr,h6,h7,h8,h9⟩
 · exact .inl ⟨h1,rfl,rfl⟩
 · exact .inr ⟨o,h1,h2,Nat.zero_le _,h4,by simp;omega,cc,elem,fr,h6,h7,h8,fun k b hk=>by simp at hk⟩
theorem bFv{t el:TypeId}{H:aH}{ρ:Operand→AV}{x:Operand}(hu:P.underlying t=some (.slice el))(hx:ρ x= .v (.slice none 0 0)):bJ P H ρ (.call { callee:= .builtin .cap,args:= #[x],argTypes:= #[t] })=some (.v (.int .i64 ((0:Nat):Int))):=by
 simp [bJ,bF,hu,hx,aH.alive]
section
theorem Z1{p:Prop}(h:p:=by try simp only [go_sem,Nat.reduceBEq];try rfl):p:=h
theorem Z2{p:Prop}(h:p:=by simp only [go_sem,Nat.reduceBEq];try with_reducible rfl):p:=h
theorem Z3{p:Prop}(h:p:=by simp only [dM,Nat.reduceBEq,cond_true,cond_false];try rfl):p:=h
theorem Z4{p:Prop}(h:p:=by simp only [go_sem,Nat.reduceBEq,Nat.reduceAdd];try with_reducible rfl):p:=h
theorem Z5{p:Prop}(h:p:=by simp only [dV,kZ,Nat.reduceBEq,cond_true,cond_false]):p:=h
theorem Z6{p:Prop}(h:p:=by first|rfl|omega):p:=h
theorem Z7{p:Prop}(h:p:=by simp [upd]):p:=h
theorem Z8{p:Prop}(h:p:=by repeat' (first|exact zK|exact zQ|refine jW ?_ ?_|refine qR ?_ ?_|exact .inl rfl|exact .inr (by decide))):p:=h
theorem Z9{p:Prop}(h:p:=by first|rfl|(simp [AV.one];done)):p:=h
theorem Zd{p:Prop}(h:p:=by decide):p:=h
theorem Zh{b:Bool}(hb:b=true){p:Prop}(h:p:=by try simp only [go_sem,Nat.reduceBEq,hb,Bool.true_and];try rfl):p:=h
variable {P:Program}{strict:Bool}{ops:Array Oper}{base i:Nat}{rest:List Oper}{K:St→Prop}{n:Nat}{t:Nat→AV}{H:aH}{d:Tmp}{op:Op}{ty:TypeId}{pos:String}{after:Array Edge}{r:AV}
theorem pA(k:aR P strict ops base (i+1) rest K ⟨n,aF t d r,H⟩)(hd:decide (d<n)=true:=by rfl)(h:bJ P H (aval t) op=some r:=by simp only [go_sem,Nat.reduceBEq];try with_reducible rfl):
 aR P strict ops base i (⟨some d,op,ty,pos,after,none⟩::rest) K ⟨n,t,H⟩:=pu hd h k
theorem pB{j:Nat}{want b:Bool}{dj:Tmp}(k:aR P strict ops base (i+1) rest K ⟨n,aF t d (gd b r),H⟩)(hd:decide (d<n)=true:=by rfl)(hj:(ops[j]?).bind (·.dst)=some dj:=by rfl)(hg:aEg want (aval t (.tmp dj))=some b:=by simp only [go_sem,Nat.reduceBEq];try with_reducible rfl)
 (h:b=true→bJ P H (aval t) op=some r:=by intro hb;simp only [go_sem,Nat.reduceBEq,hb,Bool.true_and];try with_reducible rfl):aR P strict ops base i (⟨some d,op,ty,pos,after,some (j,want)⟩::rest) K ⟨n,t,H⟩:=pg hd hj hg h k
theorem wD{H':aH}{ren:Nat→Nat}{f g:Nat→AV}{i:Nat}{a:AV}(hd:Data a)(h': ∀k,Wk H' ren (g k) (f k))(h:aval f (.tmp i)=a:=by try simp only [go_sem,Nat.reduceBEq];try rfl): ∀k,Wk H' ren (aF g i a k) (f k):=bH _ _ (lR h hd) h'
theorem wV{H':aH}{ren:Nat→Nat}{f g:Nat→AV}{i:Nat}{x:Value}(h': ∀k,Wk H' ren (g k) (f k))(h:aval f (.tmp i)= .v x:=by try simp only [go_sem,Nat.reduceBEq];try rfl): ∀k,Wk H' ren (aF g i (.v x) k) (f k):=bH _ _ (lR h (.v _)) h'
theorem wO{H':aH}{ren:Nat→Nat}{f g:Nat→AV}{i id off len j m:Nat}(h': ∀k,Wk H' ren (g k) (f k))(h:aval f (.tmp i)= .own j off m:=by try simp only [go_sem,Nat.reduceBEq];try rfl)(hm:m=len:=by first|rfl|omega)(hr:ren id=j:=by rfl)(hn:H'.ent id≠ .fresh:=by simp [upd]):
 ∀k,Wk H' ren (aF g i (.own id off len) k) (f k):=bH _ _ (jG h hm hr hn) h'
theorem cD{lk:Bool}{H:aH}{x y:AV}{xs ys:List AV}(hd:Data y)(k:oR lk H xs ys)(h:x=y:=by try simp only [go_sem,Nat.reduceBEq];try rfl):oR lk H (x::xs) (y::ys):= .cons (td h hd) k
theorem cV{lk:Bool}{H:aH}{x:AV}{y:Value}{xs ys:List AV}(k:oR lk H xs ys)(h:x= .v y:=by try simp only [go_sem,Nat.reduceBEq];try rfl):oR lk H (x::xs) (.v y::ys):= .cons (td h (.v _)) k
theorem eU{α:Type}{c:α→List AV}{sz:Nat}(hC:CF c sz){H H':aH}{ren:Nat→Nat}{e:Nat→Ent}{i lk:Nat}{l:List α}(h': ∀id,lX H H' ren id (e id))(h:H.ent (ren i)= .cells sz (l.flatMap c) lk:=by simp only [dM,Nat.reduceBEq,cond_true,cond_false];try rfl)(h0:lk=0:=by rfl):
 ∀id,lX H H' ren id (upd e i (.cells sz (l.flatMap c) 0) id):=cG (aH2 hC h h0) h'
theorem hW{H H':aH}{ren:Nat→Nat}(he: ∀id,lX H H' ren id (H'.ent id))(hi: ∀i j,(H'.ent i).live=true→(H'.ent j).live=true→ren i=ren j→i=j:=by repeat' (first|exact zK|exact zQ|refine jW ?_ ?_|refine qR ?_ ?_|exact .inl rfl|exact .inr (by decide))):aAc B0 H H' ren:=gN ren he hi
end
end Go.AM
