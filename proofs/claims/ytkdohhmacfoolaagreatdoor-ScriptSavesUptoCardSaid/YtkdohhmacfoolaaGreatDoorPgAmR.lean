/- Facts. No condition. -/
import Derived.Test.YtkdohhmacfoolaaGreatDoorPgAmO
set_option linter.unusedSimpArgs false
set_option linter.unusedVariables false
set_option maxRecDepth 4000
namespace Go.AM
open Go Go.RowKit
class CC{α:Type}(c:α→List AV)(sz:outParam Nat):Prop where h:CF c sz
instance (k:IntKind):CC (ci k) 1:=⟨CFi k⟩
instance:CC aPo 1:=⟨CFb⟩
instance:CC kD 1:=⟨CFs⟩
instance:CC iY 2:=⟨aGi⟩
instance {α:Type}{c:α→List AV}{sz:Nat}[CC c sz]:CC (csl c) 1:=⟨CFl CC.h⟩
theorem sb{α β:Type}{o:Option α}{f:α→Option β}{r:β}{x:α}(hm:o.bind f=some r)(h:o=some x):f x=some r:=by subst h;exact hm
class FB(P:Program)(g:FuncId):Prop where h:(P.funcs[g]?).any (fun fn=>fn.body.isSome&&fn.name != "runtime.NumGoroutine")=true
theorem fbU{P:Program}{k:FuncId}{f:Func}(h:P.funcs[k]? =some f)(h':(f.body.isSome&&f.name != "runtime.NumGoroutine")=true):FB P k:=⟨by rw [h];exact h'⟩
abbrev vl{α:Type}(c:α→List AV)(l:List α):AV:= .sl (l.flatMap c) l.length false
abbrev vi(n:Int):AV:= .v (.int .i64 n)
abbrev vu(n:Int):AV:= .v (.int .u64 n)
abbrev vb(b:Bool):AV:= .v (.bool b)
abbrev fa:Nat→AV:=fun _=>AV.any
theorem Y1{p:Prop}(h:p:=by (try simp only [go_sem,Nat.reduceBEq]);first|done|rfl):p:=h
theorem Y3{p:Prop}(h:p:=by simp only [dM,Nat.reduceBEq,cond_true,cond_false];first|done|rfl):p:=h
theorem Y4{p:Prop}(h:p:=by simp only [go_sem,Nat.reduceBEq,Nat.reduceAdd];first|done|with_reducible rfl):p:=h
theorem Yh{b:Bool}(hb:b=true){p:Prop}(h:p:=by (try simp only [go_sem,Nat.reduceBEq,hb,Bool.true_and]);first|done|rfl):p:=h
theorem xV{H':aH}{ren:Nat→Nat}{f g:Nat→AV}{i:Nat}{x:Value}(h': ∀k,Wk H' ren (g k) (f k))(h:aval f (.tmp i)= .v x:=by (try simp only [go_sem,Nat.reduceBEq]);first|done|rfl): ∀k,Wk H' ren (aF g i (.v x) k) (f k):=bH _ _ (lR h (.v _)) h'
theorem xO{H':aH}{ren:Nat→Nat}{f g:Nat→AV}{i id off len j m:Nat}(h': ∀k,Wk H' ren (g k) (f k))(h:aval f (.tmp i)= .own j off m:=by (try simp only [go_sem,Nat.reduceBEq]);first|done|rfl)(hm:m=len:=by first|rfl|omega)(hr:ren id=j:=by rfl)(hn:H'.ent id≠ .fresh:=by simp [upd]):
 ∀k,Wk H' ren (aF g i (.own id off len) k) (f k):=bH _ _ (jG h hm hr hn) h'
theorem xA{H':aH}{ren:Nat→Nat}{f g:Nat→AV}{i id off j:Nat}(h': ∀k,Wk H' ren (g k) (f k))(h:aval f (.tmp i)= .adr j off:=by (try simp only [go_sem,Nat.reduceBEq]);first|done|rfl)(hr:ren id=j:=by rfl)(hn:H'.ent id≠ .fresh:=by simp [upd]):
 ∀k,Wk H' ren (aF g i (.adr id off) k) (f k):=bH _ _ (kV h hr hn) h'
theorem daS{α:Type}{c:α→List AV}{sz:Nat}[h:CC c sz](l:List α)(n:Nat)(f:Bool):Data (.sl (l.flatMap c) n f):=CF.sl h.h _ _ _
theorem daA{α:Type}{c:α→List AV}{sz:Nat}[h:CC c sz](x:α):Data (.agg (c x)):= .agg _ (h.h.dat x)
theorem daE(n:Nat)(f:Bool):Data (.sl [] n f):= .sl _ _ _ fun _ h=>by cases h
theorem daN: ∀a,a∈([]:List AV)→Data a:=fun _ h=>by cases h
theorem daC{x:AV}{xs:List AV}(h:Data x)(h': ∀a,a∈xs→Data a): ∀a,a∈x::xs→Data a:=fun a ha=>by
 rcases List.mem_cons.1 ha with rfl|ha
 · exact h
 · exact h' a ha
theorem DT{x:AV}(h:Data x:=by
 first
 |exact .v _
 |exact daS _ _ _
 |exact daA _
 |exact GA.data _
 |exact aB.data _
 |exact bN7 (by assumption)
 |exact daE _ _
 |(refine .agg _ ?_;(repeat (first|exact daN|refine daC (by first|exact .v _|exact daS _ _ _|exact daA _|exact daE _ _|exact GA.data _|exact aB.data _|exact bN7 (by assumption)) ?_));done)
 |(refine .tup _ ?_;(repeat (first|exact daN|refine daC (by first|exact .v _|exact daS _ _ _|exact daA _|exact daE _ _|exact GA.data _|exact aB.data _|exact bN7 (by assumption)) ?_));done)
 |fail):Data x:=h
section
variable {P:Program}{B:Nat→Prop}{strict:Bool}{ops:Array Oper}{base i:Nat}{rest:List Oper}{K:St→Prop}{Q:Exit→St→Prop}{n:Nat}{t f:Nat→AV}{H:aH}{d:Tmp}{op:Op}{ty:TypeId}{pos:String}{after:Array Edge}{r:AV}{e:Nat→Ent}{N N':Nat}
theorem sx{id:Nat}{l:List Oper}{y:Code}(h:aR P false l.toArray N 0 l (KN (aF8 P B y Q) N') ⟨n,f,⟨e,N⟩⟩)(hN:N+64=N':=by simp only [Nat.reduceAdd];first|done|rfl):AWp P B (.seq (.region id l.toArray false) y) Q ⟨n,f,⟨e,N⟩⟩:=sr hN h
theorem rx{id:Nat}{l:List Oper}(h:aR P false l.toArray N 0 l (KN Q N') ⟨n,f,⟨e,N⟩⟩)(hN:N+64=N':=by simp only [Nat.reduceAdd];first|done|rfl):AWp P B (.region id l.toArray false) Q ⟨n,f,⟨e,N⟩⟩:=AWp.reg 64 hN h
theorem bd(n:Nat){g:FuncId}{fn:Func}{c:Code}{args:List AV}(hf:P.funcs[g]? =some fn)
 (h:AWp P B0 c (fun e s=>(e= .normal∨e= .ret)∧ ∃r',yS P fn s=some r'∧ToD false s.H r' r) ⟨n,aIb args,⟨aZ,0⟩⟩)
 (hb:fn.body=some c:=by rfl) (hn:args.length+(fn.ntmps-args.length)=n:=by rfl):cE P g args r:=by
 subst hn;refine cE.of_body hf hb ?_;rw [iO];exact h
theorem cm{R:Type}{c:Operand}{x y:Code}{s:St}{b:Bool}{A A' o:Option R}(hm:(bif b then A else A')=o)(ht:A=o→AWp P B x Q s)(hf:A'=o→AWp P B y Q s)
 (hc:aval s.f c= .v (.bool b):=by (try simp only [go_sem,Nat.reduceBEq]);first|done|rfl):AWp P B (.cond c x y) Q s:=AWp.condM hm hc (fun _=>ht) (fun _=>hf)
theorem lp{c:Code}{s:St}(I:Nat→St→Prop)(h0: ∃s',s.Le B s'∧I aY s')(round: ∀n s,I (n+1) s→AWp P B c (yP (fun s'=> ∃s'',s'.Le B s''∧I n s'') Q) s)
 (hz: ∀s,¬I 0 s:=by intro s h;(repeat (obtain ⟨_,h⟩:=h));first|done|cases h):AWp P B (.loop c) Q s:=AWp.loopM I aY hz h0 round
theorem qA(k:aR P strict ops base (i+1) rest K ⟨n,aF t d r,H⟩)(hd:decide (d<n)=true:=by rfl)(h:bJ P H (aval t) op=some r:=by simp only [go_sem,Nat.reduceBEq];first|done|with_reducible rfl):
 aR P strict ops base i (⟨some d,op,ty,pos,after,none⟩::rest) K ⟨n,t,H⟩:=pu hd h k
theorem qB{j:Nat}{want b:Bool}{dj:Tmp}(k:aR P strict ops base (i+1) rest K ⟨n,aF t d (gd b r),H⟩)(hd:decide (d<n)=true:=by rfl)(hj:(ops[j]?).bind (·.dst)=some dj:=by rfl)(hg:aEg want (aval t (.tmp dj))=some b:=by simp only [go_sem,Nat.reduceBEq];first|done|with_reducible rfl)
 (h:b=true→bJ P H (aval t) op=some r:=by intro hb;simp only [go_sem,Nat.reduceBEq,hb,Bool.true_and];first|done|with_reducible rfl):aR P strict ops base i (⟨some d,op,ty,pos,after,some (j,want)⟩::rest) K ⟨n,t,H⟩:=pg hd hj hg h k
theorem pC(k:aR P strict ops base (i+1) rest K ⟨n,aF t d r,H⟩)(hd:decide (d<n)=true:=by rfl)(h:bJ P H (aval t) op=some r:=by simp only [go_sem,Nat.reduceBEq,Int.reduceEq,Int.reduceLE];first|done|with_reducible rfl):
 aR P strict ops base i (⟨some d,op,ty,pos,after,none⟩::rest) K ⟨n,t,H⟩:=pu hd h k
theorem pV{x:Operand}{j off lk:Nat}{xs:List AV}{tx:TypeId}(k:aR P strict ops base (i+1) rest K ⟨n,aF t d r,H⟩)(hd:decide (d<n)=true:=by rfl)(hx:aval t x= .adr j off:=by (try simp only [go_sem,Nat.reduceBEq]);first|done|rfl)
 (he:H.ent j= .cells 1 xs lk:=by simp only [dM,Nat.reduceBEq,cond_true,cond_false];first|done|rfl) (hr:bT P H tx (.ptr (xs.drop off))=some r:=by simp only [go_sem,Nat.reduceBEq,Nat.reduceAdd];first|done|with_reducible rfl):
 aR P strict ops base i (⟨some d,.load tx x,ty,pos,after,none⟩::rest) K ⟨n,t,H⟩:=pu hd (hZ hx he hr) k
theorem pW{j':Nat}{want b:Bool}{dj:Tmp}{x:Operand}{j off lk:Nat}{xs:List AV}{tx:TypeId}(k:aR P strict ops base (i+1) rest K ⟨n,aF t d (gd b r),H⟩)(hd:decide (d<n)=true:=by rfl)(hj:(ops[j']?).bind (·.dst)=some dj:=by rfl)
 (hg:aEg want (aval t (.tmp dj))=some b:=by simp only [go_sem,Nat.reduceBEq];first|done|with_reducible rfl)
 (hx:b=true→aval t x= .adr j off:=by intro hb;(try simp only [go_sem,Nat.reduceBEq,hb,Bool.true_and]);first|done|rfl) (he:H.ent j= .cells 1 xs lk:=by simp only [dM,Nat.reduceBEq,cond_true,cond_false];first|done|rfl)
 (hr:bT P H tx (.ptr (xs.drop off))=some r:=by simp only [go_sem,Nat.reduceBEq,Nat.reduceAdd];first|done|with_reducible rfl):
 aR P strict ops base i (⟨some d,.load tx x,ty,pos,after,some (j',want)⟩::rest) K ⟨n,t,H⟩:=pg hd hj hg (fun hb=>hZ (hx hb) he hr) k
theorem hV{a x:Operand}{tx:TypeId}{j off m:Nat}{xs cs ys:List AV}(k:aR P strict ops base (i+1) rest K ⟨n,t,⟨upd e j (.cells 1 ys 0),N⟩⟩)(hs:aO P tx=some m:=by simp only [go_sem];first|done|rfl)
 (ha:aval t a= .adr j off:=by (try simp only [go_sem,Nat.reduceBEq]);first|done|rfl) (hx:(aval t x).cells? =some cs:=by (try simp only [go_sem,Nat.reduceBEq]);first|done|rfl)
 (he:e j= .cells 1 xs 0:=by simp only [dM,Nat.reduceBEq,cond_true,cond_false];first|done|rfl) (hn:cs.length=m:=by rfl) (hfit:Nat.ble (off+m) xs.length=true:=by rfl) (hone:cs.all AV.one=true:=by first|rfl|(simp only [List.all_cons,List.all_nil,Bool.and_true,aB.one];done)|(simp only [List.all_cons,List.all_nil,Bool.and_true,aB.one];rfl)|(simp [AV.one];done)|fail)
 (hy:setAt xs off cs=ys:=by simp only [setAt,List.set_cons_zero,List.set_cons_succ,Nat.reduceAdd,Nat.zero_add];first|done|rfl):aR P strict ops base i (⟨none,.store tx a x,ty,pos,after,none⟩::rest) K ⟨n,t,⟨e,N⟩⟩:=
 aR.heap0 (id:=base+i) rfl (oD hs ha hx he hn (Nat.le_of_ble_eq_true hfit) hone hy) k
theorem hA{id:Nat}{el:TypeId}{zs:List AV}(k:aR P strict ops base (i+1) rest K ⟨n,aF t d (.adr id 0),⟨upd e id (.cells 1 zs 0),N⟩⟩)(hd:decide (d<n)=true:=by rfl)(hid:base+i=id:=by simp only [Nat.reduceAdd];first|done|rfl)
 (hz:zeroCells? P el=some zs:=by simp only [go_sem];first|done|rfl) (hf:aH.isFresh ⟨e,N⟩ id=true:=by simp only [dV,kZ,Nat.reduceBEq,cond_true,cond_false]):
 aR P strict ops base i (⟨some d,.alloc el,ty,pos,after,none⟩::rest) K ⟨n,t,⟨e,N⟩⟩:=hp hd hid (nQ hz hf) k
theorem hB{id:Nat}{el:TypeId}{x:Operand}{cs:List AV}(k:aR P strict ops base (i+1) rest K ⟨n,aF t d (.adr id 0),⟨upd e id (.cells 1 cs 0),N⟩⟩)(hd:decide (d<n)=true:=by rfl)(hid:base+i=id:=by simp only [Nat.reduceAdd];first|done|rfl)
 (hx:(aval t x).cells? =some cs:=by (try simp only [go_sem,Nat.reduceBEq]);first|done|rfl) (hf:aH.isFresh ⟨e,N⟩ id=true:=by simp only [dV,kZ,Nat.reduceBEq,cond_true,cond_false]):
 aR P strict ops base i (⟨some d,.box el x,ty,pos,after,none⟩::rest) K ⟨n,t,⟨e,N⟩⟩:=hp hd hid (aV7 hx hf) k
theorem sk{j:Nat}{want:Bool}{dj:Tmp}(k:aR P strict ops base (i+1) rest K ⟨n,aF t d (.v undef),H⟩)(hd:decide (d<n)=true:=by rfl)(hj:(ops[j]?).bind (·.dst)=some dj:=by rfl)
 (hg:aEg want (aval t (.tmp dj))=some false:=by simp only [go_sem,Nat.reduceBEq];first|done|with_reducible rfl):aR P strict ops base i (⟨some d,op,ty,pos,after,some (j,want)⟩::rest) K ⟨n,t,H⟩:=aR.skipG (of_decide_eq_true hd) hj hg k
theorem pI{α:Type}{c:α→List AV}{sz:Nat}[hC:CC c sz]{tx el:TypeId}{x y:Operand}{l:List α}{m:Nat}{g:Bool}{k':IntKind}{iv:Int}{a:α}(k:aR P strict ops base (i+1) rest K ⟨n,aF t d (.ptr (c a++(l.drop (iv.toNat+1)).flatMap c)),H⟩)
 (hd:decide (d<n)=true:=by rfl) (hu:P.underlying tx=some (.slice el):=by simp only [go_sem];first|done|rfl) (hx:aval t x= .sl (l.flatMap c) m g:=by (try simp only [go_sem,Nat.reduceBEq]);first|done|rfl)
 (hs:aO P el=some sz:=by simp only [go_sem];first|done|rfl) (h0:sz≠0:=by decide) (hn:m=l.length:=by rfl) (hi:aval t y= .v (.int k' iv):=by (try simp only [go_sem,Nat.reduceBEq]);first|done|rfl) (hv:idx l iv=some a:=by first|with_reducible assumption|assumption):
 aR P strict ops base i (⟨some d,.indexAddr tx x y,ty,pos,after,none⟩::rest) K ⟨n,t,H⟩:=pu hd (aGn hC.h h0 hu hs hx hn hi hv) k
theorem pJ{tx el:TypeId}{x y:Operand}{j m sz:Nat}{k':IntKind}{iv:Int}{lk:Nat}{α:Type}{c:α→List AV}{l:List α}{a:α}(k:aR P strict ops base (i+1) rest K ⟨n,aF t d (.adr j (0+iv.toNat*sz)),H⟩)
 (hd:decide (d<n)=true:=by rfl) (hu:P.underlying tx=some (.slice el):=by simp only [go_sem];first|done|rfl) (hs:aO P el=some sz:=by simp only [go_sem];first|done|rfl) (hx:aval t x= .own j 0 m:=by (try simp only [go_sem,Nat.reduceBEq]);first|done|rfl)
 (he:H.ent j= .cells sz (l.flatMap c) lk:=by simp only [dM,Nat.reduceBEq,cond_true,cond_false];first|done|rfl) (hn:m=l.length:=by first|rfl|omega) (hi:aval t y= .v (.int k' iv):=by (try simp only [go_sem,Nat.reduceBEq]);first|done|rfl)
 (hv:idx l iv=some a:=by first|with_reducible assumption|assumption):aR P strict ops base i (⟨some d,.indexAddr tx x y,ty,pos,after,none⟩::rest) K ⟨n,t,H⟩:=pu hd (iX hu hs hx he hn hi hv) k
class MX(P:Program):Prop where h:P.follows .mixedOrders=true
theorem dx [hmix:MX P]{id:Nat}{l:List Oper}{y:Code}(h:aR P true l.toArray N 0 l (KN (aF8 P B y Q) N') ⟨n,f,⟨e,N⟩⟩)(hok:dOK l.toArray=true:=by decide+kernel)(hN:N+64=N':=by simp only [Nat.reduceAdd];first|done|rfl):
 AWp P B (.seq (.region id l.toArray true) y) Q ⟨n,f,⟨e,N⟩⟩:=sd hmix.h hok hN h
theorem pK{α:Type}{c:α→List AV}{sz:Nat}[hC:CC c sz]{j':Nat}{want b:Bool}{dj:Tmp}{tx el:TypeId}{x y:Operand}{l:List α}{m:Nat}{g:Bool}{k':IntKind}{iv:Int}{a z:α}(k:aR P strict ops base (i+1) rest K ⟨n,aF t d (gd b (.ptr (c a++(l.drop (iv.toNat+1)).flatMap c))),H⟩)
 (hd:decide (d<n)=true:=by rfl) (hj:(ops[j']?).bind (·.dst)=some dj:=by rfl) (hg:aEg want (aval t (.tmp dj))=some b:=by simp only [go_sem,Nat.reduceBEq];first|done|with_reducible rfl)
 (hu:P.underlying tx=some (.slice el):=by simp only [go_sem];first|done|rfl) (hx:b=true→aval t x= .sl (l.flatMap c) m g:=by intro hb;(try simp only [go_sem,Nat.reduceBEq,hb,Bool.true_and]);first|done|rfl)
 (hs:aO P el=some sz:=by simp only [go_sem];first|done|rfl) (h0:sz≠0:=by decide) (hn:m=l.length:=by rfl) (hi:b=true→aval t y= .v (.int k' iv):=by intro hb;(try simp only [go_sem,Nat.reduceBEq,hb,Bool.true_and]);first|done|rfl) (hv:eJ b z (idx l iv)=some a:=by first|with_reducible assumption|assumption):
 aR P strict ops base i (⟨some d,.indexAddr tx x y,ty,pos,after,some (j',want)⟩::rest) K ⟨n,t,H⟩:=pg hd hj hg (fun hb=>aGn hC.h h0 hu hs (hx hb) hn (hi hb) (kF hv hb)) k
theorem pR{t' ty':TypeId}{x y:Operand}{k1 k2:IntKind}{a b:Int}{u:Unit}(k:aR P strict ops base (i+1) rest K ⟨n,aF t d (AV.v (.int k1 (shr k1 a b))),H⟩)(hd:decide (d<n)=true:=by rfl)(hx:aval t x= .v (.int k1 a):=by (try simp only [go_sem,Nat.reduceBEq]);first|done|rfl)(hy:aval t y= .v (.int k2 b):=by (try simp only [go_sem,Nat.reduceBEq]);first|done|rfl)(h:chk (decide (0≤b))=some u:=by first|with_reducible assumption|assumption):
 aR P strict ops base i (⟨some d,.binOp .shr t' x y ty',ty,pos,after,none⟩::rest) K ⟨n,t,H⟩:=pu hd (bWg hx hy (vL h)) k
theorem pL{t' ty':TypeId}{x y:Operand}{k1 k2:IntKind}{a b:Int}{u:Unit}(k:aR P strict ops base (i+1) rest K ⟨n,aF t d (AV.v (.int k1 (shl k1 a b))),H⟩)(hd:decide (d<n)=true:=by rfl)(hx:aval t x= .v (.int k1 a):=by (try simp only [go_sem,Nat.reduceBEq]);first|done|rfl)(hy:aval t y= .v (.int k2 b):=by (try simp only [go_sem,Nat.reduceBEq]);first|done|rfl)(h:chk (decide (0≤b))=some u:=by first|with_reducible assumption|assumption):
 aR P strict ops base i (⟨some d,.binOp .shl t' x y ty',ty,pos,after,none⟩::rest) K ⟨n,t,H⟩:=pu hd (bWf hx hy (vL h)) k
theorem pQ{t' ty':TypeId}{x y:Operand}{k1:IntKind}{a b:Int}{u:Unit}(k:aR P strict ops base (i+1) rest K ⟨n,aF t d (AV.v (.int k1 (k1.wrap (Int.tdiv a b)))),H⟩)(hd:decide (d<n)=true:=by rfl)(hx:aval t x= .v (.int k1 a):=by (try simp only [go_sem,Nat.reduceBEq]);first|done|rfl)(hy:aval t y= .v (.int k1 b):=by (try simp only [go_sem,Nat.reduceBEq]);first|done|rfl)(h:chk (b !=0)=some u:=by first|with_reducible assumption|assumption):
 aR P strict ops base i (⟨some d,.binOp .quo t' x y ty',ty,pos,after,none⟩::rest) K ⟨n,t,H⟩:=pu hd (bWd hx hy (vL h)) k
theorem pM{t' ty':TypeId}{x y:Operand}{k1:IntKind}{a b:Int}{u:Unit}(k:aR P strict ops base (i+1) rest K ⟨n,aF t d (AV.v (.int k1 (Int.tmod a b))),H⟩)(hd:decide (d<n)=true:=by rfl)(hx:aval t x= .v (.int k1 a):=by (try simp only [go_sem,Nat.reduceBEq]);first|done|rfl)(hy:aval t y= .v (.int k1 b):=by (try simp only [go_sem,Nat.reduceBEq]);first|done|rfl)(h:chk (b !=0)=some u:=by first|with_reducible assumption|assumption):
 aR P strict ops base i (⟨some d,.binOp .rem t' x y ty',ty,pos,after,none⟩::rest) K ⟨n,t,H⟩:=pu hd (bWe hx hy (vL h)) k
theorem pT{t' ty':TypeId}{x y:Operand}{a b c:ByteArray}(k:aR P strict ops base (i+1) rest K ⟨n,aF t d (AV.v (.string c)),H⟩)(hd:decide (d<n)=true:=by rfl)(hx:aval t x= .v (.string a):=by (try simp only [go_sem,Nat.reduceBEq]);first|done|rfl)(hy:aval t y= .v (.string b):=by (try simp only [go_sem,Nat.reduceBEq]);first|done|rfl)(h:aUn a b=some c:=by first|with_reducible assumption|assumption):
 aR P strict ops base i (⟨some d,.binOp .add t' x y ty',ty,pos,after,none⟩::rest) K ⟨n,t,H⟩:=pu hd (bR9 hx hy h) k
theorem pX{t':TypeId}{x y:Operand}{k':IntKind}{s:ByteArray}{iv b:Int}(k:aR P strict ops base (i+1) rest K ⟨n,aF t d (AV.v (.int .u8 b)),H⟩)(hd:decide (d<n)=true:=by rfl)(hx:aval t x= .v (.string s):=by (try simp only [go_sem,Nat.reduceBEq]);first|done|rfl)(hu:P.underlying t'=some .string:=by simp only [go_sem];first|done|rfl)(hi:aval t y= .v (.int k' iv):=by (try simp only [go_sem,Nat.reduceBEq]);first|done|rfl)(h:aBo s iv=some b:=by first|with_reducible assumption|assumption):
 aR P strict ops base i (⟨some d,.index t' x y,ty,pos,after,none⟩::rest) K ⟨n,t,H⟩:=pu hd (aR4 hu hx hi h) k
theorem pS{α:Type}{c:α→List AV}{sz:Nat}[hC:CC c sz]{tx el:TypeId}{x:Operand}{lo hi:Option Operand}{l l':List α}{m:Nat}{g:Bool}{a b:Int}(k:aR P strict ops base (i+1) rest K ⟨n,aF t d (AV.sl (l'.flatMap c) l'.length (g&&b.toNat==l.length)),H⟩)(hd:decide (d<n)=true:=by rfl)(hu:P.underlying tx=some (.slice el):=by simp only [go_sem];first|done|rfl)
 (hx:aval t x= .sl (l.flatMap c) m g:=by (try simp only [go_sem,Nat.reduceBEq]);first|done|rfl) (hs:aO P el=some sz:=by simp only [go_sem];first|done|rfl) (hn:m=l.length:=by rfl)
 (h1:fV 0 (lo.map (aval t))=some a.toNat:=by first|exact aRn|exact aCg Y1 (bH1 (by first|with_reducible assumption|assumption)).1) (h2:fV l.length (hi.map (aval t))=some b.toNat:=by first|exact aWg _|exact aCg Y1 (bH1 (by first|with_reducible assumption|assumption)).2)
 (hv:slc l a b=some l':=by first|with_reducible assumption|assumption):aR P strict ops base i (⟨some d,.slice tx x lo hi none,ty,pos,after,none⟩::rest) K ⟨n,t,H⟩:=pu hd (bCv hC.h hu hs hx hn h1 h2 hv) k
theorem pG{j':Nat}{want b:Bool}{dj:Tmp}{tx el:TypeId}{x y:Operand}{j m sz:Nat}{k':IntKind}{iv:Int}{lk:Nat}{α:Type}{c:α→List AV}{l:List α}{a z:α}(k:aR P strict ops base (i+1) rest K ⟨n,aF t d (gd b (AV.adr j (0+iv.toNat*sz))),H⟩)(hd:decide (d<n)=true:=by rfl)(hj:(ops[j']?).bind (·.dst)=some dj:=by rfl)(hg:aEg want (aval t (.tmp dj))=some b:=by simp only [go_sem,Nat.reduceBEq];first|done|with_reducible rfl)
 (hu:P.underlying tx=some (.slice el):=by simp only [go_sem];first|done|rfl) (hs:aO P el=some sz:=by simp only [go_sem];first|done|rfl) (hx:b=true→aval t x= .own j 0 m:=by intro hb;(try simp only [go_sem,Nat.reduceBEq,hb,Bool.true_and]);first|done|rfl) (he:H.ent j= .cells sz (l.flatMap c) lk:=by simp only [dM,beq_self_eq_true,Nat.reduceBEq,cond_true,cond_false];first|done|rfl) (hn:m=l.length:=by first|rfl|omega)
 (hi:b=true→aval t y= .v (.int k' iv):=by intro hb;(try simp only [go_sem,Nat.reduceBEq,hb,Bool.true_and]);first|done|rfl) (hv:eJ b z (idx l iv)=some a:=by first|with_reducible assumption|assumption):aR P strict ops base i (⟨some d,.indexAddr tx x y,ty,pos,after,some (j',want)⟩::rest) K ⟨n,t,H⟩:=pg hd hj hg (fun hb=>iX hu hs (hx hb) he hn (hi hb) (kF hv hb)) k
theorem pD{α:Type}{c:α→List AV}{sz:Nat}[hC:CC c sz]{tx:TypeId}{x:Operand}{j lk:Nat}{iv:Int}{l:List α}{a:α}(k:aR P strict ops base (i+1) rest K ⟨n,aF t d (r),H⟩)(hd:decide (d<n)=true:=by rfl)(hx:aval t x= .adr j (0+iv.toNat*sz):=by (try simp only [go_sem,Nat.reduceBEq]);first|done|rfl)(he:H.ent j= .cells sz (l.flatMap c) lk:=by simp only [dM,beq_self_eq_true,Nat.reduceBEq,cond_true,cond_false];first|done|rfl)
 (hv:idx l iv=some a:=by first|with_reducible assumption|assumption) (hr: ∀xs,bT P H tx (.ptr (c a++xs))=some r:=by intro _;simp only [go_sem,Nat.reduceBEq];first|done|with_reducible rfl):aR P strict ops base i (⟨some d,.load tx x,ty,pos,after,none⟩::rest) K ⟨n,t,H⟩:=pu hd (aAf hC.h hx he hv hr) k
theorem pE{α:Type}{c:α→List AV}{sz:Nat}[hC:CC c sz]{j':Nat}{want b:Bool}{dj:Tmp}{tx:TypeId}{x:Operand}{j lk:Nat}{iv:Int}{l:List α}{a z:α}(k:aR P strict ops base (i+1) rest K ⟨n,aF t d (gd b r),H⟩)(hd:decide (d<n)=true:=by rfl)(hj:(ops[j']?).bind (·.dst)=some dj:=by rfl)(hg:aEg want (aval t (.tmp dj))=some b:=by simp only [go_sem,Nat.reduceBEq];first|done|with_reducible rfl)(hx:b=true→aval t x= .adr j (0+iv.toNat*sz):=by intro hb;(try simp only [go_sem,Nat.reduceBEq,hb,Bool.true_and]);first|done|rfl)(he:H.ent j= .cells sz (l.flatMap c) lk:=by simp only [dM,beq_self_eq_true,Nat.reduceBEq,cond_true,cond_false];first|done|rfl)
 (hv:eJ b z (idx l iv)=some a:=by first|with_reducible assumption|assumption) (hr: ∀xs,bT P H tx (.ptr (c a++xs))=some r:=by intro _;simp only [go_sem,Nat.reduceBEq];first|done|with_reducible rfl):aR P strict ops base i (⟨some d,.load tx x,ty,pos,after,some (j',want)⟩::rest) K ⟨n,t,H⟩:=pg hd hj hg (fun hb=>aAf hC.h (hx hb) he (kF hv hb) hr) k
theorem pN{x:Operand}{a:AV}{xs:List AV}(k:aR P strict ops base (i+1) rest K ⟨n,aF t d (AV.ptr xs),H⟩)(hd:decide (d<n)=true:=by rfl)(hx:aval t x=a:=by (try simp only [go_sem,Nat.reduceBEq]);first|done|rfl)(ha:a= .ptr xs:=by exact aB.av_nn (vL (by first|with_reducible assumption|assumption))):aR P strict ops base i (⟨some d,.nilCheck x,ty,pos,after,none⟩::rest) K ⟨n,t,H⟩:=pu hd (yR hx ha) k
class TI(P:Program)(el:TypeId)(sz:outParam Nat):Prop where h: ∃i z,P.info? el=some i∧i.size=sz∧i.bytes≤1024∧i.bytes≠0∧i.zero=some z∧z.cells.size=sz∧sz≠0
theorem aP{α:Type}{c:α→List AV}{sz:Nat}[hC:CC c sz]{id:Nat}{tx ty' el:TypeId}{dd:TypeDesc}{x y:Operand}{j m m':Nat}{l xs l':List α}(k:aR P strict ops base (i+1) rest K ⟨n,aF t d (.own id 0 l'.length),⟨upd (upd e j .dead) id (.cells sz (l'.flatMap c) 0),N⟩⟩)(hd:decide (d<n)=true:=by rfl)(hid:base+i=id:=by simp only [Nat.reduceAdd];first|done|rfl)
 (hu:P.underlying tx=some (.slice el):=by simp only [go_sem];first|done|rfl) [hT:TI P el sz] (hux:P.underlying ty'=some dd:=by simp only [go_sem];first|done|rfl) (hdd:TypeDesc.isInt dd=false:=by rfl)
 (hs:aval t x= .own j 0 m:=by (try simp only [go_sem,Nat.reduceBEq]);first|done|rfl) (he:e j= .cells sz (l.flatMap c) 0:=by simp only [dM,beq_self_eq_true,Nat.reduceBEq,cond_true,cond_false];first|done|rfl) (hn:m=l.length:=by first|rfl|omega) (hx:aFa ⟨e,N⟩ sz (aval t y)=some (xs.flatMap c,m'):=by first|exact aAg CC.h Y1 Y3 Z6|exact aV8 CC.h Y1 rfl|exact bWh Y1) (hm:m'=xs.length:=by rfl)
 (hf:aH.isFresh ⟨e,N⟩ id=true:=by simp only [dV,kZ,Nat.reduceBEq,cond_true,cond_false]) (hv:app l xs=some l':=by first|with_reducible assumption|assumption):
 aR P strict ops base i (⟨some d,.call { callee:= .builtin .append,args:= #[x,y],argTypes:= #[tx,ty'] },ty,pos,after,none⟩::rest) K ⟨n,t,⟨e,N⟩⟩:=by
 obtain ⟨ii,z,h1,h2,h3,h4,h5,h6,h7⟩:=hT.h;exact hp hd hid (xH hC.h hu hux hdd h1 h2 h3 h4 h5 h6 h7 hs he hn hx hm hf hv) k
theorem aQ{α:Type}{c:α→List AV}{sz:Nat}[hC:CC c sz]{id:Nat}{tx ty' el:TypeId}{dd:TypeDesc}{x y:Operand}{m':Nat}{xs l':List α}(k:aR P strict ops base (i+1) rest K ⟨n,aF t d (.own id 0 l'.length),⟨upd e id (.cells sz (l'.flatMap c) 0),N⟩⟩)(hd:decide (d<n)=true:=by rfl)(hid:base+i=id:=by simp only [Nat.reduceAdd];first|done|rfl)
 (hu:P.underlying tx=some (.slice el):=by simp only [go_sem];first|done|rfl) [hT:TI P el sz] (hux:P.underlying ty'=some dd:=by simp only [go_sem];first|done|rfl) (hdd:TypeDesc.isInt dd=false:=by rfl)
 (hs:aval t x= .v (.slice none 0 0):=by (try simp only [go_sem,Nat.reduceBEq]);first|done|rfl) (hx:aFa ⟨e,N⟩ sz (aval t y)=some (xs.flatMap c,m'):=by first|exact aAg CC.h Y1 Y3 Z6|exact aV8 CC.h Y1 rfl) (hm:m'=xs.length:=by rfl)
 (hf:aH.isFresh ⟨e,N⟩ id=true:=by simp only [dV,kZ,Nat.reduceBEq,cond_true,cond_false]) (hv:app [] xs=some l':=by first|with_reducible assumption|assumption):
 aR P strict ops base i (⟨some d,.call { callee:= .builtin .append,args:= #[x,y],argTypes:= #[tx,ty'] },ty,pos,after,none⟩::rest) K ⟨n,t,⟨e,N⟩⟩:=by
 obtain ⟨ii,z,h1,h2,h3,h4,h5,h6,h7⟩:=hT.h;exact hp hd hid (bR3 hC.h hu hux hdd h1 h2 h3 h4 h5 h6 h7 hs hx hm hf hv) k
theorem aL{α:Type}{c:α→List AV}{sz:Nat}(hC:CF c sz)(l:List α){id:Nat}{tx el:TypeId}{len:Nat}{zs:List AV}{parts:Array (Nat×Operand)}{ps:List (Nat×AV)}(k:aR P strict ops base (i+1) rest K ⟨n,aF t d (.own id 0 l.length),⟨upd e id (.cells sz (l.flatMap c) 0),N⟩⟩)(hd:decide (d<n)=true:=by rfl)(hid:base+i=id:=by simp only [Nat.reduceAdd];first|done|rfl)
 (hu:P.underlying tx=some (.slice el):=by simp only [go_sem];first|done|rfl) (hsz:aO P el=some sz:=by simp only [go_sem];first|done|rfl) (hz:zeroCells? P el=some zs:=by simp only [go_sem];first|done|rfl) (hf:aH.isFresh ⟨e,N⟩ id=true:=by simp only [dV,kZ,Nat.reduceBEq,cond_true,cond_false])
 (hlen:len*sz≤16777216:=by decide) (hzs:zs.length=sz:=by decide) (h0:sz≠0:=by decide) (hps:parts.toList.map (fun (i,x)=>(i,aval t x))=ps:=by simp only [go_sem,Nat.reduceBEq];first|done|rfl)
 (hxs:(nP (fun i=>some (i*sz,sz)) (zeros len zs) ps,len)=(some (l.flatMap c),l.length):=by kernel_rfl):aR P strict ops base i (⟨some d,.buildSlice tx len parts,ty,pos,after,none⟩::rest) K ⟨n,t,⟨e,N⟩⟩:=
 hp hd hid (kW hC hu hsz hz hf hlen hzs h0 hps hxs) k
theorem bU(x:AV)(k:aR P strict ops base (i+1) rest K ⟨n,aF t d x,H⟩)(hd:decide (d<n)=true:=by rfl)(h:bJ P H (aval t) op=some x:=by simp only [go_sem,Nat.reduceBEq];kernel_rfl):
 aR P strict ops base i (⟨some d,op,ty,pos,after,none⟩::rest) K ⟨n,t,H⟩:=pu hd h k
theorem aK{α:Type}{c:α→List AV}{sz:Nat}(hC:CF c sz){id:Nat}{tx el:TypeId}{x y:Operand}{kx ky:IntKind}{a b:Int}{z:α}{l:List α}(hv:mkc a b z=some l)(k:aR P strict ops base (i+1) rest K ⟨n,aF t d (.own id 0 l.length),⟨upd e id (.cells sz (l.flatMap c) 0),N⟩⟩)(hd:decide (d<n)=true:=by rfl)(hid:base+i=id:=by simp only [Nat.reduceAdd];first|done|rfl)
 (hu:P.underlying tx=some (.slice el):=by simp only [go_sem];first|done|rfl) [hT:TI P el sz] (hz:zeroCells? P el=some (c z):=by simp only [go_sem];first|done|rfl) (hf:aH.isFresh ⟨e,N⟩ id=true:=by simp only [dV,kZ,Nat.reduceBEq,cond_true,cond_false])
 (hx:aval t x= .v (.int kx a):=by (try simp only [go_sem,Nat.reduceBEq]);first|done|rfl) (hy:aval t y= .v (.int ky b):=by (try simp only [go_sem,Nat.reduceBEq]);first|done|rfl):aR P strict ops base i (⟨some d,.makeSlice tx x y,ty,pos,after,none⟩::rest) K ⟨n,t,⟨e,N⟩⟩:=by
 obtain ⟨ii,z',h1,h2,h3,h4,h5,h6,h7⟩:=hT.h;exact hp hd hid (bFu hC hu h1 hz h3 h2 h7 hf hx hy hv) k
theorem aS{α:Type}{c:α→List AV}{sz:Nat}[hC:CC c sz]{tx:TypeId}{a x:Operand}{j lk:Nat}{iv:Int}{l l':List α}{y:α}(hv:stt l iv y=some l')(k:aR P strict ops base (i+1) rest K ⟨n,t,⟨upd e j (.cells sz (l'.flatMap c) 0),N⟩⟩)(hs:aO P tx=some sz:=by simp only [go_sem];first|done|rfl)
 (ha:aval t a= .adr j (0+iv.toNat*sz):=by (try simp only [go_sem,Nat.reduceBEq]);first|done|rfl) (he:e j= .cells sz (l.flatMap c) lk:=by simp only [dM,beq_self_eq_true,Nat.reduceBEq,cond_true,cond_false];first|done|rfl) (hx:(aval t x).cells? =some (c y):=by (try simp only [go_sem,Nat.reduceBEq]);first|done|rfl) (hlk:lk=0:=by rfl):aR P strict ops base i (⟨none,.store tx a x,ty,pos,after,none⟩::rest) K ⟨n,t,⟨e,N⟩⟩:=
 aR.heap0 (id:=base+i) rfl (aGl hC.h hs ha hx he hlk hv) k
end
theorem DS{xs:List AV}(h: ∀a,a∈xs→Data a:=by (repeat (first|exact daN|refine daC DT ?_));done): ∀a,a∈xs→Data a:=h
theorem T0{lk:Bool}{H:aH}{x y:AV}(h:ToD lk H x y:=by first
 |exact td Y1 DT
 |exact tdn Y1
 |exact tdo CC.h Y1 Y3 Z6
 |exact tdf Y1 DT
 |fail):ToD lk H x y:=h
theorem T1{lk:Bool}{H:aH}{x y:AV}(h:ToD lk H x y:=by first
 |exact T0
 |(refine tda Y1 ?_;(repeat (first|exact .nil|refine .cons T0 ?_));done)
 |fail):ToD lk H x y:=h
theorem T2{lk:Bool}{H:aH}{x y:AV}{b:Bool}(hb:b=true)(h:ToD lk H x y:=by first
 |exact td (Yh hb) DT
 |exact tdn (Yh hb)
 |(refine tda (Yh hb) ?_;(repeat (first|exact .nil|refine .cons T0 ?_));done)
 |fail):ToD lk H x y:=h
theorem xD{H':aH}{ren:Nat→Nat}{f g:Nat→AV}{i:Nat}{a:AV}(h': ∀k,Wk H' ren (g k) (f k))(hd:Data a:=by exact DT)(h:aval f (.tmp i)=a:=by (try simp only [go_sem,Nat.reduceBEq]);first|done|rfl): ∀k,Wk H' ren (aF g i a k) (f k):=bH _ _ (lR h hd) h'
theorem xE{α:Type}{c:α→List AV}{sz:Nat}[hC:CC c sz]{H H':aH}{ren:Nat→Nat}{e:Nat→Ent}{i lk:Nat}{l:List α}(h': ∀id,lX H H' ren id (e id))(h:H.ent (ren i)= .cells sz (l.flatMap c) lk:=by exact Y3)(h0:lk=0:=by rfl):
 ∀id,lX H H' ren id (upd e i (.cells sz (l.flatMap c) 0) id):=cG (aH2 hC.h h h0) h'
section
variable {P:Program}{B:Nat→Prop}{strict:Bool}{ops:Array Oper}{base i:Nat}{rest:List Oper}{K:St→Prop}{Q:Exit→St→Prop}{n:Nat}{t f:Nat→AV}{H:aH}{d:Tmp}{op:Op}{ty:TypeId}{pos:String}{after:Array Edge}{r:AV}{e:Nat→Ent}{N N':Nat}
theorem cq{x:Operand}{args:Array Operand}{ats:Array TypeId}{g:FuncId}{args':List AV}(hc:cE P g args' r)(k:aR P strict ops base (i+1) rest K ⟨n,aF t d r,H⟩)[hb:FB P g](hd:decide (d<n)=true:=by rfl)
 (hf:aval t x= .clo (.func g) [] []:=by (try simp only [go_sem,Nat.reduceBEq]);first|done|rfl) (ha: ∀H,oR true H (args.toList.map (aval t)) args':=by intro H;(repeat (first|exact .nil|refine .cons T1 ?_))):
 aR P strict ops base i (⟨some d,.call { callee:= .value x,args:=args,argTypes:=ats },ty,pos,after,none⟩::rest) K ⟨n,t,H⟩:=aR.callQ (of_decide_eq_true hd) hf hb.h ha hc k
theorem cg{j:Nat}{want b:Bool}{dj:Tmp}{x:Operand}{args:Array Operand}{ats:Array TypeId}{g:FuncId}{args':List AV}(hc:b=true→cE P g args' r)(k:aR P strict ops base (i+1) rest K ⟨n,aF t d (gd b r),H⟩)[hb:FB P g](hd:decide (d<n)=true:=by rfl)
 (hj:(ops[j]?).bind (·.dst)=some dj:=by rfl) (hg:aEg want (aval t (.tmp dj))=some b:=by simp only [go_sem,Nat.reduceBEq];first|done|with_reducible rfl) (hf:aval t x= .clo (.func g) [] []:=by (try simp only [go_sem,Nat.reduceBEq]);first|done|rfl)
 (ha:b=true→ ∀H,oR true H (args.toList.map (aval t)) args':=by intro hb H;(repeat (first|exact .nil|refine .cons (T2 hb) ?_))):
 aR P strict ops base i (⟨some d,.call { callee:= .value x,args:=args,argTypes:=ats },ty,pos,after,some (j,want)⟩::rest) K ⟨n,t,H⟩:=aR.callQG (of_decide_eq_true hd) hj hg hf hb.h ha hc k
end
structure Bx(Q:Prop):Prop where h:Q
theorem xF{H H':aH}{ren:Nat→Nat}{e:Nat→Ent}{i l l' sz:Nat}{xs:List AV}(h': ∀id,lX H H' ren id (e id))(h:H.ent (ren i)= .cells sz xs l:=by exact Y3)(hl:l≤l':=by exact Nat.le_refl _)(hl':l'≤xs.length:=by exact Nat.zero_le _)(hd: ∀a,a∈xs→Data a:=by exact DS):
 ∀id,lX H H' ren id (upd e i (.cells sz xs l') id):=cG (oE h hl hl' hd) h'
theorem gR{P:Program}{strict:Bool}{ops:Array Oper}{base i:Nat}{o:Oper}{rest:List Oper}{K:St→Prop}{s:St}(h:aR P strict ops base i (o::rest) K s):aR P strict ops base i (o::rest) K s:=h
theorem gW{P:Program}{B:Nat→Prop}{c:Code}{Q:Exit→St→Prop}{s:St}(h:AWp P B c Q s):AWp P B c Q s:=h
theorem S1{P Q:Prop}(k:Q)(h:Bx Q→P:=by
 intro k
 first|(refine gR ?_;first|refine pR ?_|refine pL ?_|refine qA ?_|refine pV ?_|refine hV ?_|refine pI ?_|refine pJ ?_|refine qB ?_|refine hA ?_|refine hB ?_|refine pW ?_|refine pK ?_|refine pS ?_|refine aP ?_|refine pN ?_|refine pT ?_|refine pX ?_|refine aQ ?_|refine pD ?_|refine pG ?_|refine pE ?_|refine pQ ?_|refine pM ?_|refine sk ?_|refine pC ?_|fail)|refine fs ?_|refine aR.fin ?_|(refine gW ?_;first|refine sx ?_|refine AWp.skip ?_|refine rx ?_|refine AWp.block ?_|refine AWp.ret ?_|refine dx ?_|refine AWp.exit ?_|fail)|refine bQ ?_|refine jC ?_|refine jP ?_|refine iA ?_|refine iS ?_|refine jA ?_|refine kE ?_|refine sI ?_|refine sJ ?_|refine oY ?_|refine bBk ?_|refine aVp ?_|fail
 exact k.h):P:=h ⟨k⟩
theorem V{P Q:Prop}(k:Q)(h:Bx Q→P:=by intro k;(repeat (first|(refine gR ?_;first|refine pR ?_|refine pL ?_|refine qA ?_|refine pV ?_|refine hV ?_|refine pI ?_|refine pJ ?_|refine qB ?_|refine hA ?_|refine hB ?_|refine pW ?_|refine pK ?_|refine pS ?_|refine aP ?_|refine pN ?_|refine pT ?_|refine pX ?_|refine aQ ?_|refine pD ?_|refine pG ?_|refine pE ?_|refine pQ ?_|refine pM ?_|refine sk ?_|refine pC ?_|fail)|refine fs ?_|refine aR.fin ?_|(refine gW ?_;first|refine sx ?_|refine AWp.skip ?_|refine rx ?_|refine AWp.block ?_|refine AWp.ret ?_|refine dx ?_|refine AWp.exit ?_|fail)|refine bQ ?_|refine jC ?_|refine jP ?_|refine iA ?_|refine iS ?_|refine jA ?_|refine kE ?_|refine sI ?_|refine sJ ?_|refine oY ?_|refine bBk ?_|refine aVp ?_));exact k.h):P:=h ⟨k⟩
theorem W{P Q:Prop}(k:Q)(h:Bx Q→P:=by intro k;(repeat (first|(refine gR ?_;first|refine pR ?_|refine pL ?_|refine qA ?_|refine pV ?_|refine hV ?_|refine pI ?_|refine pJ ?_|refine qB ?_|refine hA ?_|refine hB ?_|refine pW ?_|refine pK ?_|refine pS ?_|refine aP ?_|refine pN ?_|refine pT ?_|refine pX ?_|refine aQ ?_|refine pD ?_|refine pG ?_|refine pE ?_|refine pQ ?_|refine pM ?_|refine sk ?_|refine pC ?_|fail)|refine fs ?_|refine aR.fin ?_|(refine gW ?_;first|refine sx ?_|refine AWp.skip ?_|refine rx ?_|refine AWp.block ?_|refine AWp.ret ?_|refine dx ?_|refine AWp.exit ?_|fail)|refine bQ ?_|refine jC ?_|refine jP ?_|refine iA ?_|refine iS ?_|refine jA ?_|refine kE ?_|refine sI ?_|refine sJ ?_|refine oY ?_|refine bBk ?_|refine aVp ?_|refine AWp.seq' ?_));exact k.h):P:=h ⟨k⟩
theorem E{P:Prop}(h:P:=by
 (repeat (first|(refine gR ?_;first|refine pR ?_|refine pL ?_|refine qA ?_|refine pV ?_|refine hV ?_|refine pI ?_|refine pJ ?_|refine qB ?_|refine hA ?_|refine hB ?_|refine pW ?_|refine pK ?_|refine pS ?_|refine aP ?_|refine pN ?_|refine pT ?_|refine pX ?_|refine aQ ?_|refine pD ?_|refine pG ?_|refine pE ?_|refine pQ ?_|refine pM ?_|refine sk ?_|refine pC ?_|fail)|refine fs ?_|refine aR.fin ?_|(refine gW ?_;first|refine sx ?_|refine AWp.skip ?_|refine rx ?_|refine AWp.block ?_|refine AWp.ret ?_|refine dx ?_|refine AWp.exit ?_|fail)|refine bQ ?_|refine jC ?_|refine jP ?_|refine iA ?_|refine iS ?_|refine jA ?_|refine kE ?_|refine sI ?_|refine sJ ?_|refine oY ?_|refine bBk ?_|refine aVp ?_|refine AWp.seq' ?_))
 cases hm
 first
 |exact aNg (by first|exact .inr rfl|exact .inl rfl) rfl T1
 |exact aGg (by first|exact .inr rfl|exact .inl rfl) rfl T1 T1
 |exact bGx (by first|exact .inr rfl|exact .inl rfl) rfl T1 T1 T1
 |(apply bF6 (by first|exact .inr rfl|exact .inl rfl) rfl ?rl rfl ?td;(case rl=>(repeat (first|exact RL.nil|apply RL.tmp Y1|apply RL.cell (aGo Y1 Y3 Y4))));(case td=>(first|exact T1|(refine tdt ?_;(repeat (first|exact .nil|refine .cons T1 ?_));done)|fail)))
 |fail):P:=h
theorem Lr(ren:Nat→Nat){B:Nat→Prop}{I:St→Prop}{n N N':Nat}{f g:Nat→AV}{e e':Nat→Ent}(hI:I ⟨n,g,⟨e',N'⟩⟩:=by (repeat apply Exists.intro);exact ⟨rfl,hm⟩)
 (hf: ∀k,Wk ⟨e',N'⟩ ren (g k) (f k):=by (repeat (first|exact dN|refine xV ?_|refine xO ?_|refine xD ?_|refine xA ?_)))
 (he:aAc B ⟨e,N⟩ ⟨e',N'⟩ ren:=by first|exact aXd|(refine hW ?_;(repeat (first|exact cZ|refine xE ?_|refine xF ?_));done)): ∃s',St.Le B ⟨n,f,⟨e,N⟩⟩ s'∧I s':=⟨_,cP ren hf he,hI⟩
theorem cn(ren:Nat→Nat){B:Nat→Prop}{n N N':Nat}{f g:Nat→AV}{e e':Nat→Ent}
 (hf: ∀k,Wk ⟨e',N'⟩ ren (g k) (f k):=by (repeat (first|exact dN|refine xV ?_|refine xO ?_|refine xD ?_|refine xA ?_)))
 (he:aAc B ⟨e,N⟩ ⟨e',N'⟩ ren:=by first|exact aXd|(refine hW ?_;(repeat (first|exact cZ|refine xE ?_|refine xF ?_));done)):St.Le B ⟨n,f,⟨e,N⟩⟩ ⟨n,g,⟨e',N'⟩⟩:=cP ren hf he
theorem L{P:Prop}(h:P:=by
 (repeat (first|(refine gR ?_;first|refine pR ?_|refine pL ?_|refine qA ?_|refine pV ?_|refine hV ?_|refine pI ?_|refine pJ ?_|refine qB ?_|refine hA ?_|refine hB ?_|refine pW ?_|refine pK ?_|refine pS ?_|refine aP ?_|refine pN ?_|refine pT ?_|refine pX ?_|refine aQ ?_|refine pD ?_|refine pG ?_|refine pE ?_|refine pQ ?_|refine pM ?_|refine sk ?_|refine pC ?_|fail)|refine fs ?_|refine aR.fin ?_|(refine gW ?_;first|refine sx ?_|refine AWp.skip ?_|refine rx ?_|refine AWp.block ?_|refine AWp.ret ?_|refine dx ?_|refine AWp.exit ?_|fail)|refine bQ ?_|refine jC ?_|refine jP ?_|refine iA ?_|refine iS ?_|refine jA ?_|refine kE ?_|refine sI ?_|refine sJ ?_|refine oY ?_|refine bBk ?_|refine aVp ?_|refine AWp.seq' ?_))
 exact Lr id):P:=h
end Go.AM
