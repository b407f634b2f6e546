/- Facts. No condition. -/
import Derived.Test.YtkdohhmacfoolaaGreatDoorPgAmR
set_option linter.unusedSimpArgs false
set_option linter.unusedVariables false
set_option maxRecDepth 4000
namespace Go.AM
open Go Go.RowKit
class Ct(P:Program)(g:FuncId)(S:outParam Prop):Prop where h:S
section
variable (P:Program){a b c d e f i j R:Type}
abbrev K0(z:R→AV)(g:FuncId)(m:Option R):Prop:= ∀ {r},m=some r→cE P g [] (z r)
abbrev K1(A:a→AV)(z:R→AV)(g:FuncId)(m:a→Option R):Prop:= ∀ {x r},m x=some r→cE P g [A x] (z r)
abbrev K2(A:a→AV)(B:b→AV)(z:R→AV)(g:FuncId)(m:a→b→Option R):Prop:= ∀ {x y r},m x y=some r→cE P g [A x,B y] (z r)
abbrev K3(A:a→AV)(B:b→AV)(C:c→AV)(z:R→AV)(g:FuncId)(m:a→b→c→Option R):Prop:= ∀ {x y u r},m x y u=some r→cE P g [A x,B y,C u] (z r)
abbrev K4(A:a→AV)(B:b→AV)(C:c→AV)(D:d→AV)(z:R→AV)(g:FuncId)(m:a→b→c→d→Option R):Prop:= ∀ {x y u v r},m x y u v=some r→cE P g [A x,B y,C u,D v] (z r)
abbrev K5(A:a→AV)(B:b→AV)(C:c→AV)(D:d→AV)(E:e→AV)(z:R→AV)(g:FuncId)(m:a→b→c→d→e→Option R):Prop:= ∀ {x y u v w r},m x y u v w=some r→cE P g [A x,B y,C u,D v,E w] (z r)
end
abbrev t2{a b:Type}(A:a→AV)(B:b→AV):a×b→AV:=fun r=> .tup [A r.1,B r.2]
abbrev t3{a b c:Type}(A:a→AV)(B:b→AV)(C:c→AV):a×b×c→AV:=fun r=> .tup [A r.1,B r.2.1,C r.2.2]
abbrev vk(k:IntKind)(n:Int):AV:= .v (.int k n)
abbrev vs(x:ByteArray):AV:= .v (.string x)
theorem b2{α β γ:Type}{o:Option (α×β)}{f:α×β→Option γ}{r:γ}(h:o.bind f=some r): ∃x y,o=some (x,y)∧f (x,y)=some r:=by
 obtain ⟨⟨x,y⟩,h1,h2⟩:=bnd h;exact ⟨x,y,h1,h2⟩
theorem b3{α β γ δ:Type}{o:Option (α×β×δ)}{f:α×β×δ→Option γ}{r:γ}(h:o.bind f=some r): ∃x y z,o=some (x,y,z)∧f (x,y,z)=some r:=by
 obtain ⟨⟨x,y,z⟩,h1,h2⟩:=bnd h;exact ⟨x,y,z,h1,h2⟩
theorem ex1{α:Type}{p:α→Prop}{Q:Prop}(h: ∃x,p x)(k: ∀x,p x→Q):Q:=by obtain ⟨x,h⟩:=h;exact k x h
section
variable {P:Program}{B:Nat→Prop}{strict:Bool}{ops:Array Oper}{base i:Nat}{rest:List Oper}{K:St→Prop}{Q:Exit→St→Prop}{n:Nat}{t f:Nat→AV}{H:aH}{d:Tmp}{op:Op}{ty:TypeId}{pos:String}{after:Array Edge}{r:AV}{e:Nat→Ent}{N N':Nat}
theorem cJ{S:Prop}{args:Array Operand}{ats:Array TypeId}{g:FuncId}{args':List AV}[hS:Ct P g S][hb:FB P g](hc:S→cE P g args' r)(k:aR P strict ops base (i+1) rest K ⟨n,aF t d r,H⟩)(hd:decide (d<n)=true:=by rfl)
 (ha: ∀H,oR true H (args.toList.map (aval t)) args':=by intro H;(repeat (first|exact .nil|refine .cons T1 ?_))):
 aR P strict ops base i (⟨some d,.call { callee:= .value (Operand.func g),args:=args,argTypes:=ats },ty,pos,after,none⟩::rest) K ⟨n,t,H⟩:=cq (hc hS.h) k hd rfl ha
theorem cK{S:Prop}{j:Nat}{want b:Bool}{dj:Tmp}{args:Array Operand}{ats:Array TypeId}{g:FuncId}{args':List AV}[hS:Ct P g S][hb:FB P g](hc:S→b=true→cE P g args' r)(k:aR P strict ops base (i+1) rest K ⟨n,aF t d (gd b r),H⟩)(hd:decide (d<n)=true:=by rfl)
 (hj:(ops[j]?).bind (·.dst)=some dj:=by rfl) (hg:aEg want (aval t (.tmp dj))=some b:=by simp only [go_sem,Nat.reduceBEq];first|done|with_reducible rfl)
 (ha:b=true→ ∀H,oR true H (args.toList.map (aval t)) args':=by intro hb H;(repeat (first|exact .nil|refine .cons (T2 hb) ?_))):
 aR P strict ops base i (⟨some d,.call { callee:= .value (Operand.func g),args:=args,argTypes:=ats },ty,pos,after,some (j,want)⟩::rest) K ⟨n,t,H⟩:=cg (hc hS.h) k hd hj hg rfl ha
end
theorem Y5{p:Prop}(h:p:=by simp only [go_sem];first|done|rfl):p:=h
theorem be{P:Program}{r:AV}(n:Nat){g:FuncId}{fn:Func}{c:Code}{args:List AV}(hf:P.funcs[g]? =some fn)(hb:fn.body=some c:=by rfl)(hn:args.length+(fn.ntmps-args.length)=n:=by rfl)
 (h:AWp P B0 c (fun e s=>(e= .normal∨e= .ret)∧ ∃r',yS P fn s=some r'∧ToD false s.H r' r) ⟨n,aIb args,⟨aZ,0⟩⟩):cE P g args r:=bd n hf h hb hn
abbrev R4(a b c d k:Nat):Nat→Nat:=fun j=>bif j==1 then a else bif j==2 then b else bif j==3 then c else bif j==4 then d else bif j==5 then k else 0
section
variable {H H':aH}{ren:Nat→Nat}{f g:Nat→AV}{e:Nat→Ent}{i j id off len sz l lk:Nat}
theorem xN{fl:Bool}(h': ∀k,Wk H' ren (g k) (f k))(h:aval f (.tmp i)= .v (.slice none 0 0):=by (try simp only [go_sem,Nat.reduceBEq]);first|done|rfl): ∀k,Wk H' ren (aF g i (.sl [] 0 fl) k) (f k):=
 bH _ _ (by have h0:f i=_:=h;rw [h0];exact .nil fl) h'
theorem xZ{xs:List AV}(h': ∀k,Wk H' ren (g k) (f k))(h:aval f (.tmp i)= .v (.slice none 0 0):=by (try simp only [go_sem,Nat.reduceBEq]);first|done|rfl)(he:H'.ent id= .cells sz xs l:=by exact Y3): ∀k,Wk H' ren (aF g i (.own id off 0) k) (f k):=
 bH _ _ (by have h0:f i=_:=h;rw [h0];exact .niz id off sz xs l he) h'
theorem yE{α:Type}{c:α→List AV}{sz:Nat}[hC:CC c sz]{l:List α}(h': ∀id,lX H H' ren id (e id))(hr:ren i=j:=by rfl)(h:H.ent j= .cells sz (l.flatMap c) lk:=by exact Y3)(h0:lk=0:=by rfl):
 ∀id,lX H H' ren id (upd e i (.cells sz (l.flatMap c) 0) id):=cG (aH2 hC.h (by rw [hr];exact h) h0) h'
theorem yF{l':Nat}{xs:List AV}(h': ∀id,lX H H' ren id (e id))(hr:ren i=j:=by rfl)(h:H.ent j= .cells sz xs l:=by exact Y3)(hl:l≤l':=by exact Nat.le_refl _)(hl':l'≤xs.length:=by exact Nat.zero_le _)(hd: ∀a,a∈xs→Data a:=by exact DS):
 ∀id,lX H H' ren id (upd e i (.cells sz xs l') id):=cG (oE (by rw [hr];exact h) hl hl' hd) h'
theorem yG{xs ys:List AV}(h': ∀id,lX H H' ren id (e id))(hr:ren i=j:=by rfl)(h:H.ent j= .cells sz ys l:=by exact Y3)(hl:l=0:=by rfl)
 (hw:Wks H' ren xs ys:=by repeat (first|exact .nil|refine .cons (by first|exact .data _ DT|exact .nil _|exact vE (by first|rfl|omega) rfl (by simp [upd])) ?_)): ∀id,lX H H' ren id (upd e i (.cells sz xs 0) id):=cG (jR (by rw [hr];exact h) hl hw) h'
theorem yY(h': ∀id,lX H H' ren id (e id))(hr:ren i=900000+i:=by rfl)(h:H.ent (900000+i)= .fresh:=by simp only [Nat.reduceAdd,dM,Nat.reduceBEq,cond_false];first|done|rfl): ∀id,lX H H' ren id (upd e i (.cells sz [] 0) id):=
 cG (.inl ⟨rfl,rfl,by rw [hr];exact h⟩) h'
end
theorem L1{I:St→Prop}{n N N' a b c d k:Nat}{f g:Nat→AV}{e e':Nat→Ent}(hI:I ⟨n,g,⟨e',N'⟩⟩:=by (repeat apply Exists.intro);exact ⟨rfl,hm⟩)
 (hf: ∀k',Wk ⟨e',N'⟩ (R4 a b c d k) (g k') (f k'):=by (repeat (first|exact dN|refine xV ?_|refine xO ?_|refine xD ?_|refine xA ?_|refine xN ?_|refine xZ ?_)))
 (he: ∀id,lX ⟨e,N⟩ ⟨e',N'⟩ (R4 a b c d k) id (e' id):=by repeat (first|exact cZ|refine yE ?_|refine yF ?_|refine yG ?_|refine yY ?_))
 (h1:True∨a=0:=by first|exact .inr rfl|exact .inl trivial) (h2:True∨b=0:=by first|exact .inr rfl|exact .inl trivial) (h3:True∨c=0:=by first|exact .inr rfl|exact .inl trivial) (h4:True∨d=0:=by first|exact .inr rfl|exact .inl trivial)
 (h5:True∨k=0:=by first|exact .inr rfl|exact .inl trivial) (hi: ∀i j,(e' i).live=true→(e' j).live=true→R4 a b c d k i=R4 a b c d k j→i=j:=by repeat' (first|exact zK|exact zQ|refine jW ?_ ?_|refine qR ?_ ?_|exact .inl rfl|exact .inr (by decide))):
 ∃s',St.Le B0 ⟨n,f,⟨e,N⟩⟩ s'∧I s':=⟨_,cP _ hf (gN _ he hi),hI⟩
class CE(P:Program)(tx:TypeId){α:outParam Type}(c:outParam (α→List AV))(sz:outParam Nat)(z:outParam α):Prop where
 h: ∃el,P.underlying tx=some (.slice el)∧aO P el=some sz∧zeroCells? P el=some (c z)∧TI P el sz∧CF c sz∧sz≠0∧8*sz≤16777216
class BD(P:Program)(t:TypeId)(pl:outParam (Nat→Option (Nat×Nat)))(zs:outParam (List AV)):Prop where h: ∀ps,aAd P t ps=(nP pl zs ps).map .agg
theorem bW9{sz:Nat}{x zs cs:List AV}{a:AV}(hz:zs.length=sz)(ha:a.cells? =some cs)(hc:cs.length=sz):nP (fun i=>some (i*sz,sz)) zs [(0,a)]=some cs:=by
 simp only [nP,ha,Nat.zero_mul,Nat.zero_add];rw [if_neg (by omega)];simp [List.drop_eq_nil_of_le (show zs.length≤cs.length by omega)]
theorem bWa{sz:Nat}{zs cs ds:List AV}{a b:AV}(hz:zs.length=sz)(ha:a.cells? =some cs)(hc:cs.length=sz)(hb:b.cells? =some ds)(hd:ds.length=sz):nP (fun i=>some (i*sz,sz)) (zs++zs) [(0,a),(1,b)]=some (cs++ds):=by
 simp only [nP,ha,hb,Nat.zero_mul,Nat.zero_add,Nat.one_mul,List.take_zero,List.nil_append];rw [if_neg (by simp;omega),if_neg (by simp;omega)];have h1:List.drop cs.length (zs++zs)=zs:=by rw [List.drop_append_of_le_length (by omega),List.drop_eq_nil_of_le (by omega),List.nil_append]
 have h2:List.take sz (cs++zs)=cs:=by rw [List.take_append_of_le_length (by omega),List.take_of_length_le (by omega)]
 rw [h1,h2,List.drop_eq_nil_of_le (by simp;omega),List.append_nil]
section
variable {P:Program}{B:Nat→Prop}{strict:Bool}{ops:Array Oper}{base i:Nat}{rest:List Oper}{K:St→Prop}{Q:Exit→St→Prop}{n:Nat}{t f:Nat→AV}{H:aH}{d:Tmp}{op:Op}{ty:TypeId}{pos:String}{after:Array Edge}{r:AV}{e:Nat→Ent}{N N':Nat}
theorem l1{α:Type}{c:α→List AV}{sz id:Nat}{z x:α}{tx:TypeId}{y0:Operand}[hE:CE P tx c sz z](k:aR P strict ops base (i+1) rest K ⟨n,aF t d (.own id 0 [x].length),⟨upd e id (.cells sz ([x].flatMap c) 0),N⟩⟩)(hd:decide (d<n)=true:=by rfl)
 (hx:(aval t y0).cells? =some (c x):=by (try simp only [go_sem,Nat.reduceBEq]);first|done|rfl) (hid:base+i=id:=by simp only [Nat.reduceAdd];first|done|rfl) (hf:aH.isFresh ⟨e,N⟩ id=true:=by simp only [dV,kZ,Nat.reduceBEq,cond_true,cond_false]):
 aR P strict ops base i (⟨some d,.buildSlice tx 1 #[(0,y0)],ty,pos,after,none⟩::rest) K ⟨n,t,⟨e,N⟩⟩:=by
 obtain ⟨el,h1,h2,h3,h4,h5,h6,h7⟩:=hE.h;refine hp hd hid (kW h5 (l:=[x]) h1 h2 h3 hf (by omega) (h5.len _) h6 rfl ?_) k;rw [show zeros 1 (c z)=c z by simp [zeros]];show (nP _ _ [(0,aval t y0)],1)=_;rw [bW9 (x:=c x) (h5.len _) hx (h5.len _)];simp
theorem l2{α:Type}{c:α→List AV}{sz id:Nat}{z x x':α}{tx:TypeId}{y0 y1:Operand}[hE:CE P tx c sz z](k:aR P strict ops base (i+1) rest K ⟨n,aF t d (.own id 0 [x,x'].length),⟨upd e id (.cells sz ([x,x'].flatMap c) 0),N⟩⟩)(hd:decide (d<n)=true:=by rfl)
 (hx:(aval t y0).cells? =some (c x):=by (try simp only [go_sem,Nat.reduceBEq]);first|done|rfl) (hx':(aval t y1).cells? =some (c x'):=by (try simp only [go_sem,Nat.reduceBEq]);first|done|rfl) (hid:base+i=id:=by simp only [Nat.reduceAdd];first|done|rfl) (hf:aH.isFresh ⟨e,N⟩ id=true:=by simp only [dV,kZ,Nat.reduceBEq,cond_true,cond_false]):
 aR P strict ops base i (⟨some d,.buildSlice tx 2 #[(0,y0),(1,y1)],ty,pos,after,none⟩::rest) K ⟨n,t,⟨e,N⟩⟩:=by
 obtain ⟨el,h1,h2,h3,h4,h5,h6,h7⟩:=hE.h;refine hp hd hid (kW h5 (l:=[x,x']) h1 h2 h3 hf (by omega) (h5.len _) h6 rfl ?_) k;rw [show zeros 2 (c z)=c z++c z by simp [zeros,List.replicate]];show (nP _ _ [(0,aval t y0),(1,aval t y1)],2)=_;rw [bWa (h5.len _) hx (h5.len _) hx' (h5.len _)];simp
theorem mK{α:Type}{c:α→List AV}{sz id:Nat}{tx:TypeId}{x y:Operand}{kx ky:IntKind}{a b:Int}{z:α}{l:List α}[hE:CE P tx c sz z](hv:mkc a b z=some l)(k:aR P strict ops base (i+1) rest K ⟨n,aF t d (.own id 0 l.length),⟨upd e id (.cells sz (l.flatMap c) 0),N⟩⟩)(hd:decide (d<n)=true:=by rfl)(hid:base+i=id:=by simp only [Nat.reduceAdd];first|done|rfl)
 (hf:aH.isFresh ⟨e,N⟩ id=true:=by simp only [dV,kZ,Nat.reduceBEq,cond_true,cond_false])
 (hx:aval t x= .v (.int kx a):=by (try simp only [go_sem,Nat.reduceBEq]);first|done|rfl) (hy:aval t y= .v (.int ky b):=by (try simp only [go_sem,Nat.reduceBEq]);first|done|rfl):aR P strict ops base i (⟨some d,.makeSlice tx x y,ty,pos,after,none⟩::rest) K ⟨n,t,⟨e,N⟩⟩:=by
 obtain ⟨el,h1,h2,h3,h4,h5,h6,h7⟩:=hE.h;exact aK h5 hv k hd hid h1 h3 hf hx hy
theorem bV{pl:Nat→Option (Nat×Nat)}{zs:List AV}{parts:Array (Nat×Operand)}{ps:List (Nat×AV)}{ty':TypeId}[hB:BD P ty' pl zs](k: ∀cs,some cs=nP pl zs ps→aR P strict ops base (i+1) rest K ⟨n,aF t d (.agg cs),H⟩)(hd:decide (d<n)=true:=by rfl)
 (hps:parts.toList.map (fun (i,x)=>(i,aval t x))=ps:=by simp only [go_sem,Nat.reduceBEq];first|done|rfl) (h:(nP pl zs ps).isSome=true:=by rfl):
 aR P strict ops base i (⟨some d,.build ty' parts,ty,pos,after,none⟩::rest) K ⟨n,t,H⟩:=by
 obtain ⟨cs,hc⟩:=Option.isSome_iff_exists.1 h;exact pu hd (by rw [aPk,hB.h,hps,hc];rfl) (k cs hc.symm)
theorem cT{c:Operand}{x y:Code}{s:St}(h:AWp P B x Q s)(hc:aval s.f c= .v (.bool true):=by (try simp only [go_sem,Nat.reduceBEq]);first|done|rfl):AWp P B (.cond c x y) Q s:=AWp.condT hc h
theorem cF{c:Operand}{x y:Code}{s:St}(h:AWp P B y Q s)(hc:aval s.f c= .v (.bool false):=by (try simp only [go_sem,Nat.reduceBEq]);first|done|rfl):AWp P B (.cond c x y) Q s:=AWp.condF hc h
theorem dY [hmix:MX P]{id:Nat}{l:List Oper}(h:aR P true l.toArray N 0 l (KN Q N') ⟨n,f,⟨e,N⟩⟩)(hok:dOK l.toArray=true:=by decide+kernel)(hN:N+64=N':=by simp only [Nat.reduceAdd];first|done|rfl):AWp P B (.region id l.toArray true) Q ⟨n,f,⟨e,N⟩⟩:=AWp.regD 64 hmix.h hok hN h
end
section
variable {P:Program}{B:Nat→Prop}{strict:Bool}{ops:Array Oper}{base i:Nat}{rest:List Oper}{K:St→Prop}{s:St}{D:Option Tmp}{op:Op}{ty:TypeId}{pos:String}{after:Array Edge}{gd:Option (Nat×Bool)}
theorem gC{c:Call}(h:aR P strict ops base i (⟨D,.call c,ty,pos,after,gd⟩::rest) K s):aR P strict ops base i (⟨D,.call c,ty,pos,after,gd⟩::rest) K s:=h
theorem gL{x:TypeId}{y:Operand}(h:aR P strict ops base i (⟨D,.load x y,ty,pos,after,gd⟩::rest) K s):aR P strict ops base i (⟨D,.load x y,ty,pos,after,gd⟩::rest) K s:=h
theorem gI{x:TypeId}{y z:Operand}(h:aR P strict ops base i (⟨D,.indexAddr x y z,ty,pos,after,gd⟩::rest) K s):aR P strict ops base i (⟨D,.indexAddr x y z,ty,pos,after,gd⟩::rest) K s:=h
theorem gB{b:BinOp}{x x':TypeId}{y z:Operand}(h:aR P strict ops base i (⟨D,.binOp b x y z x',ty,pos,after,gd⟩::rest) K s):aR P strict ops base i (⟨D,.binOp b x y z x',ty,pos,after,gd⟩::rest) K s:=h
theorem gE{α:Type}{p:α→Prop}(h: ∃x,p x): ∃x,p x:=h
theorem gA{p q:Prop}(h:p∧q):p∧q:=h
end
theorem G{Q:Prop}(h:Q:=by
 (repeat' (first|(refine gR ?_;first|(refine gC ?_;first|refine qA ?_|(obtain ⟨_,_,_,h0,hm⟩:=b3 hm;refine cJ (by intro c;exact c h0) ?_)|(obtain ⟨_,_,h0,hm⟩:=b2 hm;refine cJ (by intro c;exact c h0) ?_)|(obtain ⟨_,h0,hm⟩:=bnd hm;refine cJ (by intro c;exact c h0) ?_)|(obtain ⟨_,h0,hm⟩:=bnd hm;refine cK (by intro c hb;exact c (kF h0 hb)) ?_)|refine aP ?_|refine aQ ?_|refine qB ?_|(have hm:=sb hm (by with_reducible assumption))|(obtain ⟨_,_,_,_,hm⟩:=b3 hm)|(obtain ⟨_,_,_,hm⟩:=b2 hm)|(obtain ⟨_,_,hm⟩:=bnd hm))|(refine gL ?_;first|refine qA ?_|refine pV ?_|refine qB ?_|refine pW ?_|refine pD ?_|refine pE ?_|(have hm:=sb hm (by with_reducible assumption))|(obtain ⟨_,_,_,_,hm⟩:=b3 hm)|(obtain ⟨_,_,_,hm⟩:=b2 hm)|(obtain ⟨_,_,hm⟩:=bnd hm))|(refine gI ?_;first|refine pI ?_|refine pJ ?_|refine pK ?_|refine pG ?_|(have hm:=sb hm (by with_reducible assumption))|(obtain ⟨_,_,_,_,hm⟩:=b3 hm)|(obtain ⟨_,_,_,hm⟩:=b2 hm)|(obtain ⟨_,_,hm⟩:=bnd hm))|(refine gB ?_;first|refine qA ?_|refine qB ?_|refine pR ?_|refine pL ?_|refine pT ?_|refine pQ ?_|refine pM ?_|refine pC ?_|refine pu rfl (bWb Y5 Y1 (aB.isn _) Y1) ?_|refine pu rfl (bWc Y5 Y1 (aB.isn _) Y1) ?_|(have hm:=sb hm (by with_reducible assumption))|(obtain ⟨_,_,_,_,hm⟩:=b3 hm)|(obtain ⟨_,_,_,hm⟩:=b2 hm)|(obtain ⟨_,_,hm⟩:=bnd hm))|refine qA ?_|refine hV ?_|refine qB ?_|refine hA ?_|refine hB ?_|refine pS ?_|refine pN ?_|refine pX ?_|refine sk ?_|refine pC ?_|(refine bV ?_;intro _ h0;simp only [nP,AV.cells?,AV.one,Value.oneCell',if_true,ite_true,go_sem,List.take_succ_cons,List.take_zero,List.drop_succ_cons,List.drop_zero,List.cons_append,List.nil_append,List.append_nil,List.length_cons,List.length_nil,List.getElem?_cons_zero,List.getElem?_cons_succ,Nat.reduceAdd,Nat.reduceMul,Nat.reduceSub,ne_eq,not_true_eq_false,false_or,gt_iff_lt,Nat.reduceLT,Nat.lt_irrefl,if_false,ite_false,reduceIte,Option.some.injEq] at h0;subst h0)|refine l1 ?_|refine l2 ?_|(obtain ⟨_,h0,hm⟩:=bnd hm;refine mK h0 ?_)|(obtain ⟨_,h0,hm⟩:=bnd hm;have q:=nG h0;refine aS h0 ?_)|(have hm:=sb hm (by with_reducible assumption))|(obtain ⟨_,_,_,_,hm⟩:=b3 hm)|(obtain ⟨_,_,_,hm⟩:=b2 hm)|(obtain ⟨_,_,hm⟩:=bnd hm))|refine fs ?_|refine aR.fin ?_|(refine gW ?_;first|refine sx ?_|refine AWp.skip ?_|refine rx ?_|refine AWp.block ?_|refine AWp.ret ?_|refine dx ?_|refine dY ?_|refine AWp.exit ?_|refine AWp.seq' ?_|(have hm:=sb hm (by with_reducible assumption))|(obtain ⟨_,_,_,_,hm⟩:=b3 hm)|(obtain ⟨_,_,_,hm⟩:=b2 hm)|(obtain ⟨_,_,hm⟩:=bnd hm)|(refine cm hm (fun hm=>?_) fun hm=>?_)|refine cT ?_|refine cF ?_|(refine lp I1 L1 ?_;intro n1 s h;(repeat (refine ex1 h fun _ h=>?_));obtain ⟨rfl,hm⟩:=h)|(refine lp I2 L1 ?_;intro n1 s h;(repeat (refine ex1 h fun _ h=>?_));obtain ⟨rfl,hm⟩:=h)|(refine lp (I2 _) L1 ?_;intro n1 s h;(repeat (refine ex1 h fun _ h=>?_));obtain ⟨rfl,hm⟩:=h)|(refine lp I3 L1 ?_;intro n1 s h;(repeat (refine ex1 h fun _ h=>?_));obtain ⟨rfl,hm⟩:=h)|(refine lp (I3 _) L1 ?_;intro n1 s h;(repeat (refine ex1 h fun _ h=>?_));obtain ⟨rfl,hm⟩:=h)|(refine lp (I3 _ _) L1 ?_;intro n1 s h;(repeat (refine ex1 h fun _ h=>?_));obtain ⟨rfl,hm⟩:=h))|refine bQ ?_|refine jC ?_|refine jP ?_|refine iA ?_|refine iS ?_|refine jA ?_|refine kE ?_|refine sI ?_|refine sJ ?_|refine oY ?_|refine bBk ?_|refine aVp ?_|(refine gE ?_;exact L1)|(refine gA ?_;cases hm;first|exact aNg (by first|exact .inr rfl|exact .inl rfl) rfl T1|exact aGg (by first|exact .inr rfl|exact .inl rfl) rfl T1 T1|exact bGx (by first|exact .inr rfl|exact .inl rfl) rfl T1 T1 T1|(apply bF6 (by first|exact .inr rfl|exact .inl rfl) rfl ?rl rfl ?td;(case rl=>(repeat (first|exact RL.nil|apply RL.tmp Y1|apply RL.cell (aGo Y1 Y3 Y4))));(case td=>(first|exact T1|(refine tdt ?_;(repeat (first|exact .nil|refine .cons T1 ?_));done)|fail)))|fail)|(cases hm;done)|(have hm:=sb hm (by with_reducible assumption))|(obtain ⟨_,_,_,_,hm⟩:=b3 hm)|(obtain ⟨_,_,_,hm⟩:=b2 hm)|(obtain ⟨_,_,hm⟩:=bnd hm)))):Q:=h
end Go.AM
