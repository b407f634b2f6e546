/- Facts. No condition. -/
import Derived.Test.YtkdohhmacfoolaaGreatDoorPgAmC
set_option linter.unusedSimpArgs false
set_option linter.unusedVariables false
set_option maxRecDepth 4000
namespace Go.AM
open Go.RowKit
attribute [local semireducible] aR KN aF8 yP AIn AWp dR
def aY:Nat:=1000000000000
def idx{α:Type}(l:List α)(i:Int):Option α:=if 0≤i then l[i.toNat]? else none
def aBo(s:ByteArray)(i:Int):Option Int:=if 0≤i∧i<s.size then some ((aLb s i.toNat:Nat):Int) else none
def slc{α:Type}(l:List α)(lo hi:Int):Option (List α):=if 0≤lo∧lo≤hi∧hi≤l.length then some ((l.drop lo.toNat).take (hi.toNat-lo.toNat)) else none
def bLc(s:ByteArray)(lo hi:Int):Option ByteArray:=if 0≤lo∧lo≤hi∧hi≤s.size then some (s.extract lo.toNat hi.toNat) else none
def mk{α:Type}(n:Int)(z:α):Option (List α):=if 0≤n∧n≤4294967296 then some (List.replicate n.toNat z) else none
def mkc{α:Type}(n c:Int)(z:α):Option (List α):=if 0≤n∧n≤c∧c≤4294967296 then some (List.replicate n.toNat z) else none
def app{α:Type}(l xs:List α):Option (List α):=if l.length+xs.length≤4294967296 then some (l++xs) else none
def aWn{α:Type}(b:Nat)(l xs:List α):Option (List α):=if (l.length+xs.length)*b≤140737488355328 then some (l++xs) else none
def aUn(a b:ByteArray):Option ByteArray:=if a.size+b.size≤9223372036854775807 then some (a++b) else none
def stt{α:Type}(l:List α)(i:Int)(x:α):Option (List α):=if 0≤i∧i<l.length then some (l.set i.toNat x) else none
def chk(b:Bool):Option Unit:=bif b then some () else none
def eJ{α:Type}(b:Bool)(d:α)(o:Option α):Option α:=bif b then o else some d
def shl(k:IntKind)(a b:Int):Int:=k.wrap (a*2^(min b.toNat k.bits))
def shr(k:IntKind)(a b:Int):Int:=a.fdiv (2^(min b.toNat k.bits))
def yU(k:IntKind)(a b:Int):Int:=k.wrap (BitVec.ofInt k.bits a &&& BitVec.ofInt k.bits b).toNat
def bor(k:IntKind)(a b:Int):Int:=k.wrap (BitVec.ofInt k.bits a ||| BitVec.ofInt k.bits b).toNat
def aAh(k:IntKind)(a b:Int):Int:=k.wrap (BitVec.ofInt k.bits a ^^^ BitVec.ofInt k.bits b).toNat
def fU(l:List Int):ByteArray:=⟨(l.map fun n=>UInt8.ofNat n.toNat).toArray⟩
theorem bnd{α β:Type}{o:Option α}{f:α→Option β}{r:β}(h:o.bind f=some r): ∃x,o=some x∧f x=some r:=by
 cases o with
 |none=>cases h
 |some x=>exact ⟨x,rfl,h⟩
theorem kF{α:Type}{b:Bool}{d x:α}{o:Option α}(h:eJ b d o=some x)(hb:b=true):o=some x:=by subst hb;exact h
theorem vL{b:Bool}{x:Unit}(h:chk b=some x):b=true:=by cases b with|true=>rfl|false=>cases h
theorem aYv{R:Type}{t:Bool}{A A' o:Option R}{G:Prop}(hm:(bif t then A else A')=o)(ht:t=true→A=o→G)(hf:t=false→A'=o→G):G:=by
 cases t with
 |true=>exact ht rfl hm
 |false=>exact hf rfl hm
theorem aOj{α:Type}{l:List α}{i:Int}{x:α}(h:idx l i=some x):0≤i∧i<l.length∧l[i.toNat]? =some x:=by
 unfold idx at h;split at h
 ·
  rename_i h0
  have:i.toNat<l.length:=by
   rcases Nat.lt_or_ge i.toNat l.length with h1|h1
   · exact h1
   · rw [List.getElem?_eq_none h1] at h;cases h
  exact ⟨h0,by omega,h⟩
 · cases h
theorem aTf{α:Type}{l l':List α}{i:Int}{x:α}(h:stt l i x=some l'):0≤i∧i<l.length∧l'=l.set i.toNat x:=by
 unfold stt at h;split at h
 · rename_i h0;cases h;exact ⟨h0.1,h0.2,rfl⟩
 · cases h
def ci(k:IntKind)(x:Int):List AV:=[.v (.int k x)]
def aPo(x:Bool):List AV:=[.v (.bool x)]
def kD(x:ByteArray):List AV:=[.v (.string x)]
def csl{α:Type}(c:α→List AV)(l:List α):List AV:=[.sl (l.flatMap c) l.length false]
structure CF{α:Type}(c:α→List AV)(sz:Nat):Prop where
  len: ∀a,(c a).length=sz
  dat: ∀a x,x∈c a→Data x
  one: ∀a,(c a).all AV.one=true
theorem CF.fmdat{α:Type}{c:α→List AV}{sz:Nat}(h:CF c sz)(l:List α): ∀a,a∈l.flatMap c→Data a:=by
 intro a ha;obtain ⟨x,_,hx⟩:=List.mem_flatMap.mp ha;exact h.dat x a hx
theorem CF.sl{α:Type}{c:α→List AV}{sz:Nat}(h:CF c sz)(l:List α)(n:Nat)(f:Bool):Data (.sl (l.flatMap c) n f):= .sl _ _ _ (h.fmdat l)
theorem CF.fmlen{α:Type}{c:α→List AV}{sz:Nat}(h:CF c sz): ∀(l:List α),(l.flatMap c).length=l.length*sz
 |[]=>by simp
 |a::l=>by rw [List.flatMap_cons,List.length_append,h.fmlen l,h.len a,List.length_cons,Nat.add_mul];omega
theorem CF.fmone{α:Type}{c:α→List AV}{sz:Nat}(h:CF c sz): ∀(l:List α),(l.flatMap c).all AV.one=true
 |[]=>rfl
 |a::l=>by rw [List.flatMap_cons,List.all_append,h.fmone l,h.one a];rfl
theorem CF.fmdrop{α:Type}{c:α→List AV}{sz:Nat}(h:CF c sz): ∀(l:List α) (n:Nat),(l.flatMap c).drop (n*sz)=(l.drop n).flatMap c
 |l,0=>by simp
 |[],n+1=>by simp
 |a::l,n+1=>by
  rw [List.flatMap_cons,List.drop_succ_cons,←h.fmdrop l n,Nat.add_mul,Nat.one_mul,Nat.add_comm,←List.drop_drop];congr 1;rw [←h.len a,List.drop_left]
theorem CF.fmtake{α:Type}{c:α→List AV}{sz:Nat}(h:CF c sz): ∀(l:List α) (n:Nat),(l.flatMap c).take (n*sz)=(l.take n).flatMap c
 |l,0=>by simp
 |[],n+1=>by simp
 |a::l,n+1=>by
  rw [List.flatMap_cons,List.take_succ_cons,List.flatMap_cons,←h.fmtake l n,List.take_append,h.len,List.take_of_length_le (by rw [h.len,Nat.add_mul];omega)];congr 2;rw [Nat.add_mul];omega
theorem CF.at{α:Type}{c:α→List AV}{sz:Nat}(h:CF c sz){l:List α}{i:Int}{x:α}(hx:idx l i=some x):(l.flatMap c).drop (i.toNat*sz)=c x++(l.drop (i.toNat+1)).flatMap c:=by
 obtain ⟨_,_,h3⟩:=aOj hx;obtain ⟨hlt,h4⟩:=List.getElem?_eq_some_iff.mp h3;rw [h.fmdrop,List.drop_eq_getElem_cons hlt,List.flatMap_cons,h4]
theorem aP3(a:List AV): ∀(b x r:List AV),b.length=x.length→setAt (a++(b++r)) a.length x=a++(x++r):=by
 intro b x
 induction x generalizing a b with
 |nil=>intro r h;have:b=[]:=List.eq_nil_of_length_eq_zero (by simpa using h);subst this;rfl
 |cons y ys ih=>
  intro r h
  cases b with
  |nil=>simp at h
  |cons b0 bs=>
   simp only [setAt]
   have e:(a++(b0::bs++r)).set a.length y=(a++[y])++(bs++r):=by
    rw [List.set_append_right _ _ (Nat.le_refl _)];simp
   rw [e];have:=ih (a++[y]) bs r (by simpa using h);rw [List.length_append] at this
   simpa using this
theorem CF.fmset{α:Type}{c:α→List AV}{sz:Nat}(h:CF c sz){l l':List α}{i:Int}{x:α}(hx:stt l i x=some l'):setAt (l.flatMap c) (0+i.toNat*sz) (c x)=l'.flatMap c:=by
 obtain ⟨h0,h1,rfl⟩:=aTf hx;have hlt:i.toNat<l.length:=by omega
 have e1:l=l.take i.toNat++l[i.toNat]::l.drop (i.toNat+1):=by rw [←List.drop_eq_getElem_cons hlt,List.take_append_drop]
 have e2:l.set i.toNat x=l.take i.toNat++x::l.drop (i.toNat+1):=by
  rw [List.set_eq_take_append_cons_drop,if_pos hlt]
 rw [e2,List.flatMap_append,List.flatMap_cons]
 have e3:l.flatMap c=(l.take i.toNat).flatMap c++(c l[i.toNat]++(l.drop (i.toNat+1)).flatMap c):=by
  rw [←List.flatMap_cons,←List.flatMap_append,←e1]
 have e4:0+i.toNat*sz=((l.take i.toNat).flatMap c).length:=by rw [h.fmlen,List.length_take,Nat.min_eq_left om];omega
 rw [e3,e4];exact aP3 _ _ _ _ (by rw [h.len,h.len])
theorem CFi(k:IntKind):CF (ci k) 1:=⟨fun _=>rfl,fun a x hx=>by simp [ci] at hx;subst hx;exact .v _,fun _=>rfl⟩
theorem CFb:CF aPo 1:=⟨fun _=>rfl,fun a x hx=>by simp [aPo] at hx;subst hx;exact .v _,fun _=>rfl⟩
theorem CFs:CF kD 1:=⟨fun _=>rfl,fun a x hx=>by simp [kD] at hx;subst hx;exact .v _,fun _=>rfl⟩
theorem CFl{α:Type}{c:α→List AV}{sz:Nat}(h:CF c sz):CF (csl c) 1:=⟨fun _=>rfl,fun a x hx=>by simp only [csl,List.mem_singleton] at hx;subst hx;exact h.sl _ _ _,fun _=>rfl⟩
theorem bMr(k:IntKind)(x:Int)(r:List AV):ci k x++r= .v (.int k x)::r:=rfl
theorem bHr(x:Bool)(r:List AV):aPo x++r= .v (.bool x)::r:=rfl
theorem bMy(x:ByteArray)(r:List AV):kD x++r= .v (.string x)::r:=rfl
theorem bRr{α:Type}(c:α→List AV)(l:List α)(r:List AV):csl c l++r= .sl (l.flatMap c) l.length false::r:=rfl
section
variable {P:Program}{B:Nat→Prop}
theorem AWp.condM{R:Type}{c:Operand}{x y:Code}{Q:Exit→St→Prop}{s:St}{t:Bool}{A A' o:Option R}(hm:(bif t then A else A')=o)(hc:aval s.f c= .v (.bool t))
 (ht:t=true→A=o→AWp P B x Q s) (hf:t=false→A'=o→AWp P B y Q s):AWp P B (.cond c x y) Q s:=by
 refine AWp.cond t hc (fun h=>ht h ?_) (fun h=>hf h ?_)
 · subst h;exact hm
 · subst h;exact hm
theorem AWp.condT{c:Operand}{x y:Code}{Q:Exit→St→Prop}{s:St}(hc:aval s.f c= .v (.bool true))(h:AWp P B x Q s):AWp P B (.cond c x y) Q s:=
 AWp.cond true hc (fun _=>h) (fun h=>by cases h)
theorem AWp.condF{c:Operand}{x y:Code}{Q:Exit→St→Prop}{s:St}(hc:aval s.f c= .v (.bool false))(h:AWp P B y Q s):AWp P B (.cond c x y) Q s:=
 AWp.cond false hc (fun h=>by cases h) (fun _=>h)
def bFp(B:Nat→Prop)(I:St→Prop)(Q:Exit→St→Prop):Exit→St→Prop
  | .normal,s=> ∃s',s.Le B s'∧I s'
  |e,s=>Q e s
theorem AWp.seqJ{x y:Code}{Q:Exit→St→Prop}{s:St}(I:St→Prop)(hx:AWp P B x (bFp B I Q) s)(hy: ∀s,I s→AWp P B y Q s):AWp P B (.seq x y) Q s:=
 AWp.seq' (hx.mono fun e s' hq=>by
  cases e with
  |normal=>obtain ⟨s2,h1,h2⟩:=hq;exact AWp.weaken h1 (hy s2 h2)
  |_=>exact hq)
theorem oY{I:St→Prop}{Q:Exit→St→Prop}{s:St}(h: ∃s',s.Le B s'∧I s'):bFp B I Q .normal s:=h
theorem bBk{I:St→Prop}{Q:Exit→St→Prop}{s:St}(h:Q .ret s):bFp B I Q .ret s:=h
theorem aVp{id:Nat}{I:St→Prop}{Q:Exit→St→Prop}{s:St}(h:Q (.exit id) s):bFp B I Q (.exit id) s:=h
theorem AWp.loopM{c:Code}{Q:Exit→St→Prop}{s:St}(I:Nat→St→Prop)(n:Nat)(hz: ∀s,¬I 0 s)(h0: ∃s',s.Le B s'∧I n s')
 (round: ∀n s,I (n+1) s→AWp P B c (yP (fun s'=> ∃s'',s'.Le B s''∧I n s'') Q) s):AWp P B (.loop c) Q s:=by
 refine AWp.loopW I n h0 fun n s h=>?_
 cases n with
 |zero=>exact absurd h (hz s)
 |succ n=>
  refine (round n s h).mono fun e s' hq=>?_
  cases e with
  |normal=>obtain ⟨s'',h1,h2⟩:=hq;exact ⟨n,s'',Nat.lt_succ_self n,h1,h2⟩
  |_=>exact hq
theorem td{lk:Bool}{H:aH}{x y:AV}(h:x=y)(hd:Data y):ToD lk H x y:=by subst h;exact .data _ hd
theorem tdn{lk:Bool}{H:aH}{x:AV}{f:Bool}(h:x= .v (.slice none 0 0)):ToD lk H x (.sl [] 0 f):=by subst h;exact .nil f
theorem tdf{lk:Bool}{H:aH}{x:AV}{xs:List AV}{n:Nat}{g:Bool}(h:x= .sl xs n g)(hd:Data (.sl xs n g)):ToD lk H x (.sl xs n false):=by
 subst h
 cases g with
 |true=>exact .full xs n (by simpa using hd)
 |false=>exact .data _ hd
theorem tda{lk:Bool}{H:aH}{x:AV}{xs ys:List AV}(h:x= .agg xs)(hd:oR lk H xs ys):ToD lk H x (.agg ys):=by
 subst h;refine .agg xs ys hd.length_eq fun k a b ha hb=>?_;obtain ⟨a',ha',h⟩:=hd.get k b hb;rw [ha] at ha';cases ha';exact h
theorem tdo{α:Type}{H:aH}{c:α→List AV}{sz:Nat}(hC:CF c sz){x:AV}{l:List α}{id n lk:Nat}(h:x= .own id 0 n)(he:H.ent id= .cells sz (l.flatMap c) lk)(hn:n=l.length):
 ToD false H x (.sl (l.flatMap c) l.length false):=by
 subst h hn;exact ToD.ownWhole he (fun h=>by cases h) (hC.fmlen l) (hC.fmdat l)
theorem aEt(H:aH):H.lockIds []=H:=by simp [aH.lockIds]
theorem bOq{n N:Nat}{f:Nat→AV}{e:Nat→Ent}(k:Nat)(b:AV)(h: ∀H,ToD true H (aval f (.tmp k)) b):(⟨n,f,⟨e,N⟩⟩:St).Le B ⟨n,aF f k b,⟨e,N⟩⟩:=
 St.Le.slot (s:=⟨n,f,⟨e,N⟩⟩) k b (h _)
theorem aK9{α:Type}{c:α→List AV}{sz:Nat}(hC:CF c sz){n N lk m:Nat}{f:Nat→AV}{e:Nat→Ent}(k id:Nat){l:List α}(hk:aval f (.tmp k)= .own id 0 m)(he:e id= .cells sz (l.flatMap c) lk)(hm:m=l.length):
 (⟨n,f,⟨e,N⟩⟩:St).Le B ⟨n,aF f k (.sl (l.flatMap c) l.length false),⟨upd e id (.cells sz (l.flatMap c) (l.flatMap c).length),N⟩⟩:=by
 subst hm;have hk':f k= .own id 0 l.length:=hk
 have e1:aH.lockIds ⟨e,N⟩ [id]=⟨upd e id (.cells sz (l.flatMap c) (l.flatMap c).length),N⟩:=by
  simp only [aH.lockIds];congr 1;funext j
  by_cases hj:j=id
  · subst hj;simp [upd,he]
  · simp [upd,hj]
 refine St.Le.trans (St.Le.lock [id]) ?_;simp only [e1];refine St.Le.slot (s:=⟨n,f,⟨upd e id (.cells sz (l.flatMap c) (l.flatMap c).length),N⟩⟩) k (.sl (l.flatMap c) l.length false) ?_;show ToD true _ (f k) _;rw [hk'];exact ToD.ownWhole (l:=(l.flatMap c).length) (sz:=sz) (by simp [upd]) (fun _=>rfl) (hC.fmlen l) (hC.fmdat l)
theorem aH2{α:Type}{c:α→List AV}{sz:Nat}(hC:CF c sz){H H':aH}{ren:Nat→Nat}{i lk:Nat}{l:List α}(h:H.ent (ren i)= .cells sz (l.flatMap c) lk)(h0:lk=0):lX H H' ren i (.cells sz (l.flatMap c) 0):=by
 subst h0;exact oE h (Nat.le_refl _) (Nat.zero_le _) (hC.fmdat l)
end
section
variable {P:Program}{strict:Bool}{ops:Array Oper}{base i:Nat}{rest:List Oper}{K:St→Prop}{n:Nat}{t:Nat→AV}{H:aH}{d:Tmp}{op:Op}{ty:TypeId}{pos:String}{after:Array Edge}{r:AV}
theorem aR.callQ(hd:d<n){f:Operand}{args:Array Operand}{ats:Array TypeId}{g:FuncId}{args':List AV}(hf:aval t f= .clo (.func g) [] [])
 (hb:(P.funcs[g]?).any (fun fn=>fn.body.isSome&&fn.name != "runtime.NumGoroutine")=true) (hda: ∀H,oR true H (args.toList.map (aval t)) args')
 (hc:cE P g args' r) (k:aR P strict ops base (i+1) rest K ⟨n,aF t d r,H⟩):
 aR P strict ops base i (⟨some d,.call { callee:= .value f,args:=args,argTypes:=ats },ty,pos,after,none⟩::rest) K ⟨n,t,H⟩:=by
 have hA: ∀H:aH,eK P g ([]++args.toList.map (aval t)++[]) H r H:=fun H=>by
  have:=eK.pure (H:=H) [] hc (hda _);rw [List.nil_append,List.append_nil]
  rwa [aEt] at this
 exact ⟨_,(⟨hd,g,[],[],r,H,hf,hb,fun H _ _=>hA H,fun _=>rfl,hA H,rfl⟩:dR P strict ops (base+i) ⟨some d,.call { callee:= .value f,args:=args,argTypes:=ats },ty,pos,after,none⟩ ⟨n,t,H⟩ ⟨n,aF t d r,H⟩),k⟩
theorem aR.callQG(hd:d<n){j:Nat}{want b:Bool}{dj:Tmp}{f:Operand}{args:Array Operand}{ats:Array TypeId}{g:FuncId}{args':List AV}
 (hj:(ops[j]?).bind (·.dst)=some dj) (hg:aEg want (aval t (.tmp dj))=some b) (hf:aval t f= .clo (.func g) [] [])
 (hb:(P.funcs[g]?).any (fun fn=>fn.body.isSome&&fn.name != "runtime.NumGoroutine")=true) (hda:b=true→ ∀H,oR true H (args.toList.map (aval t)) args')
 (hc:b=true→cE P g args' r)
 (k:aR P strict ops base (i+1) rest K ⟨n,aF t d (gd b r),H⟩):
 aR P strict ops base i (⟨some d,.call { callee:= .value f,args:=args,argTypes:=ats },ty,pos,after,some (j,want)⟩::rest) K ⟨n,t,H⟩:=by
 refine ⟨_,⟨hd,?_⟩,k⟩;have e:aDk ops t ⟨some d,.call { callee:= .value f,args:=args,argTypes:=ats },ty,pos,after,some (j,want)⟩=some b:=by simp only [aDk,hj,hg]
 simp only [e]
 cases b with
 |true=>
  have hA: ∀H:aH,eK P g ([]++args.toList.map (aval t)++[]) H r H:=fun H=>by
   have:=eK.pure (H:=H) [] (hc rfl) (hda rfl _);rw [List.nil_append,List.append_nil]
   rwa [aEt] at this
  exact ⟨g,[],[],r,H,hf,hb,fun H _ _=>hA H,fun _=>rfl,hA H,rfl⟩
 |false=>rfl
end
section
variable {P:Program}{strict:Bool}{ops:Array Oper}{base i:Nat}{rest:List Oper}{K:St→Prop}{n:Nat}{t:Nat→AV}{H:aH}{d:Tmp}{op:Op}{ty:TypeId}{pos:String}{after:Array Edge}{r:AV}
def aTu(H:aH)(xs ys:List AV):Prop:= ∀H':aH,(∀x,x∈xs→ ∀j,iW x=some j→H.ent j=H'.ent j)→oR false H' xs ys
theorem aTu.nil:aTu H [] []:=fun _ _=> .nil
theorem aTu.cons{x y:AV}{xs ys:List AV}(h: ∀H':aH,(∀j,iW x=some j→H.ent j=H'.ent j)→ToD false H' x y)(h':aTu H xs ys):aTu H (x::xs) (y::ys):=
 fun H' hH=> .cons (h H' (hH x (by simp))) (h' H' fun z hz=>hH z (by simp [hz]))
theorem lto{α:Type}{c:α→List AV}{sz:Nat}(hC:CF c sz){x:AV}{l:List α}{id n lk:Nat}(h:x= .own id 0 n)(he:H.ent id= .cells sz (l.flatMap c) lk)(hn:n=l.length):
 ∀H':aH,(∀j,iW x=some j→H.ent j=H'.ent j)→ToD false H' x (.sl (l.flatMap c) l.length false):=fun H' hH=>by
 refine tdo (lk:=lk) hC h ?_ hn;rw [←hH id (by rw [h];rfl)];exact he
theorem ltd{x y:AV}(h: ∀H':aH,ToD false H' x y): ∀H':aH,(∀j,iW x=some j→H.ent j=H'.ent j)→ToD false H' x y:=fun H' _=>h H'
theorem aR.callB(hd:d<n){f:Operand}{args:Array Operand}{ats:Array TypeId}{g:FuncId}{args':List AV}(hf:aval t f= .clo (.func g) [] [])
 (hb:(P.funcs[g]?).any (fun fn=>fn.body.isSome&&fn.name != "runtime.NumGoroutine")=true) (hda:aTu H (args.toList.map (aval t)) args') (hr:bLu r)
 (hc:cE P g args' r) (k:aR P strict ops base (i+1) rest K ⟨n,aF t d r,H⟩):
 aR P strict ops base i (⟨some d,.call { callee:= .value f,args:=args,argTypes:=ats },ty,pos,after,none⟩::rest) K ⟨n,t,H⟩:=by
 have hA: ∀H':aH,(∀x,x∈args→ ∀j,iW (aval t x)=some j→H.ent j=H'.ent j)→eK P g ([]++args.toList.map (aval t)++[]) H' r H':=fun H' hH=>by
  rw [List.nil_append,List.append_nil]
  exact eK.borrow hc hr (hda H' fun x hx j hj=>by
   obtain ⟨y,hy,rfl⟩:=List.mem_map.mp hx;exact hH y (by simpa using hy) j hj)
 exact ⟨_,(⟨hd,g,[],[],r,H,hf,hb,fun H' _ hH=>hA H' hH,fun _=>rfl,hA H fun _ _ _ _=>rfl,rfl⟩:dR P strict ops (base+i) ⟨some d,.call { callee:= .value f,args:=args,argTypes:=ats },ty,pos,after,none⟩ ⟨n,t,H⟩ ⟨n,aF t d r,H⟩),k⟩
theorem aR.callL(hd:d<n){f:Operand}{args:Array Operand}{ats:Array TypeId}{g:FuncId}{args':List AV}(ids:List Nat)(hf:aval t f= .clo (.func g) [] [])
 (hb:(P.funcs[g]?).any (fun fn=>fn.body.isSome&&fn.name != "runtime.NumGoroutine")=true) (hda:oR true (H.lockIds ids) (args.toList.map (aval t)) args')
 (hc:cE P g args' r) (k:aR P false ops base (i+1) rest K ⟨n,aF t d r,H.lockIds ids⟩):
 aR P false ops base i (⟨some d,.call { callee:= .value f,args:=args,argTypes:=ats },ty,pos,after,none⟩::rest) K ⟨n,t,H⟩:=
 aR.call hd hf hb (by rw [List.nil_append,List.append_nil];exact eK.pure ids hc hda) k
theorem tdl{α:Type}{c:α→List AV}{sz:Nat}(hC:CF c sz){x:AV}{l:List α}{id n lk:Nat}{ids:List Nat}(h:x= .own id 0 n)(he:H.ent id= .cells sz (l.flatMap c) lk)(hid:id∈ids)(hn:n=l.length):
 ToD true (H.lockIds ids) x (.sl (l.flatMap c) l.length false):=by
 subst h hn;refine ToD.ownWhole (l:=(l.flatMap c).length) (sz:=sz) ?_ (fun _=>rfl) (hC.fmlen l) (hC.fmdat l);simp only [aH.lockIds,hid,if_true,he]
theorem bOs{e:Nat→Ent}{N id sz lk:Nat}{xs:List AV}(he:e id= .cells sz xs lk):aH.lockIds ⟨e,N⟩ [id]=⟨upd e id (.cells sz xs xs.length),N⟩:=by
 simp only [aH.lockIds];congr 1;funext j
 by_cases hj:j=id
 · subst hj;simp [upd,he]
 · simp [upd,hj]
theorem aR.callL1{e:Nat→Ent}{N id sz lk:Nat}{xs:List AV}(hd:d<n){f:Operand}{args:Array Operand}{ats:Array TypeId}{g:FuncId}{args':List AV}(hf:aval t f= .clo (.func g) [] [])
 (hb:(P.funcs[g]?).any (fun fn=>fn.body.isSome&&fn.name != "runtime.NumGoroutine")=true) (he:e id= .cells sz xs lk) (hda:oR true (aH.lockIds ⟨e,N⟩ [id]) (args.toList.map (aval t)) args')
 (hc:cE P g args' r) (k:aR P false ops base (i+1) rest K ⟨n,aF t d r,⟨upd e id (.cells sz xs xs.length),N⟩⟩):
 aR P false ops base i (⟨some d,.call { callee:= .value f,args:=args,argTypes:=ats },ty,pos,after,none⟩::rest) K ⟨n,t,⟨e,N⟩⟩:=by
 refine aR.callL hd [id] hf hb hda hc ?_;rw [bOs he];exact k
theorem bQ1{x:Value} :bLu (.v x):= .inl ⟨x,rfl⟩
theorem cB0{x y:Value} :bLu (.tup [.v x,.v y]):= .inr ⟨[x,y],rfl⟩
end
theorem aXt(e:Nat→Ent)(N:Nat):aH.lockIds ⟨e,N⟩ []=⟨e,N⟩:=aEt _
section
variable {P:Program}{ops:Array Oper}{base i:Nat}{rest:List Oper}{K:St→Prop}{n:Nat}{t:Nat→AV}{e:Nat→Ent}{N:Nat}{d:Tmp}{ty:TypeId}{pos:String}{after:Array Edge}
theorem aR.callF{α:Type}{c:α→List AV}{sz:Nat}{l:List α}{id:Nat}(hd:d<n){f:Operand}{args:Array Operand}{ats:Array TypeId}{g:FuncId}{args':List AV}(hf:aval t f= .clo (.func g) [] [])
 (hb:(P.funcs[g]?).any (fun fn=>fn.body.isSome&&fn.name != "runtime.NumGoroutine")=true) (hda: ∀H,oR true H (args.toList.map (aval t)) args')
 (hC:CF c sz) (hfr:aH.isFresh ⟨e,N⟩ id=true) (hc:fP P g args' sz (l.flatMap c) l.length) (k:aR P false ops base (i+1) rest K ⟨n,aF t d (.own id 0 l.length),⟨upd e id (.cells sz (l.flatMap c) 0),N⟩⟩):
 aR P false ops base i (⟨some d,.call { callee:= .value f,args:=args,argTypes:=ats },ty,pos,after,none⟩::rest) K ⟨n,t,⟨e,N⟩⟩:=by
 have:=eK.fresh (id:=id) (H:=⟨e,N⟩) [] hc (hda _) (hC.fmdat l) hfr;rw [aXt] at this;exact aR.call hd hf hb (by rw [List.nil_append,List.append_nil];exact this) k
end
section
variable {fn:Func}{e:Exit}{n:Nat}{f:Nat→AV}{a:Tmp}{H:aH}{P:Program}
theorem aNh{α:Type}{c:α→List AV}{sz id m:Nat}{l:List α}(he:e= .normal∨e= .ret)(hr:fn.results= #[.tmp a])(h1:aval f (.tmp a)= .own id 0 m)(h2:H.ent id= .cells sz (l.flatMap c) 0)(hm:m=l.length):
 (e= .normal∨e= .ret)∧ ∃j,yS P fn ⟨n,f,H⟩=some (.own j 0 l.length)∧H.ent j= .cells sz (l.flatMap c) 0:=by
 subst hm;exact ⟨he,id,by rw [bMe hr,h1],h2⟩
end
inductive RL(P:Program)(s:St):List ResultVar→List AV→Prop where
  |nil:RL P s [] []
  |tmp {a:Tmp} {x:AV} {rs:List ResultVar} {xs:List AV} (h:aval s.f (.tmp a)=x) (h':RL P s rs xs):RL P s (.tmp a::rs) (x::xs)
  |cell {a:Tmp} {t:TypeId} {x:AV} {rs:List ResultVar} {xs:List AV} (h:bT P s.H t (aval s.f (.tmp a))=some x) (h':RL P s rs xs):RL P s (.cell a t::rs) (x::xs)
theorem RL.mapM{P:Program}{s:St}{rs:List ResultVar}{xs:List AV}(g:ResultVar→Option AV)(h1: ∀t,g (.tmp t)=some (s.f t))(h2: ∀p t,g (.cell p t)=bT P s.H t (s.f p))(h:RL P s rs xs):rs.mapM g=some xs:=by
 induction h with
 |nil=>rfl
 |tmp h _ ih=>
  have h:s.f _=_:=h;simp only [List.mapM_cons,h1,h,ih];rfl
 |cell h _ ih=>
  have h:bT P s.H _ (s.f _)=some _:=h;simp only [List.mapM_cons,h2,h,ih];rfl
theorem bF6{P:Program}{fn:Func}{e:Exit}{s:St}{rs:List ResultVar}{x y:AV}{xs:List AV}(he:e= .normal∨e= .ret)(hr:fn.results.toList=rs)(h:RL P s rs xs)(hx:(match (generalizing:=false) xs with|[z]=>z|zs=> .tup zs)=x)(hd:ToD false s.H x y):
 (e= .normal∨e= .ret)∧ ∃r',yS P fn s=some r'∧ToD false s.H r' y:=by
 refine ⟨he,x,?_,hd⟩;unfold yS;rw [hr,h.mapM _ (fun _=>rfl) (fun _ _=>rfl)]
 match xs,hx with
 |[],hx=>rw [←hx]
 |[z],hx=>rw [←hx]
 |_::_::_,hx=>rw [←hx]
theorem tdt{lk:Bool}{H:aH}{xs ys:List AV}(hd:oR lk H xs ys):ToD lk H (.tup xs) (.tup ys):=by
 refine .tup xs ys hd.length_eq fun k a b ha hb=>?_;obtain ⟨a',ha',h⟩:=hd.get k b hb;rw [ha] at ha';cases ha';exact h
section
variable {P:Program}{H:aH}{ρ:Operand→AV}{e:Nat→Ent}{N id:Nat}
theorem aGn{α:Type}{c:α→List AV}{sz:Nat}(hC:CF c sz){t el:TypeId}{x i:Operand}{l:List α}{n:Nat}{f:Bool}{k:IntKind}{iv:Int}{a:α}(h0:sz≠0)(hu:P.underlying t=some (.slice el))(hs:aO P el=some sz)
 (hx:ρ x= .sl (l.flatMap c) n f) (hn:n=l.length) (hi:ρ i= .v (.int k iv)) (hv:idx l iv=some a):bJ P H ρ (.indexAddr t x i)=some (.ptr (c a++(l.drop (iv.toNat+1)).flatMap c)):=by
 subst hn;obtain ⟨h1,h2,h3⟩:=aOj hv;have e1:=hC.at hv
 have hne:l.flatMap c≠[]:=by
  intro h;have:=hC.fmlen l;rw [h] at this;have:0<l.length*sz:=Nat.mul_pos om (Nat.pos_of_ne_zero h0);simp at *; omega
 simp only [bJ,hx,hi,aH.alive,if_true,lS,hu,hs,hne,if_false];rw [if_pos ⟨h1,h2⟩,e1]
theorem iX{t el:TypeId}{x i:Operand}{j n sz:Nat}{k:IntKind}{iv:Int}{lk:Nat}{xs:List AV}{α:Type}{l:List α}{a:α}(hu:P.underlying t=some (.slice el))(hs:aO P el=some sz)
 (hx:ρ x= .own j 0 n) (he:H.ent j= .cells sz xs lk) (hn:n=l.length) (hi:ρ i= .v (.int k iv)) (hv:idx l iv=some a):bJ P H ρ (.indexAddr t x i)=some (.adr j (0+iv.toNat*sz)):=by
 subst hn;obtain ⟨h1,h2,h3⟩:=aOj hv;simp only [bJ,hx,hi,aH.alive,he,if_true,lS,hu,hs];rw [if_pos ⟨h1,h2⟩]
theorem aAf{α:Type}{c:α→List AV}{sz:Nat}(hC:CF c sz){t:TypeId}{x:Operand}{j lk:Nat}{iv:Int}{l:List α}{a:α}{r:AV}(hx:ρ x= .adr j (0+iv.toNat*sz))(he:H.ent j= .cells sz (l.flatMap c) lk)
 (hv:idx l iv=some a) (hr: ∀xs,bT P H t (.ptr (c a++xs))=some r):bJ P H ρ (.load t x)=some r:=by
 simp only [bJ,hx,bT,he,Nat.zero_add,hC.at hv];exact hr _
theorem hZ{t:TypeId}{x:Operand}{j off lk:Nat}{xs:List AV}{r:AV}(hx:ρ x= .adr j off)(he:H.ent j= .cells 1 xs lk)(hr:bT P H t (.ptr (xs.drop off))=some r):bJ P H ρ (.load t x)=some r:=by
 simp only [bJ,hx,bT,he];exact hr
theorem aGo{t:TypeId}{y:AV}{j off lk:Nat}{xs:List AV}{r:AV}(hx:y= .adr j off)(he:H.ent j= .cells 1 xs lk)(hr:bT P H t (.ptr (xs.drop off))=some r):bT P H t y=some r:=by
 subst hx;simp only [bT,he];exact hr
theorem oD{t:TypeId}{a x:Operand}{j off n:Nat}{xs cs ys:List AV}(hs:aO P t=some n)(ha:ρ a= .adr j off)(hx:(ρ x).cells? =some cs)(he:e j= .cells 1 xs 0)(hn:cs.length=n)(hfit:off+n≤xs.length)(hone:cs.all AV.one=true)
 (hy:setAt xs off cs=ys):eZ P ⟨e,N⟩ id ρ (.store t a x)=some (.v undef,⟨upd e j (.cells 1 ys 0),N⟩):=by
 subst hn hy;exact aPg ha hx he hs (Nat.zero_le _) hfit hone
theorem aR4{t:TypeId}{x i:Operand}{s:ByteArray}{k:IntKind}{iv b:Int}(hu:P.underlying t=some .string)(hx:ρ x= .v (.string s))(hi:ρ i= .v (.int k iv))(hv:aBo s iv=some b):bJ P H ρ (.index t x i)=some (.v (.int .u8 b)):=by
 unfold aBo at hv;split at hv
 · rename_i h;cases hv;simp only [bJ,hx,hi];exact bCu hu h.1 h.2
 · cases hv
theorem bCv{α:Type}{c:α→List AV}{sz:Nat}(hC:CF c sz){t el:TypeId}{x:Operand}{lo hi:Option Operand}{l l':List α}{n:Nat}{f:Bool}{a b:Int}(hu:P.underlying t=some (.slice el))(hs:aO P el=some sz)
 (hx:ρ x= .sl (l.flatMap c) n f) (hn:n=l.length) (h1:fV 0 (lo.map ρ)=some a.toNat) (h2:fV l.length (hi.map ρ)=some b.toNat) (hv:slc l a b=some l'):
 bJ P H ρ (.slice t x lo hi none)=some (.sl (l'.flatMap c) l'.length (f&&b.toNat==l.length)):=by
 subst hn;unfold slc at hv;split at hv
 ·
  rename_i h;cases hv;have hb:b.toNat≤l.length:=by omega
  have hlen:=hC.fmlen l;simp only [bJ,hx,xJ,hu,hs,h1,h2,Option.map_none,aZd,Option.isSome_none,Bool.false_eq_true,if_false,false_implies,and_true];rw [if_pos ⟨by omega,hb,Nat.le_refl _,hlen⟩,hC.fmdrop,hC.fmtake];congr 2;simp;omega
 · cases hv
def bLa{α:Type}(l:List α)(lo hi mx:Int):Option (List α):=if mx=hi then slc l lo hi else none
theorem bRa{α:Type}{c:α→List AV}{sz:Nat}(hC:CF c sz){t el:TypeId}{x:Operand}{lo hi mx:Option Operand}{l l':List α}{n:Nat}{f:Bool}{a b m:Int}(hu:P.underlying t=some (.slice el))(hs:aO P el=some sz)
 (hx:ρ x= .sl (l.flatMap c) n f) (hn:n=l.length) (h1:fV 0 (lo.map ρ)=some a.toNat) (h2:fV l.length (hi.map ρ)=some b.toNat) (h3:fV l.length (mx.map ρ)=some m.toNat) (hh:hi.isSome=true) (hm:mx.isSome=true) (hv:bLa l a b m=some l'):
 bJ P H ρ (.slice t x lo hi mx)=some (.sl (l'.flatMap c) l'.length (b.toNat==b.toNat)):=by
 subst hn;unfold bLa at hv;split at hv
 ·
  rename_i e0;subst e0;unfold slc at hv;split at hv
  ·
   rename_i h;cases hv;have hb:m.toNat≤l.length:=by omega
   have hlen:=hC.fmlen l;simp only [bJ,hx,xJ,hu,hs,h1,h2,h3,Option.isSome_map,hh,hm,if_true];rw [if_pos ⟨by omega,Nat.le_refl _,hb,hlen,fun _=>trivial⟩,hC.fmdrop,hC.fmtake];congr 2;simp;omega
  · cases hv
 · cases hv
theorem bQ6{α:Type}{l l':List α}{a b m:Int}(h:bLa l a b m=some l'):0≤a∧0≤b∧0≤m:=by
 unfold bLa at h;split at h
 ·
  rename_i e0;subst e0;unfold slc at h;split at h
  · rename_i h1;exact ⟨h1.1,by omega,by omega⟩
  · cases h
 · cases h
theorem bFw{t:TypeId}{x:Operand}{lo hi:Option Operand}{s s':ByteArray}{a b:Int}(hu:P.underlying t=some .string)
 (hx:ρ x= .v (.string s)) (h1:fV 0 (lo.map ρ)=some a.toNat) (h2:fV s.size (hi.map ρ)=some b.toNat) (hv:bLc s a b=some s'):
 bJ P H ρ (.slice t x lo hi none)=some (.v (.string s')):=by
 unfold bLc at hv;split at hv
 · rename_i h;cases hv;simp only [bJ,hx];exact bD1 hu h1 h2 om om
 · cases hv
theorem aCg{d:Nat}{k:IntKind}{x:Operand}{n:Int}(h:ρ x= .v (.int k n))(h0:0≤n):fV d ((some x).map ρ)=some n.toNat:=by simp [h,fV,h0]
theorem aWg(d:Nat):fV d ((none:Option Operand).map ρ)=some ((d:Int)).toNat:=by simp [fV]
theorem aRn:fV 0 ((none:Option Operand).map ρ)=some ((0:Int)).toNat:=rfl
theorem bH1{α:Type}{l l':List α}{a b:Int}(h:slc l a b=some l'):0≤a∧0≤b:=by
 unfold slc at h;split at h
 · rename_i h1;exact ⟨h1.1,by omega⟩
 · cases h
theorem bFb{l l':ByteArray}{a b:Int}(h:bLc l a b=some l'):0≤a∧0≤b:=by
 unfold bLc at h;split at h
 · rename_i h1;exact ⟨h1.1,by omega⟩
 · cases h
theorem bWd{t ty:TypeId}{x y:Operand}{k:IntKind}{a b:Int}(hx:ρ x= .v (.int k a))(hy:ρ y= .v (.int k b))(h:(b !=0)=true):bJ P H ρ (.binOp .quo t x y ty)=some (.v (.int k (k.wrap (Int.tdiv a b)))):=by
 simp only [bJ,hx,hy];exact aZ9 (h:=by simpa using h) ..
theorem bWe{t ty:TypeId}{x y:Operand}{k:IntKind}{a b:Int}(hx:ρ x= .v (.int k a))(hy:ρ y= .v (.int k b))(h:(b !=0)=true):bJ P H ρ (.binOp .rem t x y ty)=some (.v (.int k (Int.tmod a b))):=by
 simp only [bJ,hx,hy];exact aZa (h:=by simpa using h) ..
theorem bWf{t ty:TypeId}{x y:Operand}{k k':IntKind}{a b:Int}(hx:ρ x= .v (.int k a))(hy:ρ y= .v (.int k' b))(h:decide (0≤b)=true):bJ P H ρ (.binOp .shl t x y ty)=some (.v (.int k (shl k a b))):=by
 simp only [bJ,hx,hy];exact aZb (h:=by simpa using h) ..
theorem bWg{t ty:TypeId}{x y:Operand}{k k':IntKind}{a b:Int}(hx:ρ x= .v (.int k a))(hy:ρ y= .v (.int k' b))(h:decide (0≤b)=true):bJ P H ρ (.binOp .shr t x y ty)=some (.v (.int k (shr k a b))):=by
 simp only [bJ,hx,hy];exact aZc (h:=by simpa using h) ..
theorem aRt: ∀l:List Int,bytesOf (l.flatMap (ci .u8))=some (l.map fun n=>UInt8.ofNat n.toNat)
 |[]=>rfl
 |a::l=>by
  have:=aRt l;simp only [List.flatMap_cons,bMr,bytesOf,this,List.map_cons,Option.map_some]
theorem aMf{s d el:TypeId}{x:Operand}{l:List Int}{id n lk:Nat}(h1:P.underlying s=some (.slice el))(h2:P.underlying d=some .string)(h3:P.underlying el=some (.int .u8))
 (hx:ρ x= .own id 0 n) (he:H.ent id= .cells 1 (l.flatMap (ci .u8)) lk) (hn:n=l.length):bJ P H ρ (.convert s d x)=some (.v (.string (fU l))):=by
 subst hn;have hl:=(CFi .u8).fmlen l;simp only [Nat.mul_one] at hl;simp only [bJ,hx,mU,h1,h2,h3,he];rw [if_pos om,List.drop_zero,←hl,List.take_length,aRt];rfl
theorem kW{α:Type}{c:α→List AV}{sz:Nat}(hC:CF c sz){l:List α}{t el:TypeId}{len:Nat}{zs:List AV}{parts:Array (Nat×Operand)}{ps:List (Nat×AV)}(hu:P.underlying t=some (.slice el))(hsz:aO P el=some sz)(hz:zeroCells? P el=some zs)
 (hf:aH.isFresh ⟨e,N⟩ id=true) (hlen:len*sz≤16777216) (hzs:zs.length=sz) (h0:sz≠0) (hps:parts.toList.map (fun (i,x)=>(i,ρ x))=ps)
 (hxs:(nP (fun i=>some (i*sz,sz)) (zeros len zs) ps,len)=(some (l.flatMap c),l.length)):
 eZ P ⟨e,N⟩ id ρ (.buildSlice t len parts)=some (.own id 0 l.length,⟨upd e id (.cells sz (l.flatMap c) 0),N⟩):=by
 obtain ⟨hx,hl⟩:=Prod.mk.inj hxs;subst hl hps;exact aFw hu hsz hz hf hlen hzs h0 hx
theorem nG{α:Type}{l l':List α}{i:Int}{x:α}(h:stt l i x=some l'):l.length=l'.length:=by
 obtain ⟨_,_,rfl⟩:=aTf h;simp
theorem bR9{t ty:TypeId}{x y:Operand}{a b r:ByteArray}(hx:ρ x= .v (.string a))(hy:ρ y= .v (.string b))(hv:aUn a b=some r):bJ P H ρ (.binOp .add t x y ty)=some (.v (.string r)):=by
 unfold aUn at hv;split at hv
 · rename_i h;cases hv;simp only [bJ,hx,hy];exact bCj (h:=h) ..
 · cases hv
theorem bFu{α:Type}{c:α→List AV}{sz:Nat}(hC:CF c sz){t el:TypeId}{x y:Operand}{kx ky:IntKind}{n m:Int}{z:α}{i:TypeInfo}{l:List α}(hu:P.underlying t=some (.slice el))(hi:P.info? el=some i)(hz:zeroCells? P el=some (c z))
 (hb:i.bytes≤1024) (hsz:i.size=sz) (h0:sz≠0) (hf:aH.isFresh ⟨e,N⟩ id=true) (hx:ρ x= .v (.int kx n)) (hy:ρ y= .v (.int ky m)) (hv:mkc n m z=some l):
 eZ P ⟨e,N⟩ id ρ (.makeSlice t x y)=some (.own id 0 l.length,⟨upd e id (.cells sz (l.flatMap c) 0),N⟩):=by
 unfold mkc at hv;split at hv
 ·
  rename_i h;obtain ⟨h1,h2,h3⟩:=h;cases hv;subst hsz
  have e1:zeros n.toNat (c z)=(List.replicate n.toNat z).flatMap c:=by
   have: ∀m:Nat,(List.replicate m (c z)).flatten=(List.replicate m z).flatMap c:=by
    intro m
    induction m with
    |zero=>rfl
    |succ m ih=>rw [List.replicate_succ,List.flatten_cons,ih,List.replicate_succ,List.flatMap_cons]
   exact this _
  simp only [eZ,hu,hx,hy,hi,hz,List.length_replicate]
  rw [if_pos ⟨hf,h1,h2,by omega,by
   have:i.bytes*m≤1024*4294967296:=Int.mul_le_mul om h3 om om;omega,hC.len z,h0⟩]
  simp only [aH.put,e1]
 · cases hv
theorem xH{α:Type}{c:α→List AV}{sz:Nat}(hC:CF c sz){t tx el:TypeId}{d:TypeDesc}{i:TypeInfo}{z:Value}{s x:Operand}{j n m:Nat}{l xs l':List α}(hu:P.underlying t=some (.slice el))(hux:P.underlying tx=some d)
 (hd:TypeDesc.isInt d=false) (hi:P.info? el=some i) (hsz:i.size=sz) (hb:i.bytes≤1024) (hb0:i.bytes≠0) (hz:i.zero=some z) (hzs:z.cells.size=sz) (h0:sz≠0)
 (hs:ρ s= .own j 0 n) (he:e j= .cells sz (l.flatMap c) 0) (hn:n=l.length) (hx:aFa ⟨e,N⟩ sz (ρ x)=some (xs.flatMap c,m)) (hm:m=xs.length) (hf:aH.isFresh ⟨e,N⟩ id=true) (hv:app l xs=some l'):
 eZ P ⟨e,N⟩ id ρ (.call { callee:= .builtin .append,args:= #[s,x],argTypes:= #[t,tx] })=some (.own id 0 l'.length,⟨upd (upd e j .dead) id (.cells sz (l'.flatMap c) 0),N⟩):=by
 subst hn hm;unfold app at hv;split at hv
 ·
  rename_i h;cases hv
  have:=aRp (P:=P) (ρ:=ρ) (N:=N) (id:=id) hu hux hd hi hsz hb0 hz hzs h0 hs he (hC.fmlen l).symm hx hf (by
   have:(l.length+xs.length)*i.bytes≤4294967296*1024:=Nat.mul_le_mul h hb;omega) (hC.fmone xs)
  rw [this,List.length_append,List.flatMap_append]
 · cases hv
theorem bR3{α:Type}{c:α→List AV}{sz:Nat}(hC:CF c sz){t tx el:TypeId}{d:TypeDesc}{i:TypeInfo}{z:Value}{s x:Operand}{m:Nat}{xs l':List α}(hu:P.underlying t=some (.slice el))(hux:P.underlying tx=some d)
 (hd:TypeDesc.isInt d=false) (hi:P.info? el=some i) (hsz:i.size=sz) (hb:i.bytes≤1024) (hb0:i.bytes≠0) (hz:i.zero=some z) (hzs:z.cells.size=sz) (h0:sz≠0)
 (hs:ρ s= .v (.slice none 0 0)) (hx:aFa ⟨e,N⟩ sz (ρ x)=some (xs.flatMap c,m)) (hm:m=xs.length) (hf:aH.isFresh ⟨e,N⟩ id=true) (hv:app [] xs=some l'):
 eZ P ⟨e,N⟩ id ρ (.call { callee:= .builtin .append,args:= #[s,x],argTypes:= #[t,tx] })=some (.own id 0 l'.length,⟨upd e id (.cells sz (l'.flatMap c) 0),N⟩):=by
 subst hm hsz;unfold app at hv;split at hv
 · rename_i h;cases hv;simp only [List.length_nil,Nat.zero_add] at h;have hb2:xs.length*i.bytes≤4294967296*1024:=Nat.mul_le_mul h hb;simp only [eZ,aK0,hu,hux,hd,hi,aZ6,hs,hx,Bool.false_eq_true,if_false,Nat.zero_add];rw [if_pos ⟨hf,h0,hb0,by rw [hz];rfl,by rw [hz];simp [hzs],by omega,hC.fmone xs,fun _ h=>absurd rfl h⟩];simp [aH.put]
 · cases hv
theorem bFs{α:Type}{c:α→List AV}{sz:Nat}(hC:CF c sz){t tx el:TypeId}{d:TypeDesc}{i:TypeInfo}{z:Value}{s x:Operand}{j n m B:Nat}{l xs l':List α}(hu:P.underlying t=some (.slice el))(hux:P.underlying tx=some d)
 (hd:TypeDesc.isInt d=false) (hi:P.info? el=some i) (hsz:i.size=sz) (hb:i.bytes=B) (hb0:i.bytes≠0) (hz:i.zero=some z) (hzs:z.cells.size=sz) (h0:sz≠0)
 (hs:ρ s= .own j 0 n) (he:e j= .cells sz (l.flatMap c) 0) (hn:n=l.length) (hx:aFa ⟨e,N⟩ sz (ρ x)=some (xs.flatMap c,m)) (hm:m=xs.length) (hf:aH.isFresh ⟨e,N⟩ id=true) (hv:aWn B l xs=some l'):
 eZ P ⟨e,N⟩ id ρ (.call { callee:= .builtin .append,args:= #[s,x],argTypes:= #[t,tx] })=some (.own id 0 l'.length,⟨upd (upd e j .dead) id (.cells sz (l'.flatMap c) 0),N⟩):=by
 subst hn hm hb;unfold aWn at hv;split at hv
 · rename_i h;cases hv;have:=aRp (P:=P) (ρ:=ρ) (N:=N) (id:=id) hu hux hd hi hsz hb0 hz hzs h0 hs he (hC.fmlen l).symm hx hf h (hC.fmone xs);rw [this,List.length_append,List.flatMap_append]
 · cases hv
theorem aV8{α:Type}{c:α→List AV}{sz:Nat}(hC:CF c sz){x:AV}{xs:List α}{n:Nat}{f:Bool}(h:x= .sl (xs.flatMap c) n f)(hn:n=xs.length):aFa ⟨e,N⟩ sz x=some (xs.flatMap c,n):=by
 subst h hn;exact bQz (hC.fmlen xs)
theorem aAg{α:Type}{c:α→List AV}{sz:Nat}(hC:CF c sz){x:AV}{xs:List α}{j n lk:Nat}(h:x= .own j 0 n)(he:e j= .cells sz (xs.flatMap c) lk)(hn:n=xs.length):aFa ⟨e,N⟩ sz x=some (xs.flatMap c,n):=by
 subst h hn;exact bCi he (hC.fmlen xs).symm
theorem bWh{α:Type}{c:α→List AV}{sz:Nat}{x:AV}(h:x= .v (.slice none 0 0)):aFa ⟨e,N⟩ sz x=some (([]:List α).flatMap c,0):=by subst h;rfl
theorem aGl{α:Type}{c:α→List AV}{sz:Nat}(hC:CF c sz){t:TypeId}{a x:Operand}{j lk:Nat}{iv:Int}{l l':List α}{y:α}(hs:aO P t=some sz)(ha:ρ a= .adr j (0+iv.toNat*sz))(hx:(ρ x).cells? =some (c y))(he:e j= .cells sz (l.flatMap c) lk)
 (hlk:lk=0) (hv:stt l iv y=some l'):eZ P ⟨e,N⟩ id ρ (.store t a x)=some (.v undef,⟨upd e j (.cells sz (l'.flatMap c) 0),N⟩):=by
 subst hlk;obtain ⟨h1,h2,h3⟩:=aTf hv;have hl:=hC.fmlen l;have hb:iv.toNat*sz+sz≤l.length*sz:=by rw [←Nat.succ_mul];exact Nat.mul_le_mul_right _ om
 simp only [eZ,ha,hx,he];rw [if_pos ⟨by rw [hs,hC.len],Nat.zero_le _,by rw [hC.len,hl];omega,hC.one y⟩,hC.fmset hv];rfl
end
section
variable {P:Program}{B:Nat→Prop}{strict:Bool}{ops:Array Oper}{base i:Nat}{rest:List Oper}{K:St→Prop}{n:Nat}{t:Nat→AV}{H:aH}{d:Tmp}{op:Op}{ty:TypeId}{pos:String}{after:Array Edge}{r:AV}{N N':Nat}{f:Nat→AV}{e:Nat→Ent}{Q:Exit→St→Prop}
theorem pu(hd:decide (d<n)=true)(h:bJ P H (aval t) op=some r)(k:aR P strict ops base (i+1) rest K ⟨n,aF t d r,H⟩):
 aR P strict ops base i (⟨some d,op,ty,pos,after,none⟩::rest) K ⟨n,t,H⟩:=aR.pure (of_decide_eq_true hd) h k
theorem pg{j:Nat}{want b:Bool}{dj:Tmp}(hd:decide (d<n)=true)(hj:(ops[j]?).bind (·.dst)=some dj)(hg:aEg want (aval t (.tmp dj))=some b)(h:b=true→bJ P H (aval t) op=some r)
 (k:aR P strict ops base (i+1) rest K ⟨n,aF t d (gd b r),H⟩):aR P strict ops base i (⟨some d,op,ty,pos,after,some (j,want)⟩::rest) K ⟨n,t,H⟩:=aR.pureG (of_decide_eq_true hd) hj hg h k
theorem hp{H':aH}{id:Nat}(hd:decide (d<n)=true)(hid:base+i=id)(h:eZ P H id (aval t) op=some (r,H'))(k:aR P strict ops base (i+1) rest K ⟨n,aF t d r,H'⟩):
 aR P strict ops base i (⟨some d,op,ty,pos,after,none⟩::rest) K ⟨n,t,H⟩:=aR.heap (of_decide_eq_true hd) hid h k
theorem sr{id:Nat}{l:List Oper}{y:Code}(hN:N+64=N')(h:aR P false l.toArray N 0 l (KN (aF8 P B y Q) N') ⟨n,f,⟨e,N⟩⟩):AWp P B (.seq (.region id l.toArray false) y) Q ⟨n,f,⟨e,N⟩⟩:=AWp.seq' (AWp.reg 64 hN h)
theorem sN(N':Nat){id:Nat}{l:List Oper}{y:Code}(h:aR P false l.toArray N 0 l (KN (aF8 P B y Q) N') ⟨n,f,⟨e,N⟩⟩)(hN:N+64=N':=by rfl):AWp P B (.seq (.region id l.toArray false) y) Q ⟨n,f,⟨e,N⟩⟩:=sr hN h
theorem lB{a b:Nat}(h:Nat.ble a b=true):a≤b:=Nat.le_of_ble_eq_true h
theorem sd{id:Nat}{l:List Oper}{y:Code}(hmix:P.follows .mixedOrders=true)(hok:dOK l.toArray=true)(hN:N+64=N')(h:aR P true l.toArray N 0 l (KN (aF8 P B y Q) N') ⟨n,f,⟨e,N⟩⟩):AWp P B (.seq (.region id l.toArray true) y) Q ⟨n,f,⟨e,N⟩⟩:=AWp.seq' (AWp.regD 64 hmix hok hN h)
theorem fs{y:Code}(h:AWp P B y Q ⟨n,t,⟨e,N'⟩⟩):aR P strict ops base i [] (KN (aF8 P B y Q) N') ⟨n,t,⟨e,N⟩⟩:=h
end
structure bG where
  x0:Int
  x1:Int
deriving DecidableEq
def iY(e:bG):List AV:=[.v (.int .u64 e.x0),.v (.int .u64 e.x1)]
theorem aGi:CF iY 2:=⟨fun _=>rfl,fun a x hx=>by
 simp only [iY,List.mem_cons,List.not_mem_nil,or_false] at hx;rcases hx with rfl|rfl
 · exact (.v _)
 · exact (.v _),fun _=>rfl⟩
@[go_sem] theorem aU4(e:bG)(r:List AV):iY e++r= .v (.int .u64 e.x0):: .v (.int .u64 e.x1)::r:=rfl
def bDl(a b:bG):Bool:=a.x0==b.x0&&a.x1==b.x1
inductive GA where
  |nil
  |i (t:TypeId) (k:IntKind) (n:Int)
  |s (t:TypeId) (w:ByteArray)
  |b (t:TypeId) (x:Bool)
  |lu (t:TypeId) (l:List Int)
  |lp (t:TypeId) (l:List bG)
deriving DecidableEq
@[reducible] def GA.av:GA→AV
  | .nil=> .v .nilIface
  | .i t k n=> .ifc t (.v (.int k n))
  | .s t w=> .ifc t (.v (.string w))
  | .b t x=> .ifc t (.v (.bool x))
  | .lu t l=> .ifc t (.sl (l.flatMap (ci .u64)) l.length false)
  | .lp t l=> .ifc t (.sl (l.flatMap iY) l.length false)
theorem GA.data:(g:GA)→Data g.av
 | .nil=> .v _
 | .i _ _ _=> .ifc _ _ (.v _)
 | .s _ _=> .ifc _ _ (.v _)
 | .b _ _=> .ifc _ _ (.v _)
 | .lu _ l=> .ifc _ _ ((CFi .u64).sl _ _ _)
 | .lp _ l=> .ifc _ _ (aGi.sl _ _ _)
def GA.ty:GA→Option TypeId
  | .nil=>none
  | .i t _ _=>some t
  | .s t _=>some t
  | .b t _=>some t
  | .lu t _=>some t
  | .lp t _=>some t
def bE7(k:IntKind)(t:TypeId)(g:GA):Option Int:=if g.ty=some t then (match g with| .i _ k' n=>if k'=k then some n else none|_=>none) else none
def bE9(t:TypeId)(g:GA):Option ByteArray:=if g.ty=some t then (match g with| .s _ w=>some w|_=>none) else none
def aX6(t:TypeId)(g:GA):Option Bool:=if g.ty=some t then (match g with| .b _ x=>some x|_=>none) else none
def bNv(t:TypeId)(g:GA):Option (List Int):=if g.ty=some t then (match g with| .lu _ l=>some l|_=>none) else none
def bNt(t:TypeId)(g:GA):Option (List bG):=if g.ty=some t then (match g with| .lp _ l=>some l|_=>none) else none
def aDj(k:IntKind)(t:TypeId)(g:GA):Option (Int×Bool):=if g.ty=some t then (bE7 k t g).map (·,true) else some (0,false)
def bA8(t:TypeId)(g:GA):Option (ByteArray×Bool):=if g.ty=some t then (bE9 t g).map (·,true) else some (⟨#[]⟩,false)
def aIr(t:TypeId)(g:GA):Option (Bool×Bool):=if g.ty=some t then (aX6 t g).map (·,true) else some (false,false)
def bE8(t:TypeId)(g:GA):Option (List Int×Bool):=if g.ty=some t then (bNv t g).map (·,true) else some ([],false)
def bKu(t:TypeId)(g:GA):Option (List bG×Bool):=if g.ty=some t then (bNt t g).map (·,true) else some ([],false)
theorem bKt{k:IntKind}{t:TypeId}{g:GA}{n:Int}(h:bE7 k t g=some n):g.av= .ifc t (.v (.int k n)):=by
 unfold bE7 at h
 by_cases q:g.ty=some t
 ·
  rw [if_pos q] at h
  cases g with
  |i t' k' m=>
   simp only at h
   by_cases h':k'=k
   · rw [if_pos h'] at h;cases h;subst h';cases q;rfl
   · rw [if_neg h'] at h;cases h
  |_=>cases h
 · rw [if_neg q] at h;cases h
theorem bKv{t:TypeId}{g:GA}{n:ByteArray}(h:bE9 t g=some n):g.av= .ifc t (.v (.string n)):=by
 unfold bE9 at h
 by_cases q:g.ty=some t
 ·
  rw [if_pos q] at h
  cases g with
  |s t' m=>cases h;cases q;rfl
  |_=>cases h
 · rw [if_neg q] at h;cases h
theorem bE6{t:TypeId}{g:GA}{n:Bool}(h:aX6 t g=some n):g.av= .ifc t (.v (.bool n)):=by
 unfold aX6 at h
 by_cases q:g.ty=some t
 ·
  rw [if_pos q] at h
  cases g with
  |b t' m=>cases h;cases q;rfl
  |_=>cases h
 · rw [if_neg q] at h;cases h
theorem bNw{t:TypeId}{g:GA}{l:List Int}(h:bNv t g=some l):g.av= .ifc t (.sl (l.flatMap (ci .u64)) l.length false):=by
 unfold bNv at h
 by_cases q:g.ty=some t
 ·
  rw [if_pos q] at h
  cases g with
  |lu t' m=>cases h;cases q;rfl
  |_=>cases h
 · rw [if_neg q] at h;cases h
theorem bNu{t:TypeId}{g:GA}{l:List bG}(h:bNt t g=some l):g.av= .ifc t (.sl (l.flatMap iY) l.length false):=by
 unfold bNt at h
 by_cases q:g.ty=some t
 ·
  rw [if_pos q] at h
  cases g with
  |lp t' m=>cases h;cases q;rfl
  |_=>cases h
 · rw [if_neg q] at h;cases h
theorem vK{P:Program}{t:TypeId}{d:TypeDesc}{i:TypeInfo}{z:Value}{g:GA}(hu:P.underlying t=some d)(hn: ∀m,d≠ .interface m)(hi:P.info? t=some i)(hz:i.zero=some z)(hne:g.ty≠some t):
 nD P g.av t true=some (.tup [constAV z,.v (.bool false)]):=by
 cases g with
 |nil=>exact aZ7 hu hn hi hz
 |i t' _ _=>exact yQ hu hn (fun e=>hne (congrArg some e)) hi hz
 |s t' _=>exact yQ hu hn (fun e=>hne (congrArg some e)) hi hz
 |b t' _=>exact yQ hu hn (fun e=>hne (congrArg some e)) hi hz
 |lu t' _=>exact yQ hu hn (fun e=>hne (congrArg some e)) hi hz
 |lp t' _=>exact yQ hu hn (fun e=>hne (congrArg some e)) hi hz
theorem map_some{α β:Type}{f:α→β}{o:Option α}{y:β}(h:o.map f=some y): ∃x,o=some x∧f x=y:=by
 cases o with
 |none=>cases h
 |some x=>cases h;exact ⟨x,rfl,rfl⟩
section
variable {P:Program}{H:aH}{ρ:Operand→AV}{x:Operand}{xt t:TypeId}{g:GA}{i:TypeInfo}
theorem aZh{k:IntKind}{n:Int}{ok:Bool}(hu:P.underlying t=some (.int k))(hi:P.info? t=some i)(hz:i.zero=some (.int k 0))(hx:ρ x=g.av)(hv:aDj k t g=some (n,ok)):bJ P H ρ (.typeAssert x xt t true)=some (.tup [.v (.int k n),.v (.bool ok)]):=by
 show nD P (ρ x) t true=_;rw [hx];unfold aDj at hv
 by_cases q:g.ty=some t
 · rw [if_pos q] at hv;obtain ⟨y,h1,h2⟩:=map_some hv;cases h2;rw [bKt h1];exact aB4 hu (by simp)
 · rw [if_neg q] at hv;cases hv;exact vK hu (by simp) hi hz q
theorem bM9{n:ByteArray}{ok:Bool}(hu:P.underlying t=some .string)(hi:P.info? t=some i)(hz:i.zero=some (.string ⟨#[]⟩))(hx:ρ x=g.av)(hv:bA8 t g=some (n,ok)):bJ P H ρ (.typeAssert x xt t true)=some (.tup [.v (.string n),.v (.bool ok)]):=by
 show nD P (ρ x) t true=_;rw [hx];unfold bA8 at hv
 by_cases q:g.ty=some t
 · rw [if_pos q] at hv;obtain ⟨y,h1,h2⟩:=map_some hv;cases h2;rw [bKv h1];exact aB4 hu (by simp)
 · rw [if_neg q] at hv;cases hv;exact vK hu (by simp) hi hz q
theorem bHh{n:Bool}{ok:Bool}(hu:P.underlying t=some .bool)(hi:P.info? t=some i)(hz:i.zero=some (.bool false))(hx:ρ x=g.av)(hv:aIr t g=some (n,ok)):bJ P H ρ (.typeAssert x xt t true)=some (.tup [.v (.bool n),.v (.bool ok)]):=by
 show nD P (ρ x) t true=_;rw [hx];unfold aIr at hv
 by_cases q:g.ty=some t
 · rw [if_pos q] at hv;obtain ⟨y,h1,h2⟩:=map_some hv;cases h2;rw [bE6 h1];exact aB4 hu (by simp)
 · rw [if_neg q] at hv;cases hv;exact vK hu (by simp) hi hz q
end
attribute [go_sem] bHm cond_true cond_false bD3 bHn constAV bHl List.getD_cons_zero List.getD_cons_succ bHi bMc bS3 bNx aSx dM bWx bS5
  bCy aWp bCz bCx aRs aZj bD0 aU1 aRr aZm aQi aZk aQj aZl aO8 aU2 aPk aU0
  bLw bM5 bM3 aZ9 aZa bLx bR0 bM6 aZ8 aZb aZc bLy bM4 bM2 bM1 bM0 bLz bCl bCr bCp bCo bCn bCm bCk bCq bRi bRh
  bR7 bM8 bHg bHe bHf bHd aUf if_true aWj aWi
  bMr bHr bMy bRr List.nil_append List.cons_append ne_eq not_false_eq_true List.map_cons List.map_nil List.getElem?_cons_zero List.getElem?_cons_succ List.all_cons List.all_nil Bool.and_true List.drop_zero List.drop_succ_cons Nat.zero_add Nat.add_zero bMd bCw aZi Bool.true_beq Bool.false_beq Bool.not_true Bool.not_false
end Go.AM
