/- Facts. No condition. -/
import Derived.Test.YtkdohhmacfoolaaGreatDoorPgSnP
import Derived.Shelf.Strings.Builder1
import Derived.Shelf.Small.Strs
import Derived.Shelf.Strconv.Itoa3
import Derived.Shelf.Strings.Search1
import Derived.Test.YtkdohhmacfoolaaGreatDoorProg
set_option linter.unusedSimpArgs false
set_option linter.unusedVariables false
set_option maxRecDepth 4000
namespace Go.AM
open Go.Proofs.Tryz Go Go.RowKit
attribute [local semireducible] aR KN aF8 yP AIn AWp dR
def BK:Nat→Prop:=fun id=>id<3000000
section
variable {P:Program}
theorem bPs{fn:Func}{e:Exit}{a b n N:Nat}{f:Nat→AV}{x y:AV}{h h':Nat→Ent}(he:e= .normal∨e= .ret)(hr:fn.results= #[.tmp a,.tmp b])(h1:aval f (.tmp a)=x)(h2:aval f (.tmp b)=y)(hh:h=h'):
 (e= .normal∨e= .ret)∧yS P fn ⟨n,f,⟨h,N⟩⟩=some (.tup [x,y])∧(⟨n,f,⟨h,N⟩⟩:St).H.ent=h':=⟨he,by rw [bV6 hr];exact congrArg some (by rw [show aval (⟨n,f,⟨h,N⟩⟩:St).f (.tmp a)=x from h1,show aval (⟨n,f,⟨h,N⟩⟩:St).f (.tmp b)=y from h2]),hh⟩
theorem eK.of_bodyK{f:FuncId}{fn:Func}{c:Code}{args:List AV}{H:aH}{r:AV}{i0:Nat}{x y:Ent}(hf:P.funcs[f]? =some fn)(hb:fn.body=some c)(he:H.ent i0=x)(hk: ∀id,3000000≤id→H.ent id= .fresh)
 (h:AWp P BK c (fun e s=>(e= .normal∨e= .ret)∧yS P fn s=some r∧s.H.ent=upd H.ent i0 y) ⟨args.length+(fn.ntmps-args.length),aIb args,⟨upd H.ent i0 x,3000000⟩⟩):eK P f args H r (H.put i0 y):=by
 refine eK.of_body (B:=BK) hf hb (fun id hid=>hk id (Nat.le_of_not_lt hid)) ?_
 have e:upd H.ent i0 x=H.ent:=by
  funext j;unfold upd;split
  · rename_i h';subst h';exact he.symm
  · rfl
 rw [e] at h;exact AWp.weaken St.Le.nxt h
theorem AWp.behind{B:Nat→Prop}{c:Code}{Q:Exit→St→Prop}{s:St}(h:AWp P B c (fun e s=> ∃s',s.Le B s'∧Q e s') s):AWp P B c Q s:=by
 unfold AWp at h⊢;intro C a w hb hr;refine wp_mono (h C a w hb hr) ?_;rintro e a' w' ⟨s',hr',s'',hle,hq⟩;exact ⟨s'',hle C a' w' hb hr',hq⟩
theorem bOo{n N N':Nat}{f:Nat→AV}{e e':Nat→Ent}(h1: ∀id,id<3000000→e id=e' id)(h2: ∀id,3000000≤id→e' id= .fresh)(hD: ∀id,aF9 (e' id)):
 (⟨n,f,⟨e,N⟩⟩:St).Le BK ⟨n,fun _=> .any,⟨e',N'⟩⟩:=by
 refine St.Le.weak (s:=⟨n,f,⟨e,N⟩⟩) (s':=⟨n,fun _=> .any,⟨e',N'⟩⟩) id ⟨fun i=>?_,fun _ _ _ _ h=>h,fun i hi=>⟨rfl,fun h=>?_⟩⟩ rfl fun _=> .any _
 ·
  show lX _ _ _ i (e' i);rcases Nat.lt_or_ge i 3000000 with hi|hi
  ·
   have hd:=hD i;have he:=h1 i hi
   cases hx:e' i with
   |fresh=>trivial
   |dead=>trivial
   |cells s ys l=>
    rw [hx] at hd he;exact oE (H:=⟨e,N⟩) he (Nat.le_refl _) hd.1 hd.2
   |iter s p=>rw [hx] at he;exact he
   |hid s p=>rw [hx] at he;exact he
  · rw [h2 i hi];trivial
 · show e i= .fresh;rw [h1 i hi];exact h
theorem aW4{fn:Func}{e:Exit}{n N:Nat}{f:Nat→AV}{h h':Nat→Ent}(he:e= .normal∨e= .ret)(hr:fn.results= #[])(h1: ∀id,id<3000000→h id=h' id)(h2: ∀id,3000000≤id→h' id= .fresh)(hD: ∀id,aF9 (h' id)):
 ∃s',(⟨n,f,⟨h,N⟩⟩:St).Le BK s'∧(e= .normal∨e= .ret)∧yS P fn s'=some (.tup [])∧s'.H.ent=h':=
 ⟨⟨n,fun _=> .any,⟨h',N⟩⟩,bOo h1 h2 hD,he,by unfold yS;rw [hr];rfl,rfl⟩
theorem frK{h0:Nat→Ent}{N j:Nat}(hk: ∀id,3000000≤id→h0 id= .fresh)(hj:3000000≤j):aH.isFresh ⟨h0,N⟩ j=true:=by
 simp only [aH.isFresh,hk j hj]
end
end Go.AM
namespace Go.AM
open Go.Proofs.Tryz Go Go.RowKit
abbrev KM(P:Program)(g:FuncId)(xs:List AV)(l:List Int){R:Type}(m:Option R)(out:R→List Int)(res:R→AV):Prop:=
  ∀ {r},m=some r→ ∀ {H:aH} {i0:Nat},H.ent i0= .cells 1 (l.flatMap (ci .u64)) 0→eK P g (.own i0 0 l.length::xs) H (res r) (H.put i0 (.cells 1 ((out r).flatMap (ci .u64)) 0))
abbrev jM{R:Type}(n:Nat)(f:Nat→AV)(h0:Nat→Ent)(i0:Nat)(d:List Int)(o:Option R)(r:R)(s:St):Prop:=s=⟨n,f,⟨upd h0 i0 (.cells 1 (d.flatMap (ci .u64)) 0),64⟩⟩∧o=some r
theorem bM{P:Program}{r:AV}(n:Nat){g:FuncId}{fn:Func}{c:Code}{args:List AV}{H:aH}{i0:Nat}{x y:Ent}(hf:P.funcs[g]? =some fn)(he:H.ent i0=x)
 (h: ∀h0:Nat→Ent,AWp P bW7 c (fun e s=>(e= .normal∨e= .ret)∧yS P fn s=some r∧s.H.ent=upd h0 i0 y) ⟨n,aIb args,⟨upd h0 i0 x,0⟩⟩)
 (hb:fn.body=some c:=by rfl) (hn:args.length+(fn.ntmps-args.length)=n:=by rfl):eK P g args H r (H.put i0 y):=by
 subst hn;exact eK.of_bodyM hf hb he (h H.ent)
theorem mV{f g:Nat→AV}{i:Nat}{x:AV}(h': ∀k,g k= .any∨g k=f k)(h:aval f (.tmp i)=x:=by first|exact Y1|exact sE Y1 Z6): ∀k,aF g i x k= .any∨aF g i x k=f k:=bD i x h h'
theorem LM{B:Nat→Prop}{I:St→Prop}{n N N':Nat}{f g:Nat→AV}{e e':Nat→Ent}(hI:I ⟨n,g,⟨e',N'⟩⟩:=by (repeat apply Exists.intro);exact ⟨rfl,hm⟩)
 (hf: ∀k,g k= .any∨g k=f k:=by (repeat (first|exact nF|refine mV ?_))) (he:e=e':=by (try simp only [aF7]);first|done|rfl): ∃s',St.Le B ⟨n,f,⟨e,N⟩⟩ s'∧I s':=⟨_,sD hf he,hI⟩
section
variable {P:Program}{B:Nat→Prop}{strict:Bool}{ops:Array Oper}{base i:Nat}{rest:List Oper}{K:St→Prop}{Q:Exit→St→Prop}{n:Nat}{t f:Nat→AV}{H:aH}{d:Tmp}{op:Op}{ty:TypeId}{pos:String}{after:Array Edge}{r:AV}{e:Nat→Ent}{N N':Nat}
theorem mJ{tx el:TypeId}{x y:Operand}{j m sz:Nat}{k':IntKind}{iv:Int}{lk:Nat}{α:Type}{c:α→List AV}{l:List α}{a:α}(k:aR P strict ops base (i+1) rest K ⟨n,aF t d (.adr j (0+iv.toNat*sz)),H⟩)
 (hd:decide (d<n)=true:=by rfl) (hu:P.underlying tx=some (.slice el):=by simp only [go_sem];first|done|rfl) (hs:aO P el=some sz:=by simp only [go_sem];first|done|rfl) (hx:aval t x= .own j 0 m:=by (try simp only [go_sem,Nat.reduceBEq]);first|done|rfl)
 (he:H.ent j= .cells sz (l.flatMap c) lk:=by simp only [dM,beq_self_eq_true,Nat.reduceBEq,cond_true,cond_false];first|done|rfl) (hn:m=l.length:=by first|rfl|omega) (hi:aval t y= .v (.int k' iv):=by (try simp only [go_sem,Nat.reduceBEq]);first|done|rfl)
 (hv:idx l iv=some a:=by first|with_reducible assumption|assumption):aR P strict ops base i (⟨some d,.indexAddr tx x y,ty,pos,after,none⟩::rest) K ⟨n,t,H⟩:=pu hd (iX hu hs hx he hn hi hv) k
theorem cM{S:Prop}{j:Nat}{y:Ent}{args:Array Operand}{ats:Array TypeId}{g:FuncId}{args':List AV}[hS:Ct P g S][hb:FB P g](hc:S→eK P g args' ⟨e,N⟩ r (aH.put ⟨e,N⟩ j y))(k:aR P false ops base (i+1) rest K ⟨n,aF t d r,⟨upd e j y,N⟩⟩)(hd:decide (d<n)=true:=by rfl)
 (ha:args.toList.map (aval t)=args':=by (try simp only [go_sem,Nat.reduceBEq]);first|done|rfl|(congr 2<;>omega)):
 aR P false ops base i (⟨some d,.call { callee:= .value (Operand.func g),args:=args,argTypes:=ats },ty,pos,after,none⟩::rest) K ⟨n,t,⟨e,N⟩⟩:=aR.callM (of_decide_eq_true hd) rfl hb.h ha (hc hS.h) k
end
theorem GM{Q:Prop}(h:Q:=by
 (repeat' (first|(refine gR ?_;first|(refine gC ?_;first|refine qA ?_|(obtain ⟨_,h0,hm⟩:=bnd hm;have q:=aAo h0;refine cM (by intro c;exact c (zL h0) (i0:=i0) (by simp only [dM,beq_self_eq_true,Nat.reduceBEq,cond_true,cond_false];first|done|rfl)) ?_)|(obtain ⟨_,_,h0,hm⟩:=b2 hm;refine cJ (by intro c;exact c h0) ?_)|(obtain ⟨_,h0,hm⟩:=bnd hm;refine cJ (by intro c;exact c h0) ?_)|(obtain ⟨_,h0,hm⟩:=bnd hm;refine cK (by intro c hb;exact c (kF h0 hb)) ?_)|refine qB ?_|(have hm:=sb hm (by with_reducible assumption))|(obtain ⟨_,_,_,hm⟩:=b2 hm)|(obtain ⟨_,_,hm⟩:=bnd hm))|(refine gL ?_;first|refine qA ?_|refine qB ?_|refine pD ?_|refine pE ?_|(have hm:=sb hm (by with_reducible assumption))|(obtain ⟨_,_,hm⟩:=bnd hm))|(refine gI ?_;first|refine mJ ?_|refine pG ?_|(have hm:=sb hm (by with_reducible assumption))|(obtain ⟨_,_,hm⟩:=bnd hm))|(refine gB ?_;first|refine qA ?_|refine qB ?_|refine pR ?_|refine pL ?_|refine pT ?_|refine pQ ?_|refine pM ?_|refine pC ?_|(have hm:=sb hm (by with_reducible assumption))|(obtain ⟨_,_,hm⟩:=bnd hm))|refine qA ?_|refine qB ?_|refine sk ?_|refine pC ?_|(obtain ⟨_,h0,hm⟩:=bnd hm;have q:=nG h0;refine aS h0 ?_)|(have hm:=sb hm (by with_reducible assumption))|(obtain ⟨_,_,hm⟩:=bnd hm))|refine fs ?_|refine aR.fin ?_|(refine gW ?_;first|refine sx ?_|refine AWp.skip ?_|refine rx ?_|refine AWp.block ?_|refine AWp.ret ?_|refine dx ?_|refine dY ?_|refine AWp.exit ?_|refine AWp.seq' ?_|(have hm:=sb hm (by with_reducible assumption))|(obtain ⟨_,_,hm⟩:=bnd hm)|(refine cm hm (fun hm=>?_) fun hm=>?_)|refine cT ?_|refine cF ?_|(refine lp I1 LM ?_;intro n1 s h;(repeat (refine ex1 h fun _ h=>?_));obtain ⟨rfl,hm⟩:=h)|(refine lp I2 LM ?_;intro n1 s h;(repeat (refine ex1 h fun _ h=>?_));obtain ⟨rfl,hm⟩:=h)|(refine lp (I2 _) LM ?_;intro n1 s h;(repeat (refine ex1 h fun _ h=>?_));obtain ⟨rfl,hm⟩:=h)|(refine lp I3 LM ?_;intro n1 s h;(repeat (refine ex1 h fun _ h=>?_));obtain ⟨rfl,hm⟩:=h)|(refine lp (I3 _) LM ?_;intro n1 s h;(repeat (refine ex1 h fun _ h=>?_));obtain ⟨rfl,hm⟩:=h)|(refine lp I4 LM ?_;intro n1 s h;(repeat (refine ex1 h fun _ h=>?_));obtain ⟨rfl,hm⟩:=h)|(refine lp (I4 _) LM ?_;intro n1 s h;(repeat (refine ex1 h fun _ h=>?_));obtain ⟨rfl,hm⟩:=h)|(refine lp I5 LM ?_;intro n1 s h;(repeat (refine ex1 h fun _ h=>?_));obtain ⟨rfl,hm⟩:=h)|(refine lp (I5 _) LM ?_;intro n1 s h;(repeat (refine ex1 h fun _ h=>?_));obtain ⟨rfl,hm⟩:=h))|refine bQ ?_|refine jC ?_|refine jP ?_|refine iA ?_|refine iS ?_|refine jA ?_|refine kE ?_|refine sI ?_|refine sJ ?_|refine aOi (by decide) ?_|(refine gE ?_;exact LM)|(refine gA ?_;cases hm;first|exact cAz (by first|exact .inr rfl|exact .inl rfl) rfl (by (try simp only [aF7]);first|done|rfl)|exact bBl (by first|exact .inr rfl|exact .inl rfl) rfl Y1 (by (try simp only [aF7]);first|done|rfl)|exact bPs (by first|exact .inr rfl|exact .inl rfl) rfl Y1 Y1 (by (try simp only [aF7]);first|done|rfl)|fail)|(cases hm;done)|(have hm:=sb hm (by with_reducible assumption))|(obtain ⟨_,_,hm⟩:=bnd hm)))):Q:=h
end Go.AM
namespace Go.Proofs
open Go.Shelf
def Tryz.lays169_ren:Go.Shelf.Ren:=⟨fun|169=>72|n=>n,fun|70=>131|9=>9|0=>0|72=>133|37=>91|127=>191|3=>3|5=>5|n=>n,fun|n=>n⟩
theorem Tryz.lays169:Go.Proofs.Lays.n169 prog Tryz.lays169_ren:= {
 mixed:=by kernel_rfl
 f169:=Tryz.func72.trans (congrArg some (by kernel_rfl))
 t0:=underlying0
 a0:=Tryz.isAgg0
 z0:=Tryz.sizeOf0
 v0:=Tryz.zeroValue0
 t3:=underlying3
 a3:=Tryz.isAgg3
 z3:=Tryz.sizeOf3
 v3:=Tryz.zeroValue3
 t9:=underlying9
 a9:=Tryz.isAgg9
 z9:=Tryz.sizeOf9
 v9:=Tryz.zeroValue9
 t37:=underlying91
 a37:=Tryz.isAgg91
 z37:=Tryz.sizeOf91
 v37:=Tryz.zeroValue91
 t70:=underlying131
 a70:=Tryz.isAgg131
 z70:=Tryz.sizeOf131
 v70:=Tryz.zeroValue131
 t72:=underlying133
 a72:=Tryz.isAgg133
 z72:=Tryz.sizeOf133
 v72:=Tryz.zeroValue133
 t127:=underlying191
 a127:=Tryz.isAgg191
 z127:=Tryz.sizeOf191
 v127:=Tryz.zeroValue191 }
theorem Tryz.Builder_Extra_169:Builder.Extra prog Tryz.lays169_ren:= {
 sizeBuilder:=by kernel_rfl
 liesBuilder:=by kernel_rfl
 t5:=underlying5
 a5:=Tryz.isAgg5
 z5:=Tryz.sizeOf5
 v5:=Tryz.zeroValue5
 infoByte:=by kernel_rfl
 cellsByte:=by kernel_rfl
 sizeByte:=by kernel_rfl
 neB5:=by decide }
open Go.RowKit in
theorem Tryz.Builder_String_any(B b:Nat)(l:List UInt8)(w:World)(h:Lib.IsBuilder 133 5 B b (Lib.byteCells l) w)(hBw:B≤w.heap.size):
 Calls prog 72 #[.pointer (some ⟨b,0,none⟩)] w fun e w'=>e= .returned (.string ⟨l.toArray⟩)∧Below B w w':=Any.Builder_String_any Tryz.lays169 Tryz.Builder_Extra_169 B b l w h hBw
def Tryz.lays137_ren:Go.Shelf.Ren:=⟨fun|137=>109|217=>146|266=>179|n=>n,fun|9=>9|5=>5|3=>3|n=>n,fun|n=>n⟩
theorem Tryz.lays137:Go.Proofs.Lays.n137 prog Tryz.lays137_ren:= {
 mixed:=by kernel_rfl
 f137:=Tryz.func109.trans (congrArg some (by kernel_rfl))
 f217:=Tryz.func146.trans (congrArg some (by kernel_rfl))
 f266:=Tryz.func179.trans (congrArg some (by kernel_rfl))
 t3:=underlying3
 a3:=Tryz.isAgg3
 z3:=Tryz.sizeOf3
 v3:=Tryz.zeroValue3
 t5:=underlying5
 a5:=Tryz.isAgg5
 z5:=Tryz.sizeOf5
 v5:=Tryz.zeroValue5
 t9:=underlying9
 a9:=Tryz.isAgg9
 z9:=Tryz.sizeOf9
 v9:=Tryz.zeroValue9 }
open Go.RowKit in
theorem Tryz.strings_IndexByte(s:ByteArray)(c:Int)(w:World):
 Calls prog 109 #[.string s,.int .u8 c] w fun e w'=>e= .returned (.int .i64 (Lib.indexByte s.data.toList c.toNat.toUInt8))∧w'=w:=Any.strings_IndexByte Tryz.lays137 s c w
def Tryz.lays283_ren:Go.Shelf.Ren:=⟨fun|283=>187|n=>n,fun|3=>3|9=>9|4=>4|n=>n,fun|n=>n⟩
theorem Tryz.lays283:Go.Proofs.Lays.n283 prog Tryz.lays283_ren:= {
 mixed:=by kernel_rfl
 f283:=Tryz.func187.trans (congrArg some (by kernel_rfl))
 t3:=underlying3
 a3:=Tryz.isAgg3
 z3:=Tryz.sizeOf3
 v3:=Tryz.zeroValue3
 t4:=underlying4
 a4:=Tryz.isAgg4
 z4:=Tryz.sizeOf4
 v4:=Tryz.zeroValue4
 t9:=underlying9
 a9:=Tryz.isAgg9
 z9:=Tryz.sizeOf9
 v9:=Tryz.zeroValue9 }
open Go.Lib in
theorem Tryz.internal_strconv_small(i:Nat)(h:i<100)(w:World):
 Calls prog 187 #[.int .i64 i] w fun e w'=>e= .returned (.string ⟨(Lib.decDigits i).toArray⟩)∧w'=w:=Any.internal_strconv_small Tryz.lays283 i h w
def Tryz.lays171_ren:Go.Shelf.Ren:=⟨fun|171=>69|243=>116|246=>151|283=>187|284=>188|285=>189|286=>190|129=>203|317=>232|318=>233|319=>234|320=>235|337=>253|338=>254|n=>n,fun|3=>3|9=>9|2=>2|4=>4|171=>261|0=>0|53=>40|37=>91|5=>5|173=>264|212=>298|51=>277|20=>20|213=>299|46=>162|232=>316|233=>317|n=>n,fun|17=>3|18=>4|19=>5|n=>n⟩
theorem Tryz.lays171:Go.Proofs.Lays.n171 prog Tryz.lays171_ren:= {
 mixed:=by kernel_rfl
 f129:=Tryz.func203.trans (congrArg some (by kernel_rfl))
 f171:=Tryz.func69.trans (congrArg some (by kernel_rfl))
 f243:=Tryz.func116.trans (congrArg some (by kernel_rfl))
 f246:=Tryz.func151.trans (congrArg some (by kernel_rfl))
 f283:=Tryz.func187.trans (congrArg some (by kernel_rfl))
 f284:=Tryz.func188.trans (congrArg some (by kernel_rfl))
 f285:=Tryz.func189.trans (congrArg some (by kernel_rfl))
 f286:=Tryz.func190.trans (congrArg some (by kernel_rfl))
 f317:=Tryz.func232.trans (congrArg some (by kernel_rfl))
 f318:=Tryz.func233.trans (congrArg some (by kernel_rfl))
 f319:=Tryz.func234.trans (congrArg some (by kernel_rfl))
 f320:=Tryz.func235.trans (congrArg some (by kernel_rfl))
 f337:=Tryz.func253.trans (congrArg some (by kernel_rfl))
 f338:=Tryz.func254.trans (congrArg some (by kernel_rfl))
 t0:=underlying0
 a0:=Tryz.isAgg0
 z0:=Tryz.sizeOf0
 v0:=Tryz.zeroValue0
 t2:=underlying2
 a2:=Tryz.isAgg2
 z2:=Tryz.sizeOf2
 v2:=Tryz.zeroValue2
 t3:=underlying3
 a3:=Tryz.isAgg3
 z3:=Tryz.sizeOf3
 v3:=Tryz.zeroValue3
 t4:=underlying4
 a4:=Tryz.isAgg4
 z4:=Tryz.sizeOf4
 v4:=Tryz.zeroValue4
 t5:=underlying5
 a5:=Tryz.isAgg5
 z5:=Tryz.sizeOf5
 v5:=Tryz.zeroValue5
 t9:=underlying9
 a9:=Tryz.isAgg9
 z9:=Tryz.sizeOf9
 v9:=Tryz.zeroValue9
 t20:=underlying20
 a20:=Tryz.isAgg20
 z20:=Tryz.sizeOf20
 v20:=Tryz.zeroValue20
 t37:=underlying91
 a37:=Tryz.isAgg91
 z37:=Tryz.sizeOf91
 v37:=Tryz.zeroValue91
 t46:=underlying162
 a46:=Tryz.isAgg162
 z46:=Tryz.sizeOf162
 v46:=Tryz.zeroValue162
 t51:=underlying277
 a51:=Tryz.isAgg277
 z51:=Tryz.sizeOf277
 v51:=Tryz.zeroValue277
 t53:=underlying40
 a53:=Tryz.isAgg40
 z53:=Tryz.sizeOf40
 v53:=Tryz.zeroValue40
 t171:=underlying261
 a171:=Tryz.isAgg261
 z171:=Tryz.sizeOf261
 v171:=Tryz.zeroValue261
 t173:=underlying264
 a173:=Tryz.isAgg264
 z173:=Tryz.sizeOf264
 v173:=Tryz.zeroValue264
 t212:=underlying298
 a212:=Tryz.isAgg298
 z212:=Tryz.sizeOf298
 v212:=Tryz.zeroValue298
 t213:=underlying299
 a213:=Tryz.isAgg299
 z213:=Tryz.sizeOf299
 t232:=underlying316
 a232:=Tryz.isAgg316
 z232:=Tryz.sizeOf316
 v232:=Tryz.zeroValue316
 t233:=underlying317
 a233:=Tryz.isAgg317
 z233:=Tryz.sizeOf317
 v233:=Tryz.zeroValue317
 g17:=by kernel_rfl
 g18:=by kernel_rfl
 g19:=by kernel_rfl }
open Go.RowKit Go.Sort Go.Lib in
theorem Tryz.strconv_Itoa_small(i:Nat)(hi:i<100)(w:World):
 Calls prog 69 #[.int .i64 i] w fun e w'=>e= .returned (.string ⟨(Lib.decDigits i).toArray⟩)∧w'=w:=Any.strconv_Itoa_small Tryz.lays171 i hi w
end Go.Proofs
