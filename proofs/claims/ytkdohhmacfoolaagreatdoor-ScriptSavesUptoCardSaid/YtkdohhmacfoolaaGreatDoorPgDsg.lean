/- Facts. No condition. -/
import Derived.Test.YtkdohhmacfoolaaGreatDoorPgAmM
import Derived.Shelf.LaysM
import Derived.Lib.ItoaMem
import Derived.BigCall
import Derived.BigGuard
import Derived.Shelf.Strings.Builder2
set_option linter.unusedSimpArgs false
set_option linter.unusedVariables false
set_option maxRecDepth 4000
namespace Go.AM
open Go.RowKit
attribute [local semireducible] aR KN aF8 yP AIn AWp dR
variable {P:Program}
def bGy(vs:List (Nat×Nat)):Operand→Option Nat
  | .tmp k=>vs.lookup k
  |_=>none
def bGw(vs:List (Nat×Nat))(op:Op):Option Nat:=match op with| .load _ x=>bGy vs x| .fieldAddr _ x _=>bGy vs x|_=>none
def aYw(vs:List (Nat×Nat))(op:Op):Option Nat:=match op with| .store _ a _=>bGy vs a|_=>none
def cmV(vs:List (Nat×Nat))(ops:Array Oper)(p i:Nat):Bool:=
  aVg [] ops p i||match ops[p]?,ops[i]? with
  |some op,some oi=>op.apart ops oi&&(match bGw vs op.op,aYw vs oi.op with|some a,some b=>a !=b|_,_=>false)
  |_,_=>false
def bGa(vs:List (Nat×Nat))(o:Oper):Bool:=match o.dst with|some d=>(vs.lookup d).isNone|none=>true
def IV(vs:List (Nat×Nat))(s:St):Prop:= ∀k j,vs.lookup k=some j→ ∃off,s.f k= .adr j off
theorem IV.nil{s:St} :IV [] s:=fun k j h=>by cases h
theorem IV.cons{vs:List (Nat×Nat)}{s:St}{k j off:Nat}(h:s.f k= .adr j off)(h':IV vs s):IV ((k,j)::vs) s:=fun k' j' q=>by
 rw [List.lookup_cons] at q
 by_cases c:k'=k
 · subst c;simp at q;subst q;exact ⟨off,h⟩
 ·
  have:(k'==k)=false:=by simpa using c
  rw [this] at q;exact h' k' j' q
theorem aLt{vs:List (Nat×Nat)}{x:Operand}{j:Nat}(h:bGy vs x=some j): ∃k,x= .tmp k∧vs.lookup k=some j:=by
 cases x with
 |tmp k=>exact ⟨k,rfl,h⟩
 |_=>cases h
theorem bQa{ops:Array Oper}{id:Nat}{o:Oper}{s s':St}(h:dR P true ops id o s s'): ∃r,s'.f=mS s.f o.dst r:=by
 obtain ⟨hd,h⟩:=h;split at h
 · subst h;exact ⟨_,rfl⟩
 ·
  unfold aGj at h;split at h
  · obtain ⟨_,_,_,r,H',_,_,_,_,_,rfl⟩:=h;exact ⟨r,rfl⟩
  · rcases h with ⟨r,_,rfl⟩|⟨r,H',_,rfl⟩|⟨r,_,_,rfl⟩<;>exact ⟨r,rfl⟩
 · exact h.elim
section
variable {vs:List (Nat×Nat)}{ops:Array Oper}
theorem IV.step(hk:(ops.all (bGa vs))=true):HI P ops (IV vs):=by
 intro C a w i id o s s' hr ho h I k j hkj;have hko:bGa vs o=true:=Array.all_eq_true_iff_forall_mem.1 hk o (Array.mem_of_getElem? ho);obtain ⟨r,h1⟩:=bQa h;obtain ⟨off,h2⟩:=I k j hkj;refine ⟨off,?_⟩;rw [h1]
 cases hd:o.dst with
 |none=>exact h2
 |some d=>
  show aF s.f d r k=_;unfold aF;split
  · rename_i q;subst q;unfold bGa at hko;rw [hd] at hko;simp only [hkj] at hko;cases hko
  · exact h2
theorem bF3{op:Op}{a:Nat}(h:bGw vs op=some a):aHj op=true:=by
 unfold bGw at h;split at h<;>first|rfl|cases h
theorem bLe{op:Op}{a:Nat}(h:aYw vs op=some a):aPb op=true:=by
 unfold aYw at h;split at h<;>first|rfl|cases h
theorem IV.comm{base:Nat} :HC P ops base (cmV vs ops) (IV vs):=by
 intro C a w p i op oi s s1 s2 hr I h1 h4 hcm hne h2 h5;unfold cmV at hcm;rw [Bool.or_eq_true] at hcm;rcases hcm with hcm|hcm
 ·
  have hn: ∀s:St,NoT [] s:=fun s k hk=>by cases hk
  unfold aVg at hcm;rw [h1,h4] at hcm;simp only [Bool.or_eq_true] at hcm;rcases hcm with hcm|hcm
  ·
   unfold aLh at hcm;rw [h1,h4] at hcm;simp only [Bool.and_eq_true,Bool.or_eq_true,decide_eq_true_eq] at hcm;obtain ⟨hap,(⟨c1,c2⟩|⟨c1,c2⟩)|⟨c1,c2⟩⟩:=hcm
   · exact aP7 hr h2 h5 hap c1 c2 om
   · exact zB h2 h5 hap c1 c2
   · exact zA h2 h5 hap c1 c2
  ·
   simp only [Bool.and_eq_true,Bool.or_eq_true] at hcm;obtain ⟨hap,((⟨c1,c2⟩|⟨c1,c2⟩)|⟨c1,c2⟩)|⟨c1,c2⟩⟩:=hcm
   · exact aKr h2 h5 hap c1 c2 (hn _)
   · exact aKs h2 h5 hap c1 c2 (hn _)
   · exact aId h2 h5 hap c1 c2
   · exact aIe h2 h5 hap c1 c2
 ·
  rw [h1,h4] at hcm;simp only [Bool.and_eq_true] at hcm;obtain ⟨hap,hc⟩:=hcm;split at hc
  ·
   rename_i x y c1 c2;have hxy:x≠y:=by simpa using hc
   obtain ⟨d1,d2,d3⟩:=Oper.apart_spec hap;obtain ⟨rp,e1,tp⟩:=bL6 h2 (bF3 c1);subst e1
   have hent:s2.H.ent x=s.H.ent x:=by
    have c2':=c2;unfold aYw at c2';split at c2'
    · rename_i t z y' ho;obtain ⟨k,rfl,hk⟩:=aLt c2';obtain ⟨off,hv⟩:=I k y hk;refine bLf (s:=⟨s.n,mS s.f op.dst rp,s.H⟩) h5 ho ?_;have:aval (mS s.f op.dst rp) (.tmp k)=s.f k:=iR d1 k (List.mem_append_left _ (List.mem_filterMap.2 ⟨.tmp k,by rw [ho];simp [Op.operands],rfl⟩));show iW (aval (mS s.f op.dst rp) (.tmp k))≠some x;rw [this,hv];intro q;cases q;exact hxy rfl
    · cases c2'
   obtain ⟨ri,H',e2,ti⟩:=aO2 h5 (bLe c2);subst e2;refine ⟨_,ti s.f (fun t ht=>iR d1 t ht),?_⟩
   have:=tp (mS s.f oi.dst ri) H' (fun t ht=>(iR d3 t ht).symm) fun z hz j hj hnd=>by
    have hJ:j=x:=by
     unfold bGw at c1;split at c1
     · rename_i t y' ho;obtain ⟨k,rfl,hk⟩:=aLt c1;rw [ho] at hz;simp [Op.operands] at hz;subst hz;obtain ⟨off,hv⟩:=I k x hk;have e:aval s.f (.tmp k)=s.f k:=rfl;rw [e,hv] at hj;cases hj;rfl
     · rename_i t y' f ho;obtain ⟨k,rfl,hk⟩:=aLt c1;rw [ho] at hz;simp [Op.operands] at hz;subst hz;obtain ⟨off,hv⟩:=I k x hk;have e:aval s.f (.tmp k)=s.f k:=rfl;rw [e,hv] at hj;cases hj;rfl
     · cases c1
    subst hJ;exact hent
   rw [←yB s.f op.dst oi.dst rp ri d2] at this;exact this
  · cases hc
end
theorem AWp.regV{B:Nat→Prop}(vs:List (Nat×Nat))(m:Nat){id:Nat}{l:List Oper}{Q:Exit→St→Prop}{n N N':Nat}{f:Nat→AV}{e:Nat→Ent}(hmix:P.follows .mixedOrders=true)(hok:bRu (cmV vs l.toArray) l.toArray=true)(hk:(l.toArray.all (bGa vs))=true)
 (h0:IV vs ⟨n,f,⟨e,N⟩⟩) (hN:N+m=N') (h:aR P true l.toArray N 0 l (KN Q N') ⟨n,f,⟨e,N⟩⟩):AWp P B (.region id l.toArray true) Q ⟨n,f,⟨e,N⟩⟩:=by
 subst hN;exact AWp.regionG (cmV vs l.toArray) (IV vs) m hmix hok (IV.step hk) IV.comm h0 h
end Go.AM
namespace Go.AM
open Go.RowKit
attribute [local semireducible] aR KN aF8 yP AIn AWp dR
variable {P:Program}
structure IW(vs ds:List (Nat×Nat))(ws:List Nat)(s:St):Prop where
  v:IV vs s
  d: ∀k j,ds.lookup k=some j→(∃off,s.f k= .adr j off)∨s.f k= .any∨s.f k= .v undef
  w: ∀k,k∈ws→ ∀q,q∈vs→iW (s.f k)≠some q.2
section
variable {vs ds:List (Nat×Nat)}{ws:List Nat}{ops:Array Oper}
end
end Go.AM
namespace Go.Proofs.YtkdohhmacfoolaaGreatDoor
open Go.Proofs.Tryz Go Go.RowKit Go.AM
set_option maxRecDepth 100000
set_option maxHeartbeats 1000000
theorem bDw(n:Nat)(h:n<100)(w:World):Calls prog 177 #[.int .u64 n,.int .i64 10] w fun e w'=>e= .returned (.string ⟨(Lib.decDigits n).toArray⟩)∧w'=w:=by
 have mixed:=Tryz.lays169.mixed;have u3:=run_underlying underlying3;have u40:=run_underlying underlying40;have e1: ∀args w,(callFunc 187 args).run prog w= .ok (.enter 187 args) w:=enters_of func187 (by kernel_rfl) rfl
 go_enter func177,ntmps177
 go_wp2_with fail
 refine (Tryz.internal_strconv_small n h w).mono ?_;rintro e w' ⟨rfl,rfl⟩
 go_wp2
 go_ret
 exact ⟨rfl,rfl⟩
theorem bNp(n:Nat)(h:n<100)(w:World):Calls prog 144 #[.int .u64 n,.int .i64 10] w fun e w'=>e= .returned (.string ⟨(Lib.decDigits n).toArray⟩)∧w'=w:=by
 have mixed:=Tryz.lays169.mixed;have u3:=run_underlying underlying3;have u40:=run_underlying underlying40;have e1: ∀args w,(callFunc 177 args).run prog w= .ok (.enter 177 args) w:=enters_of func177 (by kernel_rfl) rfl
 go_enter func144,ntmps144
 go_wp2_with fail
 refine (bDw n h w).mono ?_;rintro e w' ⟨rfl,rfl⟩
 go_wp2
 go_ret
 exact ⟨rfl,rfl⟩
end Go.Proofs.YtkdohhmacfoolaaGreatDoor
namespace Go.Proofs
open Go.Shelf
def Tryz.laysM284_ren:Go.Shelf.Ren:=⟨fun|284=>188|129=>203|317=>232|318=>233|n=>n,fun|53=>40|3=>3|212=>298|0=>0|4=>4|46=>162|5=>5|9=>9|n=>n,fun|17=>3|n=>n⟩
theorem Tryz.laysM284:Go.Proofs.LaysM.n284 prog Tryz.laysM284_ren:= {
 mixed:=by kernel_rfl
 f129:=Tryz.func203.trans (congrArg some (by kernel_rfl))
 f284:=Tryz.func188.trans (congrArg some (by kernel_rfl))
 f317:=Tryz.func232.trans (congrArg some (by kernel_rfl))
 f318:=Tryz.func233.trans (congrArg some (by kernel_rfl))
 t0:=underlying0
 a0:=Tryz.isAgg0
 z0:=Tryz.sizeOf0
 v0:=Tryz.zeroValue0
 t3:=underlying3
 a3:=Tryz.isAgg3
 z3:=Tryz.sizeOf3
 v3:=Tryz.zeroValue3
 t4:=underlying4
 a4:=Tryz.isAgg4
 z4:=Tryz.sizeOf4
 v4:=Tryz.zeroValue4
 t5:=underlying5
 a5:=Tryz.isAgg5
 z5:=Tryz.sizeOf5
 v5:=Tryz.zeroValue5
 t9:=underlying9
 a9:=Tryz.isAgg9
 z9:=Tryz.sizeOf9
 v9:=Tryz.zeroValue9
 t46:=underlying162
 a46:=Tryz.isAgg162
 z46:=Tryz.sizeOf162
 v46:=Tryz.zeroValue162
 t53:=underlying40
 a53:=Tryz.isAgg40
 z53:=Tryz.sizeOf40
 v53:=Tryz.zeroValue40
 t212:=underlying298
 a212:=Tryz.isAgg298
 z212:=Tryz.sizeOf298
 v212:=Tryz.zeroValue298
 g17:=by kernel_rfl
 i0:=by kernel_rfl
 i3:=by kernel_rfl
 i4:=by kernel_rfl
 i5:=by kernel_rfl
 i9:=by kernel_rfl
 i46:=by kernel_rfl
 i53:=by kernel_rfl
 i212:=by kernel_rfl
 m17:=by kernel_rfl }
open Go.Lib in
theorem Tryz.internal_strconv_numDigits(u:Nat)(h1:1≤u)(h2:u<18446744073709551616)(w:World)(htab:Lib.TabIs prog w "internal/strconv.uint64pow10" .u64 Lib.pow10Tab):
 Calls prog 188 #[.int .u64 u] w fun e w'=>e= .returned (.int .i64 (Lib.nDigits u))∧w'=w:=Any.internal_strconv_numDigits Tryz.laysM284 u h1 h2 w htab
def Tryz.lays285_ren:Go.Shelf.Ren:=⟨fun|285=>189|n=>n,fun|37=>91|53=>40|3=>3|4=>4|51=>277|9=>9|5=>5|0=>0|n=>n,fun|n=>n⟩
theorem Tryz.lays285:Go.Proofs.Lays.n285 prog Tryz.lays285_ren:= {
 mixed:=by kernel_rfl
 f285:=Tryz.func189.trans (congrArg some (by kernel_rfl))
 t0:=underlying0
 a0:=Tryz.isAgg0
 z0:=Tryz.sizeOf0
 v0:=Tryz.zeroValue0
 t3:=underlying3
 a3:=Tryz.isAgg3
 z3:=Tryz.sizeOf3
 v3:=Tryz.zeroValue3
 t4:=underlying4
 a4:=Tryz.isAgg4
 z4:=Tryz.sizeOf4
 v4:=Tryz.zeroValue4
 t5:=underlying5
 a5:=Tryz.isAgg5
 z5:=Tryz.sizeOf5
 v5:=Tryz.zeroValue5
 t9:=underlying9
 a9:=Tryz.isAgg9
 z9:=Tryz.sizeOf9
 v9:=Tryz.zeroValue9
 t37:=underlying91
 a37:=Tryz.isAgg91
 z37:=Tryz.sizeOf91
 v37:=Tryz.zeroValue91
 t51:=underlying277
 a51:=Tryz.isAgg277
 z51:=Tryz.sizeOf277
 v51:=Tryz.zeroValue277
 t53:=underlying40
 a53:=Tryz.isAgg40
 z53:=Tryz.sizeOf40
 v53:=Tryz.zeroValue40 }
open Go.RowKit Go.Sort Go.Lib in
theorem Tryz.internal_strconv_formatBase10(blk off cap:Nat)(u:Nat)(d:Array UInt8)(w:World)(hH:Holds (fun (b:UInt8)=>Value.int .u8 (b.toNat:Int)) w blk off d)(hu:u<10^d.size)(hu64:u<18446744073709551616)(hsz:d.size<4611686018427387904):
 Calls prog 189 #[.slice (some ⟨blk,off,none⟩) d.size cap,.int .u64 u] w fun e w'=>
  e= .returned (.tuple #[])∧ ∃(n v':Nat) (dk:Array UInt8),w'=(putRow (fun (b:UInt8)=>Value.int .u8 (b.toNat:Int)) w blk off dk).drewN n∧FmtInv d.size u 0 v' dk:=Any.internal_strconv_formatBase10 Tryz.lays285 blk off cap u d w hH hu hu64 hsz
def Tryz.laysM171_ren:Go.Shelf.Ren:=⟨fun|171=>69|243=>116|246=>151|283=>187|284=>188|285=>189|286=>190|129=>203|317=>232|318=>233|319=>234|320=>235|337=>253|338=>254|n=>n,fun|3=>3|9=>9|2=>2|4=>4|171=>261|0=>0|53=>40|37=>91|5=>5|173=>264|212=>298|51=>277|20=>20|213=>299|46=>162|232=>316|233=>317|n=>n,fun|17=>3|18=>4|19=>5|n=>n⟩
theorem Tryz.laysM171:Go.Proofs.LaysM.n171 prog Tryz.laysM171_ren:= {
 mixed:=by kernel_rfl
 f129:=Tryz.func203.trans (congrArg some (by kernel_rfl))
 f171:=Tryz.func69.trans (congrArg some (by kernel_rfl))
 f243:=Tryz.func116.trans (congrArg some (by kernel_rfl))
 f246:=Tryz.func151.trans (congrArg some (by kernel_rfl))
 f283:=Tryz.func187.trans (congrArg some (by kernel_rfl))
 f284:=Tryz.func188.trans (congrArg some (by kernel_rfl))
 f285:=Tryz.func189.trans (congrArg some (by kernel_rfl))
 f286:=Tryz.func190.trans (congrArg some (by kernel_rfl))
 f317:=Tryz.func232.trans (congrArg some (by kernel_rfl))
 f318:=Tryz.func233.trans (congrArg some (by kernel_rfl))
 f319:=Tryz.func234.trans (congrArg some (by kernel_rfl))
 f320:=Tryz.func235.trans (congrArg some (by kernel_rfl))
 f337:=Tryz.func253.trans (congrArg some (by kernel_rfl))
 f338:=Tryz.func254.trans (congrArg some (by kernel_rfl))
 t0:=underlying0
 a0:=Tryz.isAgg0
 z0:=Tryz.sizeOf0
 v0:=Tryz.zeroValue0
 t2:=underlying2
 a2:=Tryz.isAgg2
 z2:=Tryz.sizeOf2
 v2:=Tryz.zeroValue2
 t3:=underlying3
 a3:=Tryz.isAgg3
 z3:=Tryz.sizeOf3
 v3:=Tryz.zeroValue3
 t4:=underlying4
 a4:=Tryz.isAgg4
 z4:=Tryz.sizeOf4
 v4:=Tryz.zeroValue4
 t5:=underlying5
 a5:=Tryz.isAgg5
 z5:=Tryz.sizeOf5
 v5:=Tryz.zeroValue5
 t9:=underlying9
 a9:=Tryz.isAgg9
 z9:=Tryz.sizeOf9
 v9:=Tryz.zeroValue9
 t20:=underlying20
 a20:=Tryz.isAgg20
 z20:=Tryz.sizeOf20
 v20:=Tryz.zeroValue20
 t37:=underlying91
 a37:=Tryz.isAgg91
 z37:=Tryz.sizeOf91
 v37:=Tryz.zeroValue91
 t46:=underlying162
 a46:=Tryz.isAgg162
 z46:=Tryz.sizeOf162
 v46:=Tryz.zeroValue162
 t51:=underlying277
 a51:=Tryz.isAgg277
 z51:=Tryz.sizeOf277
 v51:=Tryz.zeroValue277
 t53:=underlying40
 a53:=Tryz.isAgg40
 z53:=Tryz.sizeOf40
 v53:=Tryz.zeroValue40
 t171:=underlying261
 a171:=Tryz.isAgg261
 z171:=Tryz.sizeOf261
 v171:=Tryz.zeroValue261
 t173:=underlying264
 a173:=Tryz.isAgg264
 z173:=Tryz.sizeOf264
 v173:=Tryz.zeroValue264
 t212:=underlying298
 a212:=Tryz.isAgg298
 z212:=Tryz.sizeOf298
 v212:=Tryz.zeroValue298
 t213:=underlying299
 a213:=Tryz.isAgg299
 z213:=Tryz.sizeOf299
 t232:=underlying316
 a232:=Tryz.isAgg316
 z232:=Tryz.sizeOf316
 v232:=Tryz.zeroValue316
 t233:=underlying317
 a233:=Tryz.isAgg317
 z233:=Tryz.sizeOf317
 v233:=Tryz.zeroValue317
 g17:=by kernel_rfl
 g18:=by kernel_rfl
 g19:=by kernel_rfl
 i0:=by kernel_rfl
 i2:=by kernel_rfl
 i3:=by kernel_rfl
 i4:=by kernel_rfl
 i5:=by kernel_rfl
 i9:=by kernel_rfl
 i20:=by kernel_rfl
 i37:=by kernel_rfl
 i46:=by kernel_rfl
 i51:=by kernel_rfl
 i53:=by kernel_rfl
 i171:=by kernel_rfl
 i173:=by kernel_rfl
 i212:=by kernel_rfl
 i232:=by kernel_rfl
 i233:=by kernel_rfl
 m17:=by kernel_rfl
 m18:=by kernel_rfl
 m19:=by kernel_rfl }
open Go.RowKit Go.Sort Go.Lib in
theorem Tryz.strconv_Itoa(n:Int)(h0: -9223372036854775808≤n)(h1:n≤9223372036854775807)(w:World)(htab:Lib.TabIs prog w "internal/strconv.uint64pow10" .u64 Lib.pow10Tab):
 Calls prog 69 #[.int .i64 n] w fun e w'=>e= .returned (.string ⟨(Lib.itoa n).toArray⟩)∧ ∃k os,w'=grow (w.drewN k) os:=Any.strconv_Itoa Tryz.laysM171 n h0 h1 w htab
end Go.Proofs
namespace Go.Proofs.YtkdohhmacfoolaaGreatDoor
open Go.Proofs.Tryz Go Go.RowKit Go.Sort Go.Lib Go.AM
theorem bQf{w:World}(h:Tab w):TabIs prog w "internal/strconv.uint64pow10" .u64 pow10Tab:=by
 obtain ⟨e,fr,h⟩:=h;have hg:Tryz.prog.globalNamed "internal/strconv.uint64pow10" =some 3:=by kernel_rfl
 unfold TabIs World.var?;rw [hg,Option.bind_some,h];simp only [pow10Tab,List.map_map];rfl
theorem aS7(w:World)(k:Nat)(os:Array Obj):Below w.heap.size w (grow (w.drewN k) os):=by
 refine ⟨rfl,rfl,rfl,?_,fun i hi=>?_⟩
 · show w.heap.size≤(w.heap++os).size;rw [Array.size_append];omega
 · show (w.heap++os)[i]? =w.heap[i]?;rw [Array.getElem?_append_left hi]
theorem bLs(w:World)(T:TypeId)(nd:Nat)(hs:nd≤24):Holds (fun (b:UInt8)=>Value.int .u8 (b.toNat:Int)) (w.alloc (.cells zeros24 T)) w.heap.size 0 (Array.replicate nd (0:UInt8)):=fun j hj=>by
 have hj':j<nd:=by simpa using hj
 refine ⟨?_,World.frozen?_alloc_new _ _ _ _⟩;rw [World.cell?_alloc_new,zeros24_at _ om,getElem!_pos _ j hj];simp
theorem bWv(w:World)(o:Obj)(dk:Array UInt8)(k:Nat): ∃os,(putRow (fun (b:UInt8)=>Value.int .u8 (b.toNat:Int)) (w.alloc o) w.heap.size 0 dk).drewN k=grow (w.drewN k) os:=by
 rw [alloc_eq_grow];obtain ⟨os',_,e⟩:=putRow_grow_new (fun (b:UInt8)=>Value.int .u8 (b.toNat:Int)) w #[o] w.heap.size 0 dk (Nat.le_refl _);exact ⟨os',by rw [e];rfl⟩
set_option maxRecDepth 100000
set_option maxHeartbeats 6400000
theorem bNo(u:Nat)(h1:100≤u)(hu64:u<18446744073709551616)(w:World)(htab:TabIs prog w "internal/strconv.uint64pow10" .u64 pow10Tab):
 Calls prog 177 #[.int .u64 u,.int .i64 10] w fun e w'=>e= .returned (.string ⟨(decDigits u).toArray⟩)∧Below w.heap.size w w':=by
 have mixed:=Tryz.lays169.mixed;have t0:=run_underlying underlying3;have t40:=run_underlying underlying40;have t261:=run_underlying underlying261;have t91:=run_underlying underlying91;have t9:=run_underlying underlying9;have t5:=run_underlying underlying5;have a261:=Tryz.isAgg261;have z261:=Tryz.sizeOf261;have v261:=Tryz.zeroValue261;have e188: ∀args w,(callFunc 188 args).run prog w= .ok (.enter 188 args) w:=enters_of func188 (by kernel_rfl) rfl;have e189: ∀args w,(callFunc 189 args).run prog w= .ok (.enter 189 args) w:=enters_of func189 (by kernel_rfl) rfl;have hu1:1≤u:=by omega
 have hnd20:nDigits u≤20:=by have:=numDigits_eq u hu1 hu64;split at this<;>omega
 have hal:Tryz.prog.arrayLen 261=24:=by kernel_rfl
 have hsl1: ∀W,(Instr.sliceAt 261 (.pointer (some ⟨w.heap.size,0,none⟩)) none (some (.int .i64 (nDigits u:Int))) none).run prog W= .ok (.slice (some ⟨w.heap.size,0,none⟩) (nDigits u) 24) W:=fun W=>by
  rw [run_sliceAt_array_h W 261 ⟨w.heap.size,0,none⟩ (by kernel_rfl) .i64 (nDigits u:Int) om (by rw [hal];omega)];rw [hal]
  go_simp
 have hH0:=bLs w 261 (nDigits u) om;have hfmt:=Tryz.internal_strconv_formatBase10 w.heap.size 0 24 u (Array.replicate (nDigits u) 0) (w.alloc (.cells zeros24 261)) hH0 (by rw [Array.size_replicate];exact lt_pow_nDigits u) hu64 (by rw [Array.size_replicate];omega);rw [Array.size_replicate] at hfmt;have HH0:=Lib.hid hH0;clear hH0 hal
 go_enter func177,ntmps177
 go_wp2_with (first
  |(go_at_fn 188;refine (Tryz.internal_strconv_numDigits u hu1 hu64 _ (tabIs_alloc htab _)).mono ?_;rintro e w' ⟨rfl,rfl⟩))
 go_at_fn 189
 refine hfmt.mono ?_;rintro e w' ⟨rfl,k,v',dk,rfl,hF⟩
 have hcv:(convert 91 9 (.slice (some ⟨w.heap.size,0,none⟩) (nDigits u) 24)).run prog ((putRow (fun (b:UInt8)=>Value.int .u8 (b.toNat:Int)) (w.alloc (.cells zeros24 261)) w.heap.size 0 dk).drewN k)= .ok (.string ⟨(decDigits u).toArray⟩) ((putRow (fun (b:UInt8)=>Value.int .u8 (b.toNat:Int)) (w.alloc (.cells zeros24 261)) w.heap.size 0 dk).drewN k):=by
  have h:=run_convert_bytes_back (P:=prog) ((putRow (fun (b:UInt8)=>Value.int .u8 (b.toNat:Int)) (w.alloc (.cells zeros24 261)) w.heap.size 0 dk).drewN k) 91 9 5 ⟨w.heap.size,0,none⟩ 24 (decDigits u) underlying91 underlying5 underlying9 (fun j hj=>by
   rw [row_is_numeral hF j hj,add_plain,World.cell?_drewN];exact cell?_putRow (fun (b:UInt8)=>Value.int .u8 (b.toNat:Int)) _ w.heap.size 0 _ dk HH0.out (by rw [hF.size,Array.size_replicate]) j (by rw [hF.size];rw [decDigits_length] at hj;exact hj))
  rw [decDigits_length] at h;exact h
 go_wp2
 go_ret
 obtain ⟨os,eo⟩:=bWv w (.cells zeros24 261) dk k;refine ⟨rfl,?_⟩;rw [eo];exact aS7 w k os
theorem bNn(u:Nat)(hu64:u<18446744073709551616)(w:World)(ht:Tab w):Calls prog 144 #[.int .u64 u,.int .i64 10] w fun e w'=>e= .returned (.string ⟨(decDigits u).toArray⟩)∧Below w.heap.size w w':=by
 by_cases hs:u<100
 · refine (bNp u hs w).mono ?_;rintro e w' ⟨rfl,rfl⟩;exact ⟨rfl,Below.refl _ _⟩
 have mixed:=Tryz.lays169.mixed;have u3:=run_underlying underlying3;have u40:=run_underlying underlying40;have e1: ∀args w,(callFunc 177 args).run prog w= .ok (.enter 177 args) w:=enters_of func177 (by kernel_rfl) rfl;have htab:=bQf ht
 go_enter func144,ntmps144
 go_wp2_with fail
 refine (bNo u om hu64 w htab).mono ?_;rintro e w' ⟨rfl,hb⟩;have Hb:=Lib.hid hb;clear hb
 go_wp2
 go_ret
 exact ⟨rfl,Hb.out⟩
theorem cE.of_tab{f:FuncId}{args:List AV}{vs0:Array Value}{v:Value}(ha:args=vs0.toList.map AV.v)(h: ∀w,Tab w→Calls prog f vs0 w fun e w'=>e= .returned v∧Below w.heap.size w w'):cE prog f args (.v v):=by
 intro w X vs hX hv
 have e:vs=vs0:=by
  obtain ⟨h1,h2⟩:=hv;subst ha;refine Array.ext (by rw [h1];simp) fun i h3 h4=>?_;have:=(h2 i (.v vs0[i]) (by simp [h4])).v_inv
  simpa [Array.getD,h3] using this
 subst e;refine (h w hX.tab).mono ?_;rintro e w' ⟨rfl,hb⟩;exact ⟨v,rfl,.v _,hb⟩
def aS6(n base:Int):Option ByteArray:=bif decide (0≤n)&&(decide (n<18446744073709551616)&&decide (base=10)) then some ⟨(decDigits n.toNat).toArray⟩ else none
theorem bWw{n base:Int}{r:ByteArray}(hm:aS6 n base=some r):cE prog 144 [.v (.int .u64 n),.v (.int .i64 base)] (.v (.string r)):=by
 unfold aS6 at hm
 cases h:(decide (0≤n)&&(decide (n<18446744073709551616)&&decide (base=10))) with
 |false=>rw [h] at hm;cases hm
 |true=>
  rw [h] at hm;cases hm;simp only [Bool.and_eq_true,decide_eq_true_eq] at h;obtain ⟨h0,h1,rfl⟩:=h;obtain ⟨k,rfl⟩:=Int.eq_ofNat_of_zero_le h0;exact cE.of_tab (vs0:= #[.int .u64 (k:Int),.int .i64 10]) rfl fun w ht=>bNn k om w ht
def aH6(n:Int):Option ByteArray:=bif decide (-9223372036854775808≤n)&&decide (n≤9223372036854775807) then some ⟨(itoa n).toArray⟩ else none
theorem aXj{n:Int}{r:ByteArray}(hm:aH6 n=some r):cE prog 69 [.v (.int .i64 n)] (.v (.string r)):=by
 unfold aH6 at hm
 cases h:(decide (-9223372036854775808≤n)&&decide (n≤9223372036854775807)) with
 |false=>rw [h] at hm;cases hm
 |true=>
  rw [h] at hm;cases hm;simp only [Bool.and_eq_true,decide_eq_true_eq] at h;refine cE.of_tab (vs0:= #[.int .i64 n]) rfl fun w ht=>(Tryz.strconv_Itoa n h.1 h.2 w (bQf ht)).mono ?_;rintro e w' ⟨rfl,k,os,rfl⟩;exact ⟨rfl,aS7 w k os⟩
instance:Ct prog 69 (K1 prog vi vs 69 aH6):=⟨fun hm=>aXj hm⟩
end Go.Proofs.YtkdohhmacfoolaaGreatDoor
namespace Go.Proofs
open Go.Shelf
def Tryz.lays165_ren:Go.Shelf.Ren:=⟨fun|165=>178|240=>117|241=>224|276=>152|277=>249|n=>n,fun|70=>131|3=>3|0=>0|4=>4|9=>9|20=>20|72=>133|37=>91|164=>225|5=>5|n=>n,fun|n=>n⟩
theorem Tryz.lays165:Go.Proofs.Lays.n165 prog Tryz.lays165_ren:= {
 mixed:=by kernel_rfl
 f165:=Tryz.func178.trans (congrArg some (by kernel_rfl))
 f240:=Tryz.func117.trans (congrArg some (by kernel_rfl))
 f241:=Tryz.func224.trans (congrArg some (by kernel_rfl))
 f276:=Tryz.func152.trans (congrArg some (by kernel_rfl))
 f277:=Tryz.func249.trans (congrArg some (by kernel_rfl))
 t0:=underlying0
 a0:=Tryz.isAgg0
 z0:=Tryz.sizeOf0
 v0:=Tryz.zeroValue0
 t3:=underlying3
 a3:=Tryz.isAgg3
 z3:=Tryz.sizeOf3
 v3:=Tryz.zeroValue3
 t4:=underlying4
 a4:=Tryz.isAgg4
 z4:=Tryz.sizeOf4
 v4:=Tryz.zeroValue4
 t9:=underlying9
 a9:=Tryz.isAgg9
 z9:=Tryz.sizeOf9
 v9:=Tryz.zeroValue9
 t20:=underlying20
 a20:=Tryz.isAgg20
 z20:=Tryz.sizeOf20
 v20:=Tryz.zeroValue20
 t37:=underlying91
 a37:=Tryz.isAgg91
 z37:=Tryz.sizeOf91
 v37:=Tryz.zeroValue91
 t70:=underlying131
 a70:=Tryz.isAgg131
 z70:=Tryz.sizeOf131
 v70:=Tryz.zeroValue131
 t72:=underlying133
 a72:=Tryz.isAgg133
 z72:=Tryz.sizeOf133
 v72:=Tryz.zeroValue133
 t164:=underlying225
 a164:=Tryz.isAgg225
 z164:=Tryz.sizeOf225
 v164:=Tryz.zeroValue225 }
theorem Tryz.Builder_Extra_165:Builder.Extra prog Tryz.lays165_ren:= {
 sizeBuilder:=by kernel_rfl
 liesBuilder:=by kernel_rfl
 t5:=underlying5
 a5:=Tryz.isAgg5
 z5:=Tryz.sizeOf5
 v5:=Tryz.zeroValue5
 infoByte:=by kernel_rfl
 cellsByte:=by kernel_rfl
 sizeByte:=by kernel_rfl
 neB5:=by decide }
open Go.RowKit in
theorem Tryz.Builder_Grow_fresh(B b n:Nat)(w:World)(hB:B≤b)(hbk:w.heap[b]? =some (.cells #[.pointer none,.slice none 0 0] 133 (0,0)))(hBw:B≤w.heap.size)(hn:n≤281474976710656):
 Calls prog 178 #[.pointer (some ⟨b,0,none⟩),.int .i64 n] w fun e w'=>e= .returned (.tuple #[])∧(Lib.BuilderAt 133 5 B b (.pointer (some ⟨b,0,none⟩)) [] w'∧Below B w w'):=Any.Builder_Grow_fresh Tryz.lays165 Tryz.Builder_Extra_165 B b n w hB hbk hBw hn
end Go.Proofs
