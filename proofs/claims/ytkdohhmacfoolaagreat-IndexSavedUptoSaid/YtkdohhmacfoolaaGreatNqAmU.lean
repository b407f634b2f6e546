/- Facts. No condition. -/
import Derived.Test.YtkdohhmacfoolaaGreatNqAmS
set_option linter.unusedVariables false
set_option linter.unusedSimpArgs false
set_option maxRecDepth 20000
set_option maxHeartbeats 4000000
namespace Go.Proofs.YtkdohhmacfoolaaGreat
open Go.Proofs.Tryz Go Go.AM
def mvd(J I:Nat):Nat→Nat:=fun id=>if id=J then I else id
def Bmv(J:Nat):Nat→Prop:=fun id=>id<3000000∧id≠J
theorem bO2{h0 e1:Nat→Ent}{J I N N' sz:Nat}{xs:List AV}(hI:(h0 I).live=false∨I=J)(h1:e1 I= .cells sz xs 0)(h2: ∀id,id<3000000→id≠J→h0 id= .dead∨e1 id=h0 id)(h3: ∀id,3000000≤id→h0 id= .fresh)
 (hD: ∀id,id≠J→aDl (h0 id)) (hx: ∀a,a∈xs→AM.Data a):aC3 (Bmv J) ⟨e1,N⟩ ⟨upd h0 J (.cells sz xs 0),N'⟩ (mvd J I):=by
 have hl: ∀id,(h0 id).live=true→id<3000000:=fun id hid=>by
  rcases Nat.lt_or_ge id 3000000 with h|h
  · exact h
  · rw [h3 id h] at hid;cases hid
 refine ⟨fun id=>?_,fun i j hi hj hij=>?_,fun id hid=>?_⟩
 ·
  show rD _ _ _ id (upd h0 J _ id)
  by_cases c:id=J
  · subst c;rw [upd_same];exact sL (H:=⟨e1,N⟩) (by show e1 (mvd id I id)=_;rw [show mvd id I id=I from if_pos rfl];exact h1) (Nat.le_refl _) (Nat.zero_le _) hx
  ·
   rw [upd_ne _ _ _ _ c];have hr:mvd J I id=id:=if_neg c
   cases he:h0 id with
   |fresh=>trivial
   |dead=>trivial
   |cells s ys l=>
    have hlt:=hl id (by rw [he];rfl);have he1:e1 id= .cells s ys l:=by rcases h2 id hlt c with h|h<;>rw [he] at h;cases h;exact h
    have hd:=hD id c;rw [he] at hd;exact sL (H:=⟨e1,N⟩) (by show e1 (mvd J I id)=_;rw [hr];exact he1) (Nat.le_refl _) hd.1 hd.2
   |iter s p=>
    have hlt:=hl id (by rw [he];rfl);have he1:e1 id= .iter s p:=by rcases h2 id hlt c with h|h<;>rw [he] at h;cases h;exact h
    show e1 (mvd J I id)=_;rw [hr];exact he1
   |hid s p=>
    have hlt:=hl id (by rw [he];rfl);have he1:e1 id= .hid s p:=by rcases h2 id hlt c with h|h<;>rw [he] at h;cases h;exact h
    show e1 (mvd J I id)=_;rw [hr];exact he1
 ·
  have key: ∀i,i≠J→(upd h0 J (.cells sz xs 0) i).live=true→i≠I:=fun i hiJ hi e=>by
   rw [upd_ne _ _ _ _ hiJ,e] at hi;rcases hI with h|h
   · rw [h] at hi;cases hi
   · exact hiJ (e.trans h)
  unfold mvd at hij;split at hij<;>split at hij
  · rename_i a b;rw [a,b]
  · rename_i a b;exact absurd hij.symm (key j b hj)
  · rename_i a b;exact absurd hij (key i a hi)
  · exact hij
 ·
  refine ⟨if_neg hid.2,fun hf=>?_⟩;have hf:upd h0 J (.cells sz xs 0) id= .fresh:=hf;rw [upd_ne _ _ _ _ hid.2] at hf;show e1 id= .fresh;rcases h2 id hid.1 hid.2 with h|h
  · rw [hf] at h;cases h
  · rw [h];exact hf
theorem aC3.same{B:Nat→Prop}{e:Nat→Ent}{N N':Nat}(hD: ∀id,aDl (e id)):aC3 B ⟨e,N⟩ ⟨e,N'⟩ id:=by
 refine ⟨fun i=>?_,fun _ _ _ _ h=>h,fun _ _=>⟨rfl,fun h=>h⟩⟩;have hd:=hD i;show rD _ _ _ i (e i)
 cases he:e i with
 |fresh=>trivial
 |dead=>trivial
 |cells s ys l=>
  rw [he] at hd;exact sL (H:=⟨e,N⟩) he (Nat.le_refl _) hd.1 hd.2
 |iter s p=>exact he
 |hid s p=>exact he
def aCl:Nat→List Int→Int→Int→Int→Option (List Int)
  |0=>fun _ _ _ _=>none
  |m+1=>fun b n k i=>(bif decide (i<k) then ((app b [IntKind.u8.wrap n]).bind fun x=>aCl m x (shr .u64 n 8) k (IntKind.i64.wrap (i+1))) else some b)
def qE(b:List Int)(n k:Int):Option (List Int):=aCl aZ b n k 0
theorem vP{b:List Int}{n k:Int}{r:List Int}(hm:qE b n k=some r){e:Nat→Ent}{N j J:Nat}(he:e j= .cells 1 (b.flatMap (ci .u8)) 0)(hJ:e J= .fresh)(hj3:j<3000000)(hJ3:J<3000000)
 (hK: ∀id,3000000≤id→e id= .fresh) (hD: ∀id,id≠j→aDl (e id)):
 dR prog 110 [.own j 0 b.length,vu n,vi k] ⟨e,N⟩ (.own J 0 r.length) ⟨upd (upd e j .dead) J (.cells 1 (r.flatMap (ci .u8)) 0),N⟩:=by
 have hjJ:j≠J:=fun h=>by rw [←h,he] at hJ;cases hJ
 have hx: ∀l:List Int,∀a,a∈l.flatMap (ci .u8)→AM.Data a:=fun l a ha=>by
  obtain ⟨x,_,hx⟩:=List.mem_flatMap.1 ha;exact (CFi .u8).dat x a hx
 refine dR.of_body (B:=Bmv J) func110 rfl (fun id hid=>?_) ?_
 ·
  by_cases c:id=J
  · subst c;exact hJ
  · exact hK id (by rcases Nat.lt_or_ge id 3000000 with h|h;exact absurd ⟨h,c⟩ hid;exact h)
 simp only [ntmps110,List.length_cons,List.length_nil,Nat.reduceAdd,Nat.reduceSub];obtain ⟨h0,hh0⟩: ∃h0,h0=upd e j .dead:=⟨_,rfl⟩
 have hq3: ∀id,3000000≤id→h0 id= .fresh:=fun id h=>by rw [hh0,upd_ne _ _ _ _ om];exact hK id h
 have hq4: ∀id,id≠J→aDl (h0 id):=fun id _=>by
  rw [hh0]
  by_cases c:id=j
  · subst c;rw [upd_same];trivial
  · rw [upd_ne _ _ _ _ c];exact hD id c
 rw [←hh0];refine AWp.weaken (s':=⟨19,aG (aG (aG fa 0 (.own J 0 b.length)) 1 (vu n)) 2 (vi k),⟨upd h0 J (.cells 1 (b.flatMap (ci .u8)) 0),3000000⟩⟩) (jL (mvd J j) ?_ (bO2 (.inl (by rw [hh0,upd_same];rfl)) he (fun id _ hid=>?_) hq3 hq4 (hx b))) ?_
 · exact xV (xV (dD _ _ (nG (by rfl) rfl (if_pos rfl) (by simp [upd])) mF))
 ·
  rw [hh0]
  by_cases c:id=j
  · subst c;exact .inl (upd_same ..)
  · exact .inr (upd_ne _ _ _ _ c).symm
 unfold qE at hm;refine W ?_;refine lp (fun m s=> ∃(b:List Int) (n i:Int),s=⟨19,aG (aG (aG (aG fa 0 (.own J 0 b.length)) 1 (vu n)) 7 (vi k)) 8 (vi i),⟨upd h0 J (.cells 1 (b.flatMap (ci .u8)) 0),3000000⟩⟩∧aCl m b n k i=some r) ?_ ?_
 ·
  refine ⟨_,jL id ?_ (aC3.same ?_),b,n,0,rfl,hm⟩
  · exact xV (xV (xV (dD _ _ (nG (by rfl) rfl rfl (by simp [upd])) mF)))
  ·
   intro id;show aDl (upd h0 J _ id)
   by_cases c:id=J
   · subst c;rw [upd_same];exact ⟨Nat.zero_le _,hx b⟩
   · rw [upd_ne _ _ _ _ c];exact hq4 id c
 rintro m s ⟨b,n,i,rfl,hm⟩;replace hm:(bif decide (i<k) then ((app b [IntKind.u8.wrap n]).bind fun x=>aCl m x (shr .u64 n 8) k (IntKind.i64.wrap (i+1))) else some b)=some r:=hm;refine W ?_;refine cm hm (fun hm=>?_) fun hm=>?_
 ·
  obtain ⟨x,h1,hm⟩:=bnd hm;refine W ?_
  have hfr: ∀(xs:List AV) (N id:Nat),3000000≤id→aM.isFresh ⟨upd h0 J (.cells 1 xs 0),N⟩ id=true:=fun xs N id h=>by
   show (match upd h0 J _ id with| .fresh=>true|_=>false)=true;rw [upd_ne _ _ _ _ om,hq3 id h]
  have hne:J≠3000067:=by omega
  refine aL (CFi .u8) [IntKind.u8.wrap n] (hz:=zc5) (hf:=hfr _ _ _ (by decide)) ?_;refine hp (id:=3000068) rfl rfl (aEu (CFi .u8) (l:=b) underlying172 underlying172 rfl in5 ts5 (by rw [tb5];decide) (by rw [tb5];decide) rfl rfl (by decide) Z1 (by rw [upd_ne _ _ _ _ hne];exact upd_same ..) rfl (aHt (xs:=[IntKind.u8.wrap n]) (CFi .u8) Z1 (upd_same ..) rfl) rfl (by rw [fZ];exact hfr _ _ _ (by decide)) h1) ?_;refine W ?_
  have he1: ∀id,id<3000000→id≠J→(upd (upd (upd (upd h0 J (.cells 1 (b.flatMap (ci .u8)) 0)) 3000067 (.cells 1 ([IntKind.u8.wrap n].flatMap (ci .u8)) 0)) J .dead) 3000068 (.cells 1 (x.flatMap (ci .u8)) 0)) id=h0 id:=fun id h h'=>by
   rw [upd_ne _ _ _ _ om,upd_ne _ _ _ _ h',upd_ne _ _ _ _ om,upd_ne _ _ _ _ h']
  refine ⟨_,jL (mvd J 3000068) ?_ (bO2 (.inl (by rw [hq3 _ (by decide)];rfl)) (upd_same ..) (fun id h h'=> .inr (he1 id h h')) hq3 hq4 (hx x)),x,shr .u64 n 8,IntKind.i64.wrap (i+1),rfl,hm⟩;exact xV (xV (xV (dD _ _ (nG Y1 rfl (if_pos rfl) (by simp [upd])) mF)))
 · refine W ?_;cases hm;exact ⟨.inr rfl,rfl,rfl⟩
end Go.Proofs.YtkdohhmacfoolaaGreat
set_option maxRecDepth 4000
namespace Go.AM
open Go.Proofs.Tryz Go Go.RowKit
attribute [local semireducible] aI KN aGl aAr AIn AWp gJ
def BK:Nat→Prop:=fun id=>id<3000000
section
variable {P:Program}
theorem aR2{fn:Func}{e:Exit}{a b n N:Nat}{f:Nat→AV}{x y:AV}{h h':Nat→Ent}(he:e= .normal∨e= .ret)(hr:fn.results= #[.tmp a,.tmp b])(h1:aval f (.tmp a)=x)(h2:aval f (.tmp b)=y)(hh:h=h'):
 (e= .normal∨e= .ret)∧aC1 P fn ⟨n,f,⟨h,N⟩⟩=some (.tup [x,y])∧(⟨n,f,⟨h,N⟩⟩:St).H.ent=h':=⟨he,by rw [bTs hr];exact congrArg some (by rw [show aval (⟨n,f,⟨h,N⟩⟩:St).f (.tmp a)=x from h1,show aval (⟨n,f,⟨h,N⟩⟩:St).f (.tmp b)=y from h2]),hh⟩
theorem dR.of_bodyK{f:FuncId}{fn:Func}{c:Code}{args:List AV}{H:aM}{r:AV}{i0:Nat}{x y:Ent}(hf:P.funcs[f]? =some fn)(hb:fn.body=some c)(he:H.ent i0=x)(hk: ∀id,3000000≤id→H.ent id= .fresh)
 (h:AWp P BK c (fun e s=>(e= .normal∨e= .ret)∧aC1 P fn s=some r∧s.H.ent=upd H.ent i0 y) ⟨args.length+(fn.ntmps-args.length),aLh args,⟨upd H.ent i0 x,3000000⟩⟩):dR P f args H r (H.put i0 y):=by
 refine dR.of_body (B:=BK) hf hb (fun id hid=>hk id (Nat.le_of_not_lt hid)) ?_
 have e:upd H.ent i0 x=H.ent:=by
  funext j;unfold upd;split
  · rename_i h';subst h';exact he.symm
  · rfl
 rw [e] at h;exact AWp.weaken St.Le.nxt h
theorem AWp.behind{B:Nat→Prop}{c:Code}{Q:Exit→St→Prop}{s:St}(h:AWp P B c (fun e s=> ∃s',s.Le B s'∧Q e s') s):AWp P B c Q s:=by
 unfold AWp at h⊢;intro C a w hb hr;refine wp_mono (h C a w hb hr) ?_;rintro e a' w' ⟨s',hr',s'',hle,hq⟩;exact ⟨s'',hle C a' w' hb hr',hq⟩
theorem bOx{n N N':Nat}{f:Nat→AV}{e e':Nat→Ent}(h1: ∀id,id<3000000→e id=e' id)(h2: ∀id,3000000≤id→e' id= .fresh)(hD: ∀id,aDl (e' id)):
 (⟨n,f,⟨e,N⟩⟩:St).Le BK ⟨n,fun _=> .any,⟨e',N'⟩⟩:=by
 refine St.Le.weak (s:=⟨n,f,⟨e,N⟩⟩) (s':=⟨n,fun _=> .any,⟨e',N'⟩⟩) id ⟨fun i=>?_,fun _ _ _ _ h=>h,fun i hi=>⟨rfl,fun h=>?_⟩⟩ rfl fun _=> .any _
 ·
  show rD _ _ _ i (e' i);rcases Nat.lt_or_ge i 3000000 with hi|hi
  ·
   have hd:=hD i;have he:=h1 i hi
   cases hx:e' i with
   |fresh=>trivial
   |dead=>trivial
   |cells s ys l=>
    rw [hx] at hd he;exact sL (H:=⟨e,N⟩) he (Nat.le_refl _) hd.1 hd.2
   |iter s p=>rw [hx] at he;exact he
   |hid s p=>rw [hx] at he;exact he
  · rw [h2 i hi];trivial
 · show e i= .fresh;rw [h1 i hi];exact h
theorem aJe{fn:Func}{e:Exit}{n N:Nat}{f:Nat→AV}{h h':Nat→Ent}(he:e= .normal∨e= .ret)(hr:fn.results= #[])(h1: ∀id,id<3000000→h id=h' id)(h2: ∀id,3000000≤id→h' id= .fresh)(hD: ∀id,aDl (h' id)):
 ∃s',(⟨n,f,⟨h,N⟩⟩:St).Le BK s'∧(e= .normal∨e= .ret)∧aC1 P fn s'=some (.tup [])∧s'.H.ent=h':=
 ⟨⟨n,fun _=> .any,⟨h',N⟩⟩,bOx h1 h2 hD,he,by unfold aC1;rw [hr];rfl,rfl⟩
theorem frK{h0:Nat→Ent}{N j:Nat}(hk: ∀id,3000000≤id→h0 id= .fresh)(hj:3000000≤j):aM.isFresh ⟨h0,N⟩ j=true:=by
 simp only [aM.isFresh,hk j hj]
end
end Go.AM
