/- Facts. No condition. -/
import Derived.Test.YtkdohhmacfoolaaGreatDoorPgGA2
import Derived.Lib.SlBytesConst
set_option linter.unusedVariables false
set_option linter.unusedSimpArgs false
set_option maxRecDepth 20000
set_option maxHeartbeats 4000000
namespace Go.Proofs.YtkdohhmacfoolaaGreatDoor
open Go.Proofs.Tryz Go Go.AM
attribute [local irreducible] aY
@[go_sem] theorem bK1(i o:Nat):aI prog 61 (.adr i o) 0=some (.adr i (o+0)):=by kernel_rfl
@[go_sem] theorem bK7(i o:Nat):aI prog 61 (.adr i o) 1=some (.adr i (o+1)):=by kernel_rfl
@[go_sem] theorem bXa(H:aH)(x:AV)(xs:List AV):bT prog H 3 (.ptr (x::xs))=some x:=by kernel_rfl
def uJ(e_0:aE)(v_1:Int):Option (Int):=
 (bif (e_0.U==v_1) then
  some e_0.V
 else
  some e_0.U)
theorem aMy:K2 prog aFs vi vi 222 uJ:=fun hm=>be 13 func222 (h:=G)
instance:Ct prog 222 (K2 prog aFs vi vi 222 uJ):=⟨aMy⟩
attribute [local semireducible] aY
end Go.Proofs.YtkdohhmacfoolaaGreatDoor
set_option maxRecDepth 4000
namespace Go.AM
open Go.Proofs.Tryz Go Go.RowKit
attribute [local semireducible] aR KN aF8 yP AIn AWp dR
variable {P:Program}{B:Nat→Prop}
theorem St.Le.virt{s:St}(id sz:Nat)(hf:s.H.isFresh id=true):s.Le B ⟨s.n,s.f,s.H.put id (.cells sz [] 0)⟩:=by
 intro C ac w _ hr;obtain ⟨hd,O,hs,hv,ht⟩:=hr;obtain ⟨O',h1,h2,h3⟩:=hs.virt id sz (aH.isFresh_eq hf);exact ⟨hd,O',h1,⟨hv.1,fun j=>(hv.2 j).mono h2⟩,ht.trans h2⟩
theorem St.Le.nilcell{s:St}{q k i sz sz' lk:Nat}{xs:List AV}(hq:s.H.ent q= .cells sz xs lk)(hk:xs[k]? =some (.v (.slice none 0 0)))(hi:s.H.ent i= .cells sz' [] 0):
 s.Le B ⟨s.n,s.f,s.H.put q (.cells sz (xs.set k (.own i 0 0)) lk)⟩:=by
 intro C ac w _ hr;refine hr.swap (by rw [hq];rfl) fun O hs=>?_;have h0:=hs.ent q;have hi0:=hs.ent i;rw [hq] at h0;rw [hi] at hi0
 have key: ∀(w':World) (M:Nat→Nat→Prop) (x:Value),RV w' M O x (.v (.slice none 0 0))→RV w' M O x (.own i 0 0):=fun w' M x hx=>by
  rw [hx.v_inv];rcases hi0 with ⟨h1,_⟩|⟨o,h1,_⟩
  · exact .ownvirt none i 0 h1
  · exact .ownz none i 0 o h1
 rcases h0 with ⟨h1,h2,h3⟩|⟨o,h1,h2,h3,h4,h5,c,elem,fr,h6,h7,h8,h9⟩
 · subst h2;simp at hk
 ·
  refine .inr ⟨o,h1,h2,by rw [List.length_set];exact h3,h4,by rw [List.length_set];exact h5,c,elem,fr,h6,h7,h8,fun j a hj=>?_⟩
  by_cases e:k=j
  ·
   subst e;rw [List.getElem?_set] at hj;simp only [if_true] at hj;split at hj
   · cases hj;exact key _ _ _ (h9 k _ hk)
   · cases hj
  · rw [List.getElem?_set_ne e] at hj;exact h9 j a hj
theorem aXo{n N:Nat}{f:Nat→AV}{e:Nat→Ent}(q k i sz':Nat){sz:Nat}{xs ys:List AV}(hq:e q= .cells sz xs 0)(hk:xs[k]? =some (.v (.slice none 0 0)))(hf:aH.isFresh ⟨e,N⟩ i=true)(hy:xs.set k (.own i 0 0)=ys):
 (⟨n,f,⟨e,N⟩⟩:St).Le B ⟨n,f,⟨upd (upd e i (.cells sz' [] 0)) q (.cells sz ys 0),N⟩⟩:=by
 subst hy
 have hne:q≠i:=fun h=>by
  have:=aH.isFresh_eq hf;rw [←h] at this;have hq':(⟨e,N⟩:aH).ent q= .cells sz xs 0:=hq;rw [hq'] at this;cases this
 refine St.Le.trans (St.Le.virt (s:=⟨n,f,⟨e,N⟩⟩) i sz' hf) ?_;exact St.Le.nilcell (s:=⟨n,f,⟨upd e i (.cells sz' [] 0),N⟩⟩) (i:=i) (sz':=sz') (by show upd e i _ q=_;rw [upd_ne _ _ _ _ hne];exact hq) hk (by show upd e i _ i=_;exact upd_same ..)
theorem bHp{X:Nat→Nat→Prop}{w0 w:World}{H:aH}{O:Nat→OSt}(hs:Sim X w0 w H O){t elem:TypeId}{len id:Nat}{zs xs:List AV}{parts:Array (Nat×Value)}{az:List (Nat×AV)}(hu:P.underlying t=some (.slice elem))(h8:P.underlying elem=some (.int .u8))
 (hsz:aO P elem=some 1) (hz:zeroCells? P elem=some zs) (hf:H.isFresh id=true) (hmax:len*1≤16777216) (hl0:len≠0) (hzl:zs.length=1)
 (hlen:parts.size=az.length) (hp: ∀(k i:Nat) (a:AV),az[k]? =some (i,a)→ ∃x,parts[k]? =some (i,x)∧RV w (Mut X H O) O x a)
 (hfill:nP (fun i=>some (i*1,1)) (zeros len zs) az=some xs):
 ∃v w1 w2 O',(Instr.buildSlice t len parts).run P w= .ok v w1∧(convert t t v).run P w1= .ok v w2∧Sim X w0 w2 (H.put id (.cells 1 xs 0)) O'∧fQ w (Mut X H O) O w2 (Mut X (H.put id (.cells 1 xs 0)) O') O'∧RV w2 (Mut X (H.put id (.cells 1 xs 0)) O') O' v (.own id 0 len):=by
 obtain ⟨z,hz1,hz2,hz3⟩:=nO (w:=w) (M:=Mut X H O) (O:=O) hz;obtain ⟨hzz,hzg⟩:=aPc (n:=len) hz2 hz3 (m:=len*1) (by rw [hzl];exact Nat.le_refl _);have h0: ¬len*1=0:=by omega
 obtain ⟨c',h1,h2,h3⟩:=aB5 (place:=fun i=>some (i*1,1)) (ps:=parts.toList) (c:=(Array.range (len*1)).map (z.cells[· %z.cells.size]!)) (by simpa using hlen)
  (fun k i a hk=>by simpa using hp k i a hk) (by rw [hzz,hzl];simp) hzg hfill
 have hxl:xs.length=len*1:=by
  have: ∀ {az:List (Nat×AV)} {cells r:List AV},nP (fun i=>some (i*1,1)) cells az=some r→r.length=cells.length:=by
   intro az
   induction az with
   |nil=>intro cells r h;cases h;rfl
   |cons p az ih=>
    intro cells r h;obtain ⟨i,a⟩:=p;unfold nP at h;split at h
    ·
     split at h
     · cases h
     · rename_i hb;rw [ih h];have: ¬_:=fun h=>hb (.inr h);simp;omega
    · cases h
  rw [this hfill,hzz,hzl]
 obtain ⟨O',h4,h5,h6⟩:=hs.new id (aH.isFresh_eq hf) c' elem 1 xs (.cells c' elem (c'.size,c'.size+1)) (w':=w.alloc (.cells c' elem (c'.size,c'.size+1))) rfl rfl rfl rfl (c'.size,c'.size+1) rfl (fun i hi h=>by simp at h;omega) om h3;refine ⟨.slice (some ⟨w.heap.size,0,none⟩) len len,w.alloc (.cells c' elem),_,O',?_,Lib.run_convert_bytes_const w t elem c' len len hu h8,h4,h5,?_⟩
 · simp only [Instr.buildSlice,Sem.run_bind,run_underlying hu,Result.andThen_ok,run_sizeOf hsz];rw [if_neg (by show ¬len*1>2^24;omega),if_neg h0];simp only [Sem.run_bind,Sem.run_pure,Result.andThen_ok,kB hz1];rw [h1];simp [newRow]
 ·
  have:=RV.own (w:=w.alloc (.cells c' elem (c'.size,c'.size+1))) (M:=Mut X (H.put id (.cells 1 xs 0)) O') id 0 len len _ h6 (Nat.le_refl _) (by simp;omega)
  simpa using this
theorem AWp.regL(l:List Int){rid:Nat}{d1 d2:Tmp}{t elem ty1 ty2:TypeId}{pos1 pos2:String}{af1 af2:Array Edge}{len n N N':Nat}{f:Nat→AV}{e:Nat→Ent}{zs:List AV}{parts:Array (Nat×Operand)}{ps:List (Nat×AV)}{rest:List Oper}{Q:Exit→St→Prop}
 (hd1:decide (d1<n)=true) (hd2:decide (d2<n)=true) (hu:P.underlying t=some (.slice elem)) (h8:P.underlying elem=some (.int .u8)) (hsz:aO P elem=some 1) (hz:zeroCells? P elem=some zs) (hf:aH.isFresh ⟨e,N⟩ N=true)
 (hmax:len*1≤16777216) (hl0:len≠0) (hzl:zs.length=1) (hps:parts.toList.map (fun (i,x)=>(i,aval f x))=ps) (hfill:nP (fun i=>some (i*1,1)) (zeros len zs) ps=some (l.flatMap (ci .u8))) (hll:len=l.length) (hN:N+64=N')
 (h:aR P false (⟨some d1,.buildSlice t len parts,ty1,pos1,af1,none⟩::⟨some d2,.convert t t (.tmp d1),ty2,pos2,af2,none⟩::rest).toArray N 2 rest (KN Q N') ⟨n,aF (aF f d1 .any) d2 (.own N 0 l.length),⟨upd e N (.cells 1 (l.flatMap (ci .u8)) 0),N⟩⟩):
 AWp P B (.region rid (⟨some d1,.buildSlice t len parts,ty1,pos1,af1,none⟩::⟨some d2,.convert t t (.tmp d1),ty2,pos2,af2,none⟩::rest).toArray false) Q ⟨n,f,⟨e,N⟩⟩:=by
 subst hN hps;rw [←hll] at h;have hd1:=of_decide_eq_true hd1;have hd2:=of_decide_eq_true hd2;intro C a w hb hr;obtain ⟨hd,O,hs,hv,ht⟩:=hr;refine wp_region_lit ?_
 obtain ⟨v,w1,w2,O',r1,r2,h4,h5,h6⟩:=bHp (P:=P) hs (t:=t) (elem:=elem) (len:=len) (id:=N) (zs:=zs) (xs:=l.flatMap (ci .u8)) (parts:=parts.map fun (i,x)=>(i,a.eval x)) (az:=parts.toList.map fun (i,x)=>(i,aval f x)) hu h8 hsz hz hf hmax hl0 hzl (by simp) (fun k i b hk=>by
  simp only [List.getElem?_map,Option.map_eq_some_iff] at hk;obtain ⟨⟨i',x⟩,hx,he⟩:=hk;simp at he;obtain ⟨rfl,rfl⟩:=he;exact ⟨a.eval x,by simp at hx;simp [hx],hv.aval x⟩) hfill
 have dn:a.tmps.size=n:=hv.1;have ev:(a.put (some d1) v).eval (.tmp d1)=v:=by simp [Act.put,Act.eval,dn,hd1]
 have real:Real C ⟨n,aF (aF f d1 .any) d2 (.own N 0 len),⟨upd e N (.cells 1 (l.flatMap (ci .u8)) 0),N⟩⟩ ((a.put (some d1) v).put (some d2) v) w2:=by
  refine ⟨hd,O',h4,?_,ht.trans h5⟩;exact ((hv.mono h5).put (some d1) hd1 (.any v)).put (some d2) hd2 h6
 unfold wpList;rw [if_pos (by rfl)];refine .inl ?_;unfold Oper.wp;simp only [execOp];rw [lY r1];rw [Oper.upon_value];unfold wpList;rw [if_pos (by rfl)];refine .inl ?_;unfold Oper.wp;simp only [execOp];rw [ev,lY r2];rw [Oper.upon_value];exact aLa rest 2 _ _ _ _ h real fun s' a' w' hk hr'=>⟨_,hr'.nxt _,hk⟩
theorem aKu{e:Nat→Ent}{J:Nat}(h:aH.isFresh ⟨e,0⟩ J=true):e J= .fresh:=aH.isFresh_eq h
theorem bVn: ∀id,3000000≤id→aZ id= .fresh:=fun _ _=>rfl
theorem bO7{e:Nat→Ent}{i:Nat}{x:Ent}(h: ∀id,3000000≤id→e id= .fresh)(hi:i<3000000): ∀id,3000000≤id→upd e i x id= .fresh:=fun id hid=>by rw [upd_ne _ _ _ _ om];exact h id hid
def aF9:Ent→Prop
  | .cells _ xs l=>l≤xs.length∧ ∀a,a∈xs→Data a
  |_=>True
theorem bV9: ∀id,aF9 (aZ id):=fun _=>trivial
theorem sR{e:Nat→Ent}{i:Nat}{x:Ent}(hx:aF9 x)(h: ∀id,aF9 (e id)): ∀id,aF9 (upd e i x id):=fun id=>by
 by_cases c:id=i
 · subst c;rw [upd_same];exact hx
 · rw [upd_ne _ _ _ _ c];exact h id
theorem aI3{α:Type}{c:α→List AV}{sz:Nat}(h:CF c sz){l:List α} :aF9 (.cells sz (l.flatMap c) 0):=⟨Nat.zero_le _,fun a ha=>by
 obtain ⟨x,_,hx⟩:=List.mem_flatMap.1 ha;exact h.dat x a hx⟩
theorem bWn{e:Nat→Ent}{j:Nat}(h: ∀id,aF9 (e id)): ∀id,id≠j→aF9 (e id):=fun id _=>h id
theorem bZ6{α:Type}{c:α→List AV}{sz:Nat}[h:CC c sz]{l:List α} :aF9 (.cells sz (l.flatMap c) 0):=aI3 h.h
theorem KF{e:Nat→Ent}(h: ∀id,3000000≤id→e id= .fresh:=by (repeat (first|exact bVn|refine bO7 ?_ (by decide)));done): ∀id,3000000≤id→e id= .fresh:=h
theorem DF{e:Nat→Ent}{j:Nat}(h: ∀id,aF9 (e id):=by (repeat (first|exact bV9|refine sR trivial ?_|refine sR bZ6 ?_|refine sR ⟨Nat.zero_le _,DS⟩ ?_));done): ∀id,id≠j→aF9 (e id):=bWn h
theorem aR.callA{ops:Array Oper}{base i n d:Nat}{rest:List Oper}{K:St→Prop}{t:Nat→AV}{e e':Nat→Ent}{N:Nat}{ty:TypeId}{pos:String}{after:Array Edge}{r:AV}(hd:d<n){f:Operand}{args:Array Operand}{ats:Array TypeId}{g:FuncId}{args':List AV}
 (hf:aval t f= .clo (.func g) [] []) (hb:(P.funcs[g]?).any (fun fn=>fn.body.isSome&&fn.name != "runtime.NumGoroutine")=true) (ha:args.toList.map (aval t)=args')
 (hc:eK P g args' ⟨e,N⟩ r ⟨e',N⟩) (k:aR P false ops base (i+1) rest K ⟨n,aF t d r,⟨e',N⟩⟩):
 aR P false ops base i (⟨some d,.call { callee:= .value f,args:=args,argTypes:=ats },ty,pos,after,none⟩::rest) K ⟨n,t,⟨e,N⟩⟩:=
 aR.call hd hf hb (by rw [List.nil_append,List.append_nil,ha];exact hc) k
end Go.AM
set_option maxRecDepth 20000
namespace Go.Proofs.YtkdohhmacfoolaaGreatDoor
open Go.Proofs.Tryz Go Go.AM
def mvd(J I:Nat):Nat→Nat:=fun id=>if id=J then I else id
def Bmv(J:Nat):Nat→Prop:=fun id=>id<3000000∧id≠J
theorem bNy{h0 e1:Nat→Ent}{J I N N' sz:Nat}{xs:List AV}(hI:(h0 I).live=false∨I=J)(h1:e1 I= .cells sz xs 0)(h2: ∀id,id<3000000→id≠J→h0 id= .dead∨e1 id=h0 id)(h3: ∀id,3000000≤id→h0 id= .fresh)
 (hD: ∀id,id≠J→aF9 (h0 id)) (hx: ∀a,a∈xs→AM.Data a):aAc (Bmv J) ⟨e1,N⟩ ⟨upd h0 J (.cells sz xs 0),N'⟩ (mvd J I):=by
 have hl: ∀id,(h0 id).live=true→id<3000000:=fun id hid=>by
  rcases Nat.lt_or_ge id 3000000 with h|h
  · exact h
  · rw [h3 id h] at hid;cases hid
 refine ⟨fun id=>?_,fun i j hi hj hij=>?_,fun id hid=>?_⟩
 ·
  show lX _ _ _ id (upd h0 J _ id)
  by_cases c:id=J
  · subst c;rw [upd_same];exact oE (H:=⟨e1,N⟩) (by show e1 (mvd id I id)=_;rw [show mvd id I id=I from if_pos rfl];exact h1) (Nat.le_refl _) (Nat.zero_le _) hx
  ·
   rw [upd_ne _ _ _ _ c];have hr:mvd J I id=id:=if_neg c
   cases he:h0 id with
   |fresh=>trivial
   |dead=>trivial
   |cells s ys l=>
    have hlt:=hl id (by rw [he];rfl);have he1:e1 id= .cells s ys l:=by rcases h2 id hlt c with h|h<;>rw [he] at h;cases h;exact h
    have hd:=hD id c;rw [he] at hd;exact oE (H:=⟨e1,N⟩) (by show e1 (mvd J I id)=_;rw [hr];exact he1) (Nat.le_refl _) hd.1 hd.2
   |iter s p=>
    have hlt:=hl id (by rw [he];rfl);have he1:e1 id= .iter s p:=by rcases h2 id hlt c with h|h<;>rw [he] at h;cases h;exact h
    show e1 (mvd J I id)=_;rw [hr];exact he1
   |hid s p=>
    have hlt:=hl id (by rw [he];rfl);have he1:e1 id= .hid s p:=by rcases h2 id hlt c with h|h<;>rw [he] at h;cases h;exact h
    show e1 (mvd J I id)=_;rw [hr];exact he1
 ·
  have key: ∀i,i≠J→(upd h0 J (.cells sz xs 0) i).live=true→i≠I:=fun i hiJ hi e=>by
   rw [upd_ne _ _ _ _ hiJ,e] at hi;rcases hI with h|h
   · rw [h] at hi;cases hi
   · exact hiJ (e.trans h)
  unfold mvd at hij;split at hij<;>split at hij
  · rename_i a b;rw [a,b]
  · rename_i a b;exact absurd hij.symm (key j b hj)
  · rename_i a b;exact absurd hij (key i a hi)
  · exact hij
 ·
  refine ⟨if_neg hid.2,fun hf=>?_⟩;have hf:upd h0 J (.cells sz xs 0) id= .fresh:=hf;rw [upd_ne _ _ _ _ hid.2] at hf;show e1 id= .fresh;rcases h2 id hid.1 hid.2 with h|h
  · rw [hf] at h;cases h
  · rw [h];exact hf
theorem aAc.same{B:Nat→Prop}{e:Nat→Ent}{N N':Nat}(hD: ∀id,aF9 (e id)):aAc B ⟨e,N⟩ ⟨e,N'⟩ id:=by
 refine ⟨fun i=>?_,fun _ _ _ _ h=>h,fun _ _=>⟨rfl,fun h=>h⟩⟩;have hd:=hD i;show lX _ _ _ i (e i)
 cases he:e i with
 |fresh=>trivial
 |dead=>trivial
 |cells s ys l=>
  rw [he] at hd;exact oE (H:=⟨e,N⟩) he (Nat.le_refl _) hd.1 hd.2
 |iter s p=>exact he
 |hid s p=>exact he
def aAy:Nat→List Int→Int→Int→Int→Option (List Int)
  |0=>fun _ _ _ _=>none
  |m+1=>fun b n k i=>(bif decide (i<k) then ((app b [IntKind.u8.wrap n]).bind fun x=>aAy m x (shr .u64 n 8) k (IntKind.i64.wrap (i+1))) else some b)
def lQ(b:List Int)(n k:Int):Option (List Int):=aAy aY b n k 0
theorem sA{b:List Int}{n k:Int}{r:List Int}(hm:lQ b n k=some r){e:Nat→Ent}{N j J:Nat}(he:e j= .cells 1 (b.flatMap (ci .u8)) 0)(hJ:e J= .fresh)(hj3:j<3000000)(hJ3:J<3000000)
 (hK: ∀id,3000000≤id→e id= .fresh) (hD: ∀id,id≠j→aF9 (e id)):
 eK prog 42 [.own j 0 b.length,vu n,vi k] ⟨e,N⟩ (.own J 0 r.length) ⟨upd (upd e j .dead) J (.cells 1 (r.flatMap (ci .u8)) 0),N⟩:=by
 have hjJ:j≠J:=fun h=>by rw [←h,he] at hJ;cases hJ
 have hx: ∀l:List Int,∀a,a∈l.flatMap (ci .u8)→AM.Data a:=fun l a ha=>by
  obtain ⟨x,_,hx⟩:=List.mem_flatMap.1 ha;exact (CFi .u8).dat x a hx
 refine eK.of_body (B:=Bmv J) func42 rfl (fun id hid=>?_) ?_
 ·
  by_cases c:id=J
  · subst c;exact hJ
  · exact hK id (by rcases Nat.lt_or_ge id 3000000 with h|h;exact absurd ⟨h,c⟩ hid;exact h)
 simp only [ntmps42,List.length_cons,List.length_nil,Nat.reduceAdd,Nat.reduceSub];obtain ⟨h0,hh0⟩: ∃h0,h0=upd e j .dead:=⟨_,rfl⟩
 have hq3: ∀id,3000000≤id→h0 id= .fresh:=fun id h=>by rw [hh0,upd_ne _ _ _ _ om];exact hK id h
 have hq4: ∀id,id≠J→aF9 (h0 id):=fun id _=>by
  rw [hh0]
  by_cases c:id=j
  · subst c;rw [upd_same];trivial
  · rw [upd_ne _ _ _ _ c];exact hD id c
 rw [←hh0];refine AWp.weaken (s':=⟨19,aF (aF (aF fa 0 (.own J 0 b.length)) 1 (vu n)) 2 (vi k),⟨upd h0 J (.cells 1 (b.flatMap (ci .u8)) 0),3000000⟩⟩) (cP (mvd J j) ?_ (bNy (.inl (by rw [hh0,upd_same];rfl)) he (fun id _ hid=>?_) hq3 hq4 (hx b))) ?_
 · exact xV (xV (bH _ _ (jG (by rfl) rfl (if_pos rfl) (by simp [upd])) dN))
 ·
  rw [hh0]
  by_cases c:id=j
  · subst c;exact .inl (upd_same ..)
  · exact .inr (upd_ne _ _ _ _ c).symm
 unfold lQ at hm;refine W ?_;refine lp (fun m s=> ∃(b:List Int) (n i:Int),s=⟨19,aF (aF (aF (aF fa 0 (.own J 0 b.length)) 1 (vu n)) 7 (vi k)) 8 (vi i),⟨upd h0 J (.cells 1 (b.flatMap (ci .u8)) 0),3000000⟩⟩∧aAy m b n k i=some r) ?_ ?_
 ·
  refine ⟨_,cP id ?_ (aAc.same ?_),b,n,0,rfl,hm⟩
  · exact xV (xV (xV (bH _ _ (jG (by rfl) rfl rfl (by simp [upd])) dN)))
  ·
   intro id;show aF9 (upd h0 J _ id)
   by_cases c:id=J
   · subst c;rw [upd_same];exact ⟨Nat.zero_le _,hx b⟩
   · rw [upd_ne _ _ _ _ c];exact hq4 id c
 rintro m s ⟨b,n,i,rfl,hm⟩;replace hm:(bif decide (i<k) then ((app b [IntKind.u8.wrap n]).bind fun x=>aAy m x (shr .u64 n 8) k (IntKind.i64.wrap (i+1))) else some b)=some r:=hm;refine W ?_;refine cm hm (fun hm=>?_) fun hm=>?_
 ·
  obtain ⟨x,h1,hm⟩:=bnd hm;refine W ?_
  have hfr: ∀(xs:List AV) (N id:Nat),3000000≤id→aH.isFresh ⟨upd h0 J (.cells 1 xs 0),N⟩ id=true:=fun xs N id h=>by
   show (match upd h0 J _ id with| .fresh=>true|_=>false)=true;rw [upd_ne _ _ _ _ om,hq3 id h]
  have hne:J≠3000067:=by omega
  refine aL (CFi .u8) [IntKind.u8.wrap n] (hz:=zc5) (hf:=hfr _ _ _ (by decide)) ?_;refine hp (id:=3000068) rfl rfl (xH (CFi .u8) (l:=b) underlying91 underlying91 rfl in5 ts5 (by rw [tb5];decide) (by rw [tb5];decide) rfl rfl (by decide) Z1 (by rw [upd_ne _ _ _ _ hne];exact upd_same ..) rfl (aAg (xs:=[IntKind.u8.wrap n]) (CFi .u8) Z1 (upd_same ..) rfl) rfl (by rw [dV];exact hfr _ _ _ (by decide)) h1) ?_;refine W ?_
  have he1: ∀id,id<3000000→id≠J→(upd (upd (upd (upd h0 J (.cells 1 (b.flatMap (ci .u8)) 0)) 3000067 (.cells 1 ([IntKind.u8.wrap n].flatMap (ci .u8)) 0)) J .dead) 3000068 (.cells 1 (x.flatMap (ci .u8)) 0)) id=h0 id:=fun id h h'=>by
   rw [upd_ne _ _ _ _ om,upd_ne _ _ _ _ h',upd_ne _ _ _ _ om,upd_ne _ _ _ _ h']
  refine ⟨_,cP (mvd J 3000068) ?_ (bNy (.inl (by rw [hq3 _ (by decide)];rfl)) (upd_same ..) (fun id h h'=> .inr (he1 id h h')) hq3 hq4 (hx x)),x,shr .u64 n 8,IntKind.i64.wrap (i+1),rfl,hm⟩;exact xV (xV (xV (bH _ _ (jG Y1 rfl (if_pos rfl) (by simp [upd])) dN)))
 · refine W ?_;cases hm;exact ⟨.inr rfl,rfl,rfl⟩
end Go.Proofs.YtkdohhmacfoolaaGreatDoor
