/- Facts. No condition. -/
import Derived.Test.YtkdohhmacfoolaaGreatDoorPgAmK
set_option linter.unusedVariables false
set_option linter.unusedSimpArgs false
set_option maxRecDepth 20000
set_option maxHeartbeats 4000000
namespace Go.Proofs.YtkdohhmacfoolaaGreatDoor
open Go.Proofs.Tryz Go Go.AM Go.Pl
def cS(ls:List (List Int)):List AV:=(List.range ls.length).map fun x=> .own (1000000+x) 0 (ls.getD x []).length
def eS(ls:List (List Int)):Nat→Ent:=fun j=>if 1000000≤j then (match ls[j-1000000]? with|some l=> .cells 1 (l.flatMap (ci .i64)) l.length|none=> .fresh) else .fresh
theorem aIn{ls:List (List Int)}{j:Nat}(h:j<1000000):eS ls j= .fresh:=by unfold eS;rw [if_neg om]
theorem aKt{ls:List (List Int)}{x:Nat}{l:List Int}(h:ls[x]? =some l):eS ls (1000000+x)= .cells 1 (l.flatMap (ci .i64)) l.length:=by
 unfold eS;rw [if_pos om,show 1000000+x-1000000=x by omega,h]
theorem qP{ls:List (List Int)}{N j:Nat}(h:j<1000000):aH.isFresh ⟨eS ls,N⟩ j=true:=by simp [aH.isFresh,aIn h]
theorem yZ(ls:List (List Int)):(cS ls).length=ls.length:=by simp [cS]
theorem aRw{ls:List (List Int)}{x:Nat}{l:List Int}(h:ls[x]? =some l):(cS ls)[x]? =some (.own (1000000+x) 0 l.length):=by
 have hx:=(List.getElem?_eq_some_iff.1 h).1;unfold cS;rw [List.getElem?_map,List.getElem?_range hx];simp [List.getD,h]
theorem aWw{ls:List (List Int)}{x:Nat}{l:List Int}(h:ls[x]? =some l):(cS ls).drop x= .own (1000000+x) 0 l.length::(cS ls).drop (x+1):=by
 have hx:=(List.getElem?_eq_some_iff.1 h).1;have h1:=aRw h;rw [List.drop_eq_getElem_cons (by rw [yZ];exact hx)];congr 1;rw [List.getElem?_eq_getElem (by rw [yZ];exact hx)] at h1;exact Option.some.inj h1
theorem nC{e:Nat→Ent}{i j:Nat}{x:Ent}(hi:i<1000000)(hj:1000000≤j):upd e i x j=e j:=upd_ne _ _ _ _ om
theorem aDb{x k:Nat}(h:k<1000000):((1000000+x)==k)=false:=by simp;omega
theorem aJ8{x k:Nat}(h:k<1000000):(k==(1000000+x))=false:=by simp;omega
theorem aS5{H H':aH}{ren:Nat→Nat}{ls:List (List Int)}(h: ∀(x:Nat) (l:List Int),ls[x]? =some l→ ∃lk,lk≤l.length∧H.ent (ren (1000000+x))= .cells 1 (l.flatMap (ci .i64)) lk): ∀id,lX H H' ren id (eS ls id):=by
 intro id
 by_cases c:id<1000000
 · rw [aIn c];trivial
 ·
  obtain ⟨x,rfl⟩: ∃x,id=1000000+x:=⟨id-1000000,by omega⟩
  cases hx:ls[x]? with
  |none=>
   have:eS ls (1000000+x)= .fresh:=by unfold eS;rw [if_pos om,show 1000000+x-1000000=x by omega,hx]
   rw [this];trivial
  |some l=>
   obtain ⟨lk,h1,h2⟩:=h x l hx;rw [aKt hx];exact oE h2 h1 (by rw [(CFi .i64).fmlen];omega) ((CFi .i64).fmdat l)
theorem aS4{H H':aH}{ren:Nat→Nat}{ls:List (List Int)}{i:Nat}{xs:List AV}(h:H.ent (ren i)= .cells 1 xs 0)(hl:xs.length=ls.length)(hx: ∀(x:Nat) (l:List Int),ls[x]? =some l→xs[x]? =some (.own (ren (1000000+x)) 0 l.length))
 (hn: ∀j,1000000≤j→H'.ent j=eS ls j):lX H H' ren i (.cells 1 (cS ls) 0):=by
 refine .inr ⟨xs,0,h,Nat.le_refl _,Nat.zero_le _,by rw [yZ,hl];exact Nat.le_refl _,fun k a' hk=>?_⟩;have hk':k<ls.length:=by rw [←yZ];exact (List.getElem?_eq_some_iff.1 hk).1
 have e:ls[k]? =some ls[k]:=List.getElem?_eq_getElem hk';rw [aRw e] at hk;cases hk;refine ⟨_,hx k _ e,.own _ _ _ ?_⟩;rw [hn _ om,aKt e];simp
theorem aOo{p:Nat→Prop}{ls:List (List Int)}(h: ∀x,x<ls.length→p (1000000+x)): ∀j,(eS ls j).live=true→p j:=by
 intro j hj
 by_cases c:j<1000000
 · rw [aIn c] at hj;cases hj
 ·
  obtain ⟨x,rfl⟩: ∃x,j=1000000+x:=⟨j-1000000,by omega⟩
  cases hx:ls[x]? with
  |none=>
   have:eS ls (1000000+x)= .fresh:=by unfold eS;rw [if_pos om,show 1000000+x-1000000=x by omega,hx]
   rw [this] at hj;cases hj
  |some l=>exact h x (List.getElem?_eq_some_iff.1 hx).1
theorem bEg{ren:Nat→Nat}{ls:List (List Int)}(h: ∀x y,x<ls.length→y<ls.length→ren (1000000+x)=ren (1000000+y)→x=y): ∀i j,(eS ls i).live=true→(eS ls j).live=true→ren i=ren j→i=j:=by
 intro i j hi hj;refine aOo (p:=fun i=>ren i=ren j→i=j) (fun x hx=>?_) i hi;refine aOo (p:=fun j=>ren (1000000+x)=ren j→1000000+x=j) (fun y hy he=>?_) j hj;rw [h x y hx hy he]
theorem bL0{B:Nat→Prop}{n N:Nat}{f:Nat→AV}{e:Nat→Ent}(id sz:Nat)(hf:e id= .fresh):(⟨n,f,⟨e,N⟩⟩:St).Le B ⟨n,f,⟨upd e id (.cells sz [] 0),N⟩⟩:=by
 intro C a w _ hr;obtain ⟨hd,O,hs,hv,ht⟩:=hr;obtain ⟨O',h1,h2,h3⟩:=hs.virt id sz hf;exact ⟨hd,O',h1,hv.mono h2,ht.trans h2⟩
theorem bEp{B:Nat→Prop}{n N:Nat}{f:Nat→AV}{e:Nat→Ent}(id fid sz k:Nat){xs:List AV}(he:e id= .cells sz xs 0)(hk:xs[k]? =some (.v (.slice none 0 0)))(hf:e fid= .cells 1 [] 0):
 (⟨n,f,⟨e,N⟩⟩:St).Le B ⟨n,f,⟨upd e id (.cells sz (xs.set k (.own fid 0 0)) 0),N⟩⟩:=by
 intro C a w _ hr;refine hr.swap (by rw [show (⟨n,f,⟨e,N⟩⟩:St).H.ent id=e id from rfl,he];rfl) fun O hs=>?_;have h0:=hs.ent id;have h1:=hs.ent fid;rw [show (⟨n,f,⟨e,N⟩⟩:St).H.ent id=e id from rfl,he] at h0;rw [show (⟨n,f,⟨e,N⟩⟩:St).H.ent fid=e fid from rfl,hf] at h1;rcases h0 with ⟨_,h2,_⟩|⟨o,k1,k2,k3,k4,k5,c,elem,fr,k6,k7,k8,k9⟩
 · subst h2;simp at hk
 ·
  refine .inr ⟨o,k1,k2,by simp,k4,by rw [List.length_set];exact k5,c,elem,fr,k6,k7,k8,fun j b hj=>?_⟩;rw [List.getElem?_set] at hj
  by_cases hkj:k=j
  ·
   subst hkj;rw [if_pos rfl] at hj;split at hj
   ·
    cases hj;have h3:=(k9 k _ hk).v_inv;rw [h3];rcases h1 with ⟨q1,_,_⟩|⟨o',q1,_⟩
    · exact .ownvirt none fid 0 q1
    · exact .ownz none fid 0 o' q1
   · cases hj
  · rw [if_neg hkj] at hj;exact k9 j b hj
theorem bRz(ls:List (List Int)):upd (eS ls) (1000000+ls.length) (.cells 1 [] 0)=eS (ls++[[]]):=by
 funext j;unfold upd;split
 · rename_i h;subst h;rw [aKt (l:=[]) (by simp)];rfl
 ·
  rename_i h
  by_cases c:j<1000000
  · rw [aIn c,aIn c]
  ·
   unfold eS;rw [if_pos om,if_pos om]
   by_cases q:j-1000000<ls.length
   · rw [List.getElem?_append_left q]
   · rw [List.getElem?_eq_none om,List.getElem?_eq_none (by simp;omega)]
theorem bRn(ls:List (List Int))(a:List Int):cS (ls++[a])=cS ls++[.own (1000000+ls.length) 0 a.length]:=by
 unfold cS;rw [List.length_append,List.length_singleton,List.range_succ,List.map_append];congr 1
 · apply List.map_congr_left;intro x hx;rw [List.mem_range] at hx;simp [List.getD,List.getElem?_append_left hx]
 · simp [List.getD]
theorem bAk{B:Nat→Prop}{n N i m:Nat}{f:Nat→AV}(hi:i<1000000): ∀k,k≤m→(⟨n,f,⟨upd aZ i (.cells 1 (List.replicate m (AV.v (.slice none 0 0))) 0),N⟩⟩:St).Le B ⟨n,f,⟨upd (eS (List.replicate k [])) i (.cells 1 (cS (List.replicate k [])++List.replicate (m-k) (AV.v (.slice none 0 0))) 0),N⟩⟩
 |0,_=>by
  have e:upd (eS (List.replicate 0 [])) i (.cells 1 (cS (List.replicate 0 [])++List.replicate (m-0) (AV.v (.slice none 0 0))) 0)=upd aZ i (.cells 1 (List.replicate m (AV.v (.slice none 0 0))) 0):=by
   funext j;unfold upd;split
   · rfl
   · unfold eS;split<;>simp [aZ]
  rw [e];exact fun _ _ _ _ h=>h
 |k+1,hk=>by
  refine St.Le.trans (bAk hi k om) ?_;have hr:List.replicate (k+1) ([]:List Int)=List.replicate k []++[[]]:=List.replicate_succ';refine St.Le.trans (bL0 (1000000+k) 1 (by rw [upd_ne _ _ _ _ om];unfold eS;rw [if_pos om,List.getElem?_eq_none (by simp)])) ?_
  refine St.Le.trans (bEp i (1000000+k) 1 k (xs:=cS (List.replicate k [])++List.replicate (m-k) (AV.v (.slice none 0 0))) (by rw [upd_ne _ _ _ _ om,upd_same]) (by
   rw [List.getElem?_append_right (by rw [yZ];simp),yZ,List.length_replicate,Nat.sub_self,List.getElem?_replicate,if_pos om]) (by rw [upd_same])) ?_
  have e:upd (upd (upd (eS (List.replicate k [])) i (.cells 1 (cS (List.replicate k [])++List.replicate (m-k) (AV.v (.slice none 0 0))) 0)) (1000000+k) (.cells 1 [] 0)) i (.cells 1 ((cS (List.replicate k [])++List.replicate (m-k) (AV.v (.slice none 0 0))).set k (.own (1000000+k) 0 0)) 0)=
   upd (eS (List.replicate (k+1) [])) i (.cells 1 (cS (List.replicate (k+1) [])++List.replicate (m-(k+1)) (AV.v (.slice none 0 0))) 0):=by
   have e1:=bRz (List.replicate k []);rw [List.length_replicate] at e1;rw [hr,←e1,bRn,List.length_replicate]
   have e2:(cS (List.replicate k [])++List.replicate (m-k) (AV.v (.slice none 0 0))).set k (.own (1000000+k) 0 0)=cS (List.replicate k [])++[.own (1000000+k) 0 ([]:List Int).length]++List.replicate (m-(k+1)) (AV.v (.slice none 0 0)):=by
    obtain ⟨d,hd⟩: ∃d,m-k=d+1:=⟨m-k-1,by omega⟩
    rw [hd,show m-(k+1)=d by omega,List.set_append_right _ _ (by rw [yZ];simp),yZ,List.length_replicate,Nat.sub_self,List.replicate_succ,List.set_cons_zero,List.append_assoc];rfl
   rw [e2];funext j;unfold upd;split
   · rfl
   · rfl
  rw [e];exact fun _ _ _ _ h=>h
theorem bMp{e:Nat→Ent}{ls:List (List Int)}{u q lk N N':Nat}{a:List Int}(hu:u<ls.length)(h1:e 1= .cells 1 ((cS ls).set u (.own q 0 a.length)) 0)(hq:e q= .cells 1 (a.flatMap (ci .i64)) lk)(hlk:lk≤a.length)(hq1:q<1000000)(hq2:q≠1)
 (hx: ∀j,1000000≤j→j≠1000000+u→e j=eS ls j):aAc B0 ⟨e,N⟩ ⟨upd (eS (ls.set u a)) 1 (.cells 1 (cS (ls.set u a)) 0),N'⟩ (fun j=>if j=1000000+u then q else j):=by
 have get: ∀(x:Nat) (l:List Int),(ls.set u a)[x]? =some l→(x=u∧l=a)∨(x≠u∧ls[x]? =some l):=fun x l h=>by
  rw [List.getElem?_set] at h
  by_cases c:u=x
  · rw [if_pos c,if_pos hu] at h;cases h;exact .inl ⟨c.symm,rfl⟩
  · rw [if_neg c] at h;exact .inr ⟨fun k=>c k.symm,h⟩
 refine gN _ (cG (aS4 (xs:=(cS ls).set u (.own q 0 a.length)) ?_ (by rw [List.length_set,yZ,List.length_set]) (fun x l h=>?_) (fun j hj=>nC (by decide) hj)) (aS5 fun x l h=>?_)) ?_
 · show e (if 1=1000000+u then q else 1)=_;rw [if_neg om];exact h1
 ·
  rcases get x l h with ⟨rfl,rfl⟩|⟨c,h⟩
  · rw [List.getElem?_set_self (by rw [yZ];exact hu)];simp
  · rw [List.getElem?_set_ne (fun k=>c k.symm),aRw h,if_neg om]
 ·
  rcases get x l h with ⟨rfl,rfl⟩|⟨c,h⟩
  · exact ⟨lk,hlk,by show e (if _ then q else _)=_;rw [if_pos rfl];exact hq⟩
  · refine ⟨l.length,Nat.le_refl _,?_⟩;show e (if 1000000+x=1000000+u then q else 1000000+x)=_;rw [if_neg om,hx _ om om,aKt h]
 ·
  refine jW (aOo fun x hx'=> .inr ?_) (bEg fun x y _ _ h=>?_)
  · show (if 1=1000000+u then q else 1)≠(if 1000000+x=1000000+u then q else 1000000+x);rw [if_neg om];split<;>omega
  · have h':(if 1000000+x=1000000+u then q else 1000000+x)=(if 1000000+y=1000000+u then q else 1000000+y):=h;split at h'<;>split at h'<;>omega
def vS(rec3:List aE→List (List Int)→List Int→List Int→Option (List Int))(rec4:List aE→List (List Int)→List Int→List Int→Int→List Int→Int→Int→Option (List Int))(l:List aE)(ls:List (List Int))(lead:List Int)(q:List Int)(x:Int)(t75:List Int)(t76 t77:Int):Option (List Int):=
  (bif (decide (t77<t76)) then
    ((idx t75 t77).bind fun i=>
    ((idx lead x).bind fun y=>
    (bif (i !=y) then
      ((idx l i).bind fun e=>
      ((uJ e x).bind fun r=>
      ((stt lead r i).bind fun lead'=>
      ((app q [r]).bind fun q'=>
      rec4 l ls lead' q' x t75 t76 (IntKind.i64.wrap (t77+1))))))
    else
      rec4 l ls lead q x t75 t76 (IntKind.i64.wrap (t77+1)))))
  else
    ((slc q 1 (q.length:Int)).bind fun q'=>rec3 l ls lead q'))
def oG(rec3:List aE→List (List Int)→List Int→List Int→Option (List Int)):Nat→List aE→List (List Int)→List Int→List Int→Int→List Int→Int→Int→Option (List Int)
  |0=>fun _ _ _ _ _ _ _ _=>none
  |n+1=>vS rec3 (oG rec3 n)
def vR(rec3:List aE→List (List Int)→List Int→List Int→Option (List Int))(l:List aE)(ls:List (List Int))(lead:List Int)(q:List Int):Option (List Int):=
  (bif (decide (0<(q.length:Int))) then
    ((idx q 0).bind fun x=>
    ((idx ls x).bind fun s=>
    oG rec3 aY l ls lead q x s (s.length:Int) 0))
  else
    some lead)
def gV:Nat→List aE→List (List Int)→List Int→List Int→Option (List Int)
  |0=>fun _ _ _ _=>none
  |n+1=>vR (gV n)
def vQ(rec2:List aE→Int→List (List Int)→List Int→Int→Int→Option (List Int))(l:List aE)(v:Int)(ls:List (List Int))(lead:List Int)(t54 t55:Int):Option (List Int):=
  (bif (decide (t55<t54)) then
    ((idx lead t55).bind fun _=>
    ((stt lead t55 (-1)).bind fun lead'=>
    rec2 l v ls lead' t54 (IntKind.i64.wrap (t55+1))))
  else
    gV aY l ls lead [v])
def mG:Nat→List aE→Int→List (List Int)→List Int→Int→Int→Option (List Int)
  |0=>fun _ _ _ _ _ _=>none
  |n+1=>vQ (mG n)
def vP(rec1:Int→List aE→Int→List (List Int)→List aE→Int→Int→Option (List Int))(n:Int)(l:List aE)(v:Int)(ls:List (List Int))(t19:List aE)(t20 t21:Int):Option (List Int):=
  (bif (decide (t21<t20)) then
    ((idx t19 t21).bind fun e=>
    ((idx ls e.U).bind fun a=>
    ((app a [t21]).bind fun a'=>
    ((stt ls e.U a').bind fun ls1=>
    ((idx ls1 e.V).bind fun b=>
    ((app b [t21]).bind fun b'=>
    ((stt ls1 e.V b').bind fun ls2=>
    rec1 n l v ls2 t19 t20 (IntKind.i64.wrap (t21+1)))))))))
  else
    ((mkc n n 0).bind fun lead=>mG aY l v ls lead (lead.length:Int) 0))
def oF:Nat→Int→List aE→Int→List (List Int)→List aE→Int→Int→Option (List Int)
  |0=>fun _ _ _ _ _ _ _=>none
  |n+1=>vP (oF n)
def uI(n:Int)(l:List aE)(v:Int):Option (List Int):=
  ((mkc n n ([]:List Int)).bind fun ls=>
  oF aY n l v ls l (l.length:Int) 0)
theorem bOn(H:aH)(x:AV)(xs:List AV):bT prog H 56 (.ptr (x::xs))=some x:=by kernel_rfl
theorem cA0(H:aH)(x:AV)(xs:List AV):bT prog H 3 (.ptr (x::xs))=some x:=by kernel_rfl
def bWk:List Int→List AV:=fun _=>[.v (.slice none 0 0)]
theorem bYq:CF bWk 1:=⟨fun _=>rfl,fun _ x h=>by simp [bWk] at h;subst h;exact .v _,fun _=>rfl⟩
theorem bRq(m:Nat)(x:List Int):(List.replicate m x).flatMap bWk=List.replicate m (AV.v (.slice none 0 0)):=by
 induction m with
 |zero=>rfl
 |succ m ih=>rw [List.replicate_succ,List.flatMap_cons,ih,List.replicate_succ];rfl
theorem bFt{P:Program}{e:Nat→Ent}{N id:Nat}{ρ:Operand→AV}{α:Type}{c:α→List AV}{sz:Nat}(hC:CF c sz){t tx el:TypeId}{d:TypeDesc}{i:TypeInfo}{z:Value}{s x:Operand}{j n m lk:Nat}{l xs l':List α}(hu:P.underlying t=some (.slice el))(hux:P.underlying tx=some d)
 (hd:TypeDesc.isInt d=false) (hi:P.info? el=some i) (hsz:i.size=sz) (hb:i.bytes≤1024) (hb0:i.bytes≠0) (hz:i.zero=some z) (hzs:z.cells.size=sz) (h0:sz≠0)
 (hs:ρ s= .own j 0 n) (he:e j= .cells sz (l.flatMap c) lk) (hn:n=l.length) (hx:aFa ⟨e,N⟩ sz (ρ x)=some (xs.flatMap c,m)) (hm:m=xs.length) (hf:aH.isFresh ⟨e,N⟩ id=true) (hv:app l xs=some l'):
 eZ P ⟨e,N⟩ id ρ (.call { callee:= .builtin .append,args:= #[s,x],argTypes:= #[t,tx] })=some (.own id 0 l'.length,⟨upd (upd e j .dead) id (.cells sz (l'.flatMap c) lk),N⟩):=by
 subst hn hm;unfold app at hv;split at hv
 ·
  rename_i h;cases hv
  have:=aGm (P:=P) (ρ:=ρ) (N:=N) (id:=id) hu hux hd hi hsz hb0 hz hzs h0 hs he (by rw [Nat.zero_add];exact (hC.fmlen l).symm) hx hf (by
   have:(l.length+xs.length)*i.bytes≤4294967296*1024:=Nat.mul_le_mul h hb;omega) (hC.fmone xs)
  rw [this,List.length_append,List.flatMap_append,List.drop_zero,Nat.sub_zero]
 · cases hv
theorem aK7{α:Type}{l:List α}{u:Int}{a:α}(h:idx l u=some a):0≤u∧u.toNat<l.length∧l[u.toNat]? =some a:=by
 obtain ⟨h1,h2,h3⟩:=aOj h;exact ⟨by omega,by omega,by rw [←h];exact (xK (k:=u.toNat) om).symm⟩
theorem aWa{α:Type}{l l':List α}{u:Int}{a:α}(h:stt l u a=some l'):l'=l.set u.toNat a:=by
 unfold stt at h;split at h
 · cases h;rfl
 · cases h
theorem bFy{α:Type}{l xs l':List α}(h:app l xs=some l'):l'.length=l.length+xs.length:=by
 unfold app at h;split at h
 · cases h;simp
 · cases h
theorem bUl{a b c:Int} :AM.Data (.ptr [.v (.int .i64 a),.v (.int .i64 b),.v (.int .i64 c)]):= .ptr _ (fun x hx=>by
 simp only [List.mem_cons,List.not_mem_nil,or_false] at hx;rcases hx with rfl|rfl|rfl<;>exact .v _)
theorem aSe{e:Nat→Ent}{N:Nat}{H':aH}{ren:Nat→Nat}{ls:List (List Int)}(h1:e 1= .cells 1 (cS ls) 0)(hb: ∀j,1000000≤j→e j=eS ls j)(r1:ren 1=1)(rb: ∀j,1000000≤j→ren j=j)(hn: ∀j,1000000≤j→H'.ent j=eS ls j):
 ∀id,lX ⟨e,N⟩ H' ren id (upd (eS ls) 1 (.cells 1 (cS ls) 0) id):=
 cG (aS4 (xs:=cS ls) (by rw [r1];exact h1) (yZ _) (fun x l h=>by rw [rb _ om];exact aRw h) hn) (aS5 fun x l h=>⟨l.length,Nat.le_refl _,by
  rw [rb _ om];show e _=_;rw [hb _ om];exact aKt h⟩)
theorem aQt{p:Nat→Prop}{ls:List (List Int)}{x:Ent}(h1:p 1)(hb: ∀j,1000000≤j→p j): ∀j,(upd (eS ls) 1 x j).live=true→p j:=qR h1 (aOo fun x _=>hb _ om)
theorem bEf{ren:Nat→Nat}{ls:List (List Int)}{x:Ent}(r1:ren 1=1)(rb: ∀j,1000000≤j→ren j=j): ∀i j,(upd (eS ls) 1 x i).live=true→(upd (eS ls) 1 x j).live=true→ren i=ren j→i=j:=
 jW (aOo fun x _=> .inr (by rw [r1,rb _ om];omega)) (bEg fun x y _ _ h=>by rw [rb _ om,rb _ om] at h;omega)
theorem bMa{P:Program}{H:aH}{ρ:Operand→AV}{t el:TypeId}{x i:Operand}{j off n sz:Nat}{k:IntKind}{iv:Int}{lk:Nat}{xs:List AV}{α:Type}{l:List α}{a:α}(hu:P.underlying t=some (.slice el))(hs:aO P el=some sz)
 (hx:ρ x= .own j off n) (he:H.ent j= .cells sz xs lk) (hn:n=l.length) (hi:ρ i= .v (.int k iv)) (hv:idx l iv=some a):bJ P H ρ (.indexAddr t x i)=some (.adr j (off+iv.toNat*sz)):=by
 subst hn;obtain ⟨h1,h2,h3⟩:=aOj hv;simp only [bJ,hx,hi,aH.alive,he,if_true,lS,hu,hs];rw [if_pos ⟨h1,h2⟩]
theorem bRc{P:Program}{H:aH}{ρ:Operand→AV}{t el:TypeId}{x y:Operand}{j off n lk:Nat}{xs:List AV}{k:IntKind}(hu:P.underlying t=some (.slice el))(hs:aO P el=some 1)(hx:ρ x= .own j off n)(hy:ρ y= .v (.int k 1))
 (he:H.ent j= .cells 1 xs lk) (hl:off+n≤xs.length) (h1:1≤n):bJ P H ρ (.slice t x (some y) none none)=some (.own j (off+1) (n-1)):=by
 have:xJ P H t (.own j off n) (some (.v (.int k 1))) none none=some (.own j (off+1) (n-1)):=by
  simp only [xJ,hu,hs,he];have e1:fV 0 (some (.v (.int k 1)))=some 1:=by simp [fV]
  have e2:fV n none=some n:=rfl;rw [e1,e2];simp only [];rw [if_pos (by refine ⟨h1,Nat.le_refl _,?_,by omega⟩;first|trivial|rfl)]
 simp only [bJ,hx,Option.map_some,hy,Option.map_none];exact this
theorem bR4{P:Program}{e:Nat→Ent}{N id:Nat}{ρ:Operand→AV}{t tx el:TypeId}{d:TypeDesc}{i:TypeInfo}{z:Value}{s x:Operand}{j m off n:Nat}{l xs l' pre:List Int}(hu:P.underlying t=some (.slice el))(hux:P.underlying tx=some d)
 (hd:TypeDesc.isInt d=false) (hi:P.info? el=some i) (hsz:i.size=1) (hb:i.bytes≤1024) (hb0:i.bytes≠0) (hz:i.zero=some z) (hzs:z.cells.size=1)
 (hs:ρ s= .own j off n) (hoff:off=pre.length) (he:e j= .cells 1 ((pre++l).flatMap (ci .i64)) 0) (hn:n=l.length) (hx:aFa ⟨e,N⟩ 1 (ρ x)=some (xs.flatMap (ci .i64),m)) (hm:m=xs.length) (hf:aH.isFresh ⟨e,N⟩ id=true) (hv:app l xs=some l'):
 eZ P ⟨e,N⟩ id ρ (.call { callee:= .builtin .append,args:= #[s,x],argTypes:= #[t,tx] })=some (.own id 0 l'.length,⟨upd (upd e j .dead) id (.cells 1 (l'.flatMap (ci .i64)) 0),N⟩):=by
 subst hn hm hoff;unfold app at hv;split at hv
 ·
  rename_i h;cases hv;have hC:=CFi .i64
  have:=aGm (P:=P) (ρ:=ρ) (N:=N) (id:=id) hu hux hd hi hsz hb0 hz hzs (by decide) hs he (by rw [hC.fmlen,List.length_append];omega) hx hf (by
   have:(l.length+xs.length)*i.bytes≤4294967296*1024:=Nat.mul_le_mul h hb;omega) (hC.fmone xs)
  rw [this,List.length_append,List.flatMap_append,List.flatMap_append]
  have e1:((pre.flatMap (ci .i64))++l.flatMap (ci .i64)).drop pre.length=l.flatMap (ci .i64):=by
   have hl:=hC.fmlen pre;rw [Nat.mul_one] at hl;rw [←hl,List.drop_left]
  rw [e1,Nat.zero_sub]
 · cases hv
theorem bQ7{q q':List Int}(h:slc q 1 (q.length:Int)=some q'):1≤q.length∧q'=q.tail:=by
 unfold slc at h;split at h
 ·
  rename_i c;cases h;refine ⟨by omega,?_⟩
  cases q with
  |nil=>simp at c
  |cons a q=>simp
 · cases h
theorem bO{j k:Nat}(hj:1000000≤j)(h:k<1000000):(j==k)=false:=by simp;omega
theorem bEd{α:Type}{l l':List α}{u:Int}{a:α}(h:stt l u a=some l'): ∃z,idx l u=some z:=by
 obtain ⟨h1,h2,h3⟩:=aTf h;exact ⟨l[u.toNat]'(by omega),by rw [xK (k:=u.toNat) om,List.getElem?_eq_getElem om]⟩
theorem bUb{α:Type}{n m:Int}{z:α}{l:List α}(h:mkc n m z=some l):l=List.replicate l.length z:=by
 unfold mkc at h;split at h
 · cases h;simp
 · cases h
theorem aX8{n_0:Int}{l_1:List aE}{v_2:Int}{r:List Int}(hm:uI n_0 l_1 v_2=some r):cE prog 221 [.v (.int .i64 n_0),.sl (l_1.flatMap aV) l_1.length false,.v (.int .i64 v_2)] (.sl (r.flatMap (ci .i64)) r.length false):=by
 refine cE.of_body func221 rfl ?_;simp only [ntmps221,List.length_cons,List.length_nil,Nat.reduceAdd,Nat.reduceSub,iO];unfold uI at hm;refine sr (N':=64) rfl ?_;refine pA ?_;refine fs ?_;refine sr (N':=128) rfl ?_;refine pA ?_;obtain ⟨ls0,h1,hm⟩:=bnd hm;refine hp (id:=65) rfl rfl (bFu bYq underlying310 cIc (z:=[]) cM7 (by rw [cLw];decide) cLz Zd Z5 Z1 Z1 h1) ?_;refine pA ?_;refine fs ?_;refine AWp.seq' ?_;refine sr (N':=192) rfl ?_
 iterate 3 refine pA ?_
 refine fs ?_;refine AWp.block ?_;refine AWp.loopM (fun m s=> ∃(n:Int) (l:List aE) (v:Int) (ls:List (List Int)) (t19:List aE) (t20:Int) (t21:Int),s=(⟨103,(aF (aF (aF (aF (aF (aF (aF (fun _=>AV.any) 0 (.v (.int .i64 n))) 1 (.sl (l.flatMap aV) l.length false)) 2 (.v (.int .i64 v))) 7 (.own 1 0 ls.length)) 19 (.sl (t19.flatMap aV) t19.length false)) 20 (.v (.int .i64 t20))) 21 (.v (.int .i64 t21))),⟨upd (eS ls) 1 (.cells 1 (cS ls) 0),64⟩⟩:St)∧oF m n l v ls t19 t20 t21=some r) aY ?_ ?_ ?_
 · rintro s ⟨_,_,_,_,_,_,_,_,h⟩;cases h
 ·
  refine ⟨_,?_,n_0,l_1,v_2,ls0,l_1,(l_1.length:Int),0,rfl,hm⟩;have h2:=bUb h1;rw [h2,bRq,List.length_replicate];generalize ls0.length=m;refine St.Le.trans (bAk (i:=65) (by decide) m (Nat.le_refl _)) ?_;rw [Nat.sub_self,List.replicate_zero,List.append_nil];refine cP (fun j=>if j=1 then 65 else j) (wV (wV (wD (cL.sl _ _ _) (bH _ _ (jG Z1 (by simp) (by rfl) (by simp [upd])) (wV (wD (cL.sl _ _ _) (wV dN))))))) ?_;refine gN _ (cG (aS4 (xs:=cS (List.replicate m [])) ?_ (yZ _) (fun x l h=>?_) (fun j hj=>nC (by decide) hj)) (aS5 fun x l h=>⟨l.length,Nat.le_refl _,?_⟩)) ?_
  · exact upd_same (eS (List.replicate m [])) 65 _
  · rw [aRw h,if_neg om]
  · show (upd (eS (List.replicate m [])) 65 (.cells 1 (cS (List.replicate m [])) 0)) (if 1000000+x=1 then 65 else 1000000+x)=_;rw [if_neg om,nC (by decide) om,aKt h]
  ·
   refine jW (aOo fun x hx=> .inr ?_) (bEg fun x y _ _ h=>?_)
   · show 65≠(if 1000000+x=1 then 65 else 1000000+x);rw [if_neg om];omega
   · have h':(if 1000000+x=1 then 65 else 1000000+x)=(if 1000000+y=1 then 65 else 1000000+y):=h;rw [if_neg om,if_neg om] at h';omega
 ·
  rintro n1 s ⟨n,l,v,ls,t19,t20,t21,rfl,hm⟩;replace hm:vP (oF n1) n l v ls t19 t20 t21=some r:=hm;unfold vP at hm;refine sr (N':=128) rfl ?_;refine pA ?_;refine fs ?_;refine AWp.seq' ?_;refine AWp.condM hm Z1 (fun _ hm=>?_) (fun _ hm=>?_)
  ·
   refine AWp.skip ?_;refine bQ ?_;refine AWp.seq' ?_;refine AWp.block ?_;refine sr (N':=192) rfl ?_;refine pA ?_;obtain ⟨x,hx,hm⟩:=bnd hm;refine pu rfl (aGn cL Zd underlying28 aNu Z1 rfl Z1 hx) ?_;refine pA ?_;refine hp (id:=131) rfl rfl (nQ aZ4 (by simp only [dV,Nat.reduceBEq,cond_false];exact qP (by decide))) ?_;refine pA ?_;refine aR.heap0 (id:=133) rfl (oD (ys:=[.v (.int .i64 x.U),.v (.int .i64 x.V),.v (.int .i64 x.Tier)]) aNu Z1 Z1 Z3 rfl (Nat.le_of_ble_eq_true rfl) Z9 rfl) ?_;refine fs ?_;refine AWp.weaken (bOp 131 Z3) ?_;refine AWp.weaken (St.Le.slot (s:=⟨_,_,⟨_,_⟩⟩) 9 (.ptr [.v (.int .i64 x.U),.v (.int .i64 x.V),.v (.int .i64 x.Tier)]) (ToD.adr 131 0 1 [.v (.int .i64 x.U),.v (.int .i64 x.V),.v (.int .i64 x.Tier)] _ 3 Z3 (fun _=>rfl) (by simp) (fun k a b ha hb=>?_))) ?_
   ·
    rw [Nat.zero_add] at ha;rw [ha] at hb;cases hb;refine .data a ?_
    match k,ha with
    |0,ha=>cases ha;exact .v _
    |1,ha=>cases ha;exact .v _
    |2,ha=>cases ha;exact .v _
   refine AWp.seq' ?_;refine AWp.regT [9,27,30] 64 mix (by kernel_rfl) (by kernel_rfl) (by intro k hk;simp only [List.mem_cons,List.not_mem_nil,or_false] at hk;rcases hk with rfl|rfl|rfl<;>rfl) (N':=256) rfl ?_;obtain ⟨a,ha,hm⟩:=bnd hm;obtain ⟨a0,al,ag⟩:=aK7 ha
   iterate 6 refine pA ?_
   refine pu rfl (iX underlying310 bBx Z1 Z3 rfl Z1 ha) ?_;refine pu rfl (hZ (r:= .own (1000000+x.U.toNat) 0 a.length) Z1 Z3 (by rw [Nat.mul_one,aWw ag];exact bOn _ _ _)) ?_;refine pA ?_;refine hp (id:=201) rfl rfl (kW (CFi .i64) (l:=[t21]) underlying56 sz3 zc3 (by simp only [dV,Nat.reduceBEq,cond_false];exact qP (by decide)) Zd Zd Zd (by simp only [go_sem,Nat.reduceBEq];try rfl) (by kernel_rfl)) ?_;obtain ⟨a1,ha1,hm⟩:=bnd hm;refine hp (id:=202) rfl rfl (bFt (CFi .i64) (lk:=a.length) (l:=a) underlying56 underlying56 rfl in3 ts3 (by rw [tb3];decide) (by rw [tb3];decide) tz3 Zd Zd Z1 (by simp only [dM,aDb (show 201<1000000 by decide),aDb (show 131<1000000 by decide),aDb (show 1<1000000 by decide),cond_false];exact aKt ag) rfl (aAg (CFi .i64) Z1 Z3 Z6) rfl (by simp only [dV,aJ8 (show 202<1000000 by decide),Nat.reduceBEq,cond_false];exact qP (by decide)) ha1) ?_;obtain ⟨ls1,hls1,hm⟩:=bnd hm;refine pu rfl (iX underlying310 bBx Z1 (by simp only [dM,aJ8 (show 1<1000000 by decide),Nat.reduceBEq,cond_true,cond_false];try rfl) rfl Z1 ha) ?_;refine aR.heap0 (id:=204) rfl (oD (ys:=(cS ls).set x.U.toNat (.own 202 0 a1.length)) bBx Z1 Z1 (by simp only [dM,aJ8 (show 1<1000000 by decide),Nat.reduceBEq,cond_true,cond_false];try rfl) rfl (by rw [yZ];omega) rfl (by rw [Nat.mul_one];rfl)) ?_;refine aR.fin ?_;refine bQ ?_;have els1:=aWa hls1;subst els1
   refine AWp.weaken (cP (N':=64) (fun j=>if j=1000000+x.U.toNat then 202 else j)
    (g:=(aF (aF (aF (aF (aF (aF (aF (aF (aF (fun _=>AV.any) 0 (.v (.int .i64 n))) 1 (.sl (l.flatMap aV) l.length false)) 2 (.v (.int .i64 v))) 7 (.own 1 0 (ls.set x.U.toNat a1).length)) 8 (.v (.int .i64 t21))) 9 (.ptr [.v (.int .i64 x.U),.v (.int .i64 x.V),.v (.int .i64 x.Tier)])) 19 (.sl (t19.flatMap aV) t19.length false)) 20 (.v (.int .i64 t20))) 21 (.v (.int .i64 t21))))
    (wV (wV (wD (cL.sl _ _ _) (wD bUl (wV (bH _ _ (jG Z1 (by rw [List.length_set]) (if_neg om) (by simp [upd])) (wV (wD (cL.sl _ _ _) (wV dN)))))))))
    (bMp (q:=202) (lk:=a.length) (a:=a1) (ls:=ls) (u:=x.U.toNat) al (by simp only [upd_same]) (by simp only [dM,aJ8 (show 202<1000000 by decide),Nat.reduceBEq,cond_true,cond_false];try rfl) (by have:=bFy ha1;omega) (by decide) (by decide) (fun j hj hne=>by
    rw [nC (show 1<1000000 by decide) hj,nC (show 202<1000000 by decide) hj,upd_ne _ _ _ _ hne]
    repeat rw [nC (by decide) hj]))) ?_
   refine AWp.regT [9,39,42] 64 mix (by kernel_rfl) (by kernel_rfl) (by intro k hk;simp only [List.mem_cons,List.not_mem_nil,or_false] at hk;rcases hk with rfl|rfl|rfl<;>rfl) (N':=128) rfl ?_;obtain ⟨b,hb,hm⟩:=bnd hm;obtain ⟨b0,bl,bg⟩:=aK7 hb
   iterate 6 refine pA ?_
   refine pu rfl (iX underlying310 bBx Z1 Z3 rfl Z1 hb) ?_;refine pu rfl (hZ (r:= .own (1000000+x.V.toNat) 0 b.length) Z1 Z3 (by rw [Nat.mul_one,aWw bg];exact bOn _ _ _)) ?_;refine pA ?_;refine hp (id:=73) rfl rfl (kW (CFi .i64) (l:=[t21]) underlying56 sz3 zc3 (by simp only [dV,Nat.reduceBEq,cond_false];exact qP (by decide)) Zd Zd Zd (by simp only [go_sem,Nat.reduceBEq];try rfl) (by kernel_rfl)) ?_;obtain ⟨b1,hb1,hm⟩:=bnd hm;refine hp (id:=74) rfl rfl (bFt (CFi .i64) (lk:=b.length) (l:=b) underlying56 underlying56 rfl in3 ts3 (by rw [tb3];decide) (by rw [tb3];decide) tz3 Zd Zd Z1 (by simp only [dM,aDb (show 73<1000000 by decide),aDb (show 1<1000000 by decide),cond_false];exact aKt bg) rfl (aAg (CFi .i64) Z1 Z3 Z6) rfl (by simp only [dV,aJ8 (show 74<1000000 by decide),Nat.reduceBEq,cond_false];exact qP (by decide)) hb1) ?_;obtain ⟨ls2,hls2,hm⟩:=bnd hm;refine pu rfl (iX underlying310 bBx Z1 (by simp only [dM,aJ8 (show 1<1000000 by decide),Nat.reduceBEq,cond_true,cond_false];try rfl) rfl Z1 hb) ?_;refine aR.heap0 (id:=76) rfl (oD (ys:=(cS (ls.set x.U.toNat a1)).set x.V.toNat (.own 74 0 b1.length)) bBx Z1 Z1 (by simp only [dM,aJ8 (show 1<1000000 by decide),Nat.reduceBEq,cond_true,cond_false];try rfl) rfl (by rw [yZ];omega) rfl (by rw [Nat.mul_one];rfl)) ?_;refine aR.fin ?_;refine jP ?_;refine bQ ?_;refine AWp.reg 64 (N':=192) rfl ?_
   iterate 2 refine pA ?_
   refine aR.fin ?_;refine iA ?_;have els2:=aWa hls2;subst els2;refine ⟨_,?_,n,l,v,_,t19,t20,(IntKind.i64.wrap (t21+1)),rfl,hm⟩
   exact cP (fun j=>if j=1000000+x.V.toNat then 74 else j) (wV (wV (wD (cL.sl _ _ _) (bH _ _ (jG Z1 (by simp only [List.length_set]) (if_neg om) (by simp [upd])) (wV (wD (cL.sl _ _ _) (wV dN)))))))
    (bMp (q:=74) (lk:=b.length) (a:=b1) (ls:=(ls.set x.U.toNat a1)) (u:=x.V.toNat) bl (by simp only [upd_same]) (by simp only [dM,aJ8 (show 74<1000000 by decide),Nat.reduceBEq,cond_true,cond_false];try rfl) (by have:=bFy hb1;omega) (by decide) (by decide) (fun j hj hne=>by
    rw [nC (show 1<1000000 by decide) hj,nC (show 74<1000000 by decide) hj,upd_ne _ _ _ _ hne]
    repeat rw [nC (by decide) hj]))
  ·
   refine AWp.exit ?_;refine kE ?_;refine jA ?_;refine iS ?_;refine bQ ?_;refine sr (N':=192) rfl ?_;refine pA ?_;obtain ⟨lead,h3,hm⟩:=bnd hm;refine hp (id:=129) rfl rfl (bFu (CFi .i64) underlying56 in3 zc3 (by rw [tb3];decide) ts3 Zd (by simp only [dV,Nat.reduceBEq,cond_false];exact qP (by decide)) Z1 Z1 h3) ?_;refine pA ?_;refine fs ?_;refine AWp.seq' ?_;refine sr (N':=256) rfl ?_
   iterate 3 refine pA ?_
   refine fs ?_;refine AWp.block ?_;refine AWp.loopM (fun m s=> ∃(l:List aE) (v:Int) (ls:List (List Int)) (lead:List Int) (t54:Int) (t55:Int),s=(⟨103,(aF (aF (aF (aF (aF (aF (fun _=>AV.any) 1 (.sl (l.flatMap aV) l.length false)) 2 (.v (.int .i64 v))) 7 (.own 1 0 ls.length)) 10 (.own 2 0 lead.length)) 54 (.v (.int .i64 t54))) 55 (.v (.int .i64 t55))),⟨upd (upd (eS ls) 1 (.cells 1 (cS ls) 0)) 2 (.cells 1 (lead.flatMap (ci .i64)) 0),64⟩⟩:St)∧mG m l v ls lead t54 t55=some r) aY ?_ ?_ ?_
   · rintro s ⟨_,_,_,_,_,_,_,h⟩;cases h
   · refine ⟨_,?_,l,v,ls,lead,(lead.length:Int),0,rfl,hm⟩;exact cP (fun j=>bif j==2 then 129 else j) (wV (wV (bH _ _ (jG Z1 Z6 rfl (by simp [upd])) (bH _ _ (jG Z1 Z6 rfl (by simp [upd])) (wV (wD (cL.sl _ _ _) dN)))))) (gN _ (eU (CFi .i64) (aSe (by simp only [dM,Nat.reduceBEq,cond_true,cond_false];try rfl) (fun j hj=>by (try dsimp only);repeat rw [nC (by decide) hj]) rfl (fun j hj=>by simp only [bO hj (show 2<1000000 by decide),bO hj (show 3<1000000 by decide),cond_false]) (fun j hj=>by (try dsimp only);repeat rw [nC (by decide) hj]))) (jW (aQt (.inr (by decide)) fun j hj=> .inr (by simp only [bO hj (show 2<1000000 by decide),bO hj (show 3<1000000 by decide),Nat.reduceBEq,cond_true,cond_false];omega)) (bEf rfl (fun j hj=>by simp only [bO hj (show 2<1000000 by decide),bO hj (show 3<1000000 by decide),cond_false]))))
   ·
    rintro n2 s ⟨l,v,ls,lead,t54,t55,rfl,hm⟩;replace hm:vQ (mG n2) l v ls lead t54 t55=some r:=hm;unfold vQ at hm;refine sr (N':=128) rfl ?_;refine pA ?_;refine fs ?_;refine AWp.seq' ?_;refine AWp.condM hm Z1 (fun _ hm=>?_) (fun _ hm=>?_)
    ·
     refine AWp.skip ?_;refine bQ ?_;refine AWp.seq' ?_;refine AWp.block ?_;refine sr (N':=192) rfl ?_
     iterate 2 refine pA ?_
     refine fs ?_;refine AWp.reg 64 (N':=256) rfl ?_
     iterate 2 refine pA ?_
     obtain ⟨y,hy,hm⟩:=bnd hm;refine pu rfl (iX underlying56 sz3 Z1 Z3 Z6 Z1 hy) ?_;obtain ⟨lead1,h4,hm⟩:=bnd hm;have qh4:=nG h4;refine aR.heap0 (id:=195) rfl (aGl (CFi .i64) sz3 Z1 Z1 Z3 rfl h4) ?_;refine aR.fin ?_;refine jP ?_;refine bQ ?_;refine AWp.reg 64 (N':=320) rfl ?_
     iterate 2 refine pA ?_
     refine aR.fin ?_;refine iA ?_;refine ⟨_,?_,l,v,ls,lead1,t54,(IntKind.i64.wrap (t55+1)),rfl,hm⟩;exact cP (fun j=>bif j==2 then 2 else j) (wV (wV (bH _ _ (jG Z1 Z6 rfl (by simp [upd])) (bH _ _ (jG Z1 Z6 rfl (by simp [upd])) (wV (wD (cL.sl _ _ _) dN)))))) (gN _ (eU (CFi .i64) (aSe (by simp only [dM,Nat.reduceBEq,cond_true,cond_false];try rfl) (fun j hj=>by (try dsimp only);repeat rw [nC (by decide) hj]) rfl (fun j hj=>by simp only [bO hj (show 2<1000000 by decide),bO hj (show 3<1000000 by decide),cond_false]) (fun j hj=>by (try dsimp only);repeat rw [nC (by decide) hj]))) (jW (aQt (.inr (by decide)) fun j hj=> .inr (by simp only [bO hj (show 2<1000000 by decide),bO hj (show 3<1000000 by decide),Nat.reduceBEq,cond_true,cond_false];omega)) (bEf rfl (fun j hj=>by simp only [bO hj (show 2<1000000 by decide),bO hj (show 3<1000000 by decide),cond_false]))))
    ·
     refine AWp.exit ?_;refine kE ?_;refine jA ?_;refine iS ?_;refine bQ ?_;refine AWp.seq' ?_;refine sr (N':=192) rfl ?_;refine pA ?_;refine hp (id:=129) rfl rfl (kW (CFi .i64) (l:=[v]) underlying56 sz3 zc3 (by simp only [dV,Nat.reduceBEq,cond_false];exact qP (by decide)) Zd Zd Zd (by simp only [go_sem,Nat.reduceBEq];try rfl) (by kernel_rfl)) ?_;refine pA ?_;refine fs ?_;refine AWp.block ?_;refine AWp.loopM (fun m s=> ∃(l:List aE) (ls:List (List Int)) (lead:List Int) (pre:List Int) (q:List Int),s=(⟨103,(aF (aF (aF (aF (fun _=>AV.any) 1 (.sl (l.flatMap aV) l.length false)) 7 (.own 1 0 ls.length)) 10 (.own 2 0 lead.length)) 12 (.own 3 pre.length q.length)),⟨upd (upd (upd (eS ls) 1 (.cells 1 (cS ls) 0)) 2 (.cells 1 (lead.flatMap (ci .i64)) 0)) 3 (.cells 1 ((pre++q).flatMap (ci .i64)) 0),64⟩⟩:St)∧gV m l ls lead q=some r) aY ?_ ?_ ?_
     · rintro s ⟨_,_,_,_,_,_,h⟩;cases h
     · refine ⟨_,?_,l,ls,lead,[],[v],rfl,hm⟩;exact cP (fun j=>bif j==2 then 2 else bif j==3 then 129 else j) (bH _ _ (jG Z1 Z6 rfl (by simp [upd])) (bH _ _ (jG Z1 Z6 rfl (by simp [upd])) (bH _ _ (jG Z1 Z6 rfl (by simp [upd])) (wD (cL.sl _ _ _) dN)))) (gN _ (eU (CFi .i64) (eU (CFi .i64) (aSe (by simp only [dM,Nat.reduceBEq,cond_true,cond_false];try rfl) (fun j hj=>by (try dsimp only);repeat rw [nC (by decide) hj]) rfl (fun j hj=>by simp only [bO hj (show 2<1000000 by decide),bO hj (show 3<1000000 by decide),cond_false]) (fun j hj=>by (try dsimp only);repeat rw [nC (by decide) hj])))) (jW (qR (.inr (by decide)) (aQt (.inr (by decide)) fun j hj=> .inr (by simp only [bO hj (show 2<1000000 by decide),bO hj (show 3<1000000 by decide),Nat.reduceBEq,cond_true,cond_false];omega))) (jW (aQt (.inr (by decide)) fun j hj=> .inr (by simp only [bO hj (show 2<1000000 by decide),bO hj (show 3<1000000 by decide),Nat.reduceBEq,cond_true,cond_false];omega)) (bEf rfl (fun j hj=>by simp only [bO hj (show 2<1000000 by decide),bO hj (show 3<1000000 by decide),cond_false])))))
     ·
      rintro n3 s ⟨l,ls,lead,pre,q,rfl,hm⟩;replace hm:vR (gV n3) l ls lead q=some r:=hm;unfold vR at hm;refine AWp.seq' ?_;refine sr (N':=128) rfl ?_
      iterate 3 refine pA ?_
      refine fs ?_;refine AWp.condM hm Z1 (fun _ hm=>?_) (fun _ hm=>?_)
      ·
       refine AWp.skip ?_;refine bQ ?_;refine AWp.seq' ?_;refine AWp.block ?_;refine sr (N':=192) rfl ?_;refine pA ?_;obtain ⟨x,hx,hm⟩:=bnd hm;obtain ⟨_,ql,qg⟩:=aK7 hx;refine pu rfl (bMa underlying56 sz3 Z1 Z3 rfl Z1 hx) ?_
       refine pu rfl (hZ (r:= .v (.int .i64 x)) Z1 Z3 (by
        cases q with
        |nil=>simp at ql
        |cons y q=>
         simp at qg;subst qg;have hl:=(CFi .i64).fmlen pre;rw [Nat.mul_one] at hl;rw [List.flatMap_append,←hl];simp only [Int.toNat_zero,Nat.zero_mul,Nat.add_zero,List.drop_left];exact cA0 _ _ _)) ?_
       refine pA ?_;refine fs ?_;refine sr (N':=256) rfl ?_
       iterate 2 refine pA ?_
       obtain ⟨s,hs,hm⟩:=bnd hm;obtain ⟨s0,sl,sg⟩:=aK7 hs;refine pu rfl (iX underlying310 bBx Z1 Z3 rfl Z1 hs) ?_;refine pu rfl (hZ (r:= .own (1000000+x.toNat) 0 s.length) Z1 Z3 (by rw [Nat.mul_one,aWw sg];exact bOn _ _ _)) ?_;refine pu (r:= .v (.int .i64 s.length)) rfl (by simp only [go_sem,Nat.reduceBEq,aDb (show 3<1000000 by decide),aDb (show 2<1000000 by decide),aDb (show 1<1000000 by decide),cond_false,aKt sg];try rfl) ?_;refine pA ?_;refine fs ?_;refine AWp.block ?_;refine AWp.weaken (St.Le.slot (s:=⟨_,_,⟨_,_⟩⟩) 75 (.sl (s.flatMap (ci .i64)) s.length false) (ToD.ownWhole (id:=1000000+x.toNat) (sz:=1) (l:=s.length) (by simp only [dM,aDb (show 3<1000000 by decide),aDb (show 2<1000000 by decide),aDb (show 1<1000000 by decide),cond_false,aKt sg]) (fun _=>by rw [(CFi .i64).fmlen,Nat.mul_one]) (by rw [(CFi .i64).fmlen]) ((CFi .i64).fmdat s))) ?_;refine AWp.loopM (fun m st=> ∃(l:List aE) (ls:List (List Int)) (lead:List Int) (pre:List Int) (q:List Int) (x:Int) (t75:List Int) (t76:Int) (t77:Int),st=(⟨103,(aF (aF (aF (aF (aF (aF (aF (aF (fun _=>AV.any) 1 (.sl (l.flatMap aV) l.length false)) 7 (.own 1 0 ls.length)) 10 (.own 2 0 lead.length)) 12 (.own 3 pre.length q.length)) 13 (.v (.int .i64 x))) 75 (.sl (t75.flatMap (ci .i64)) t75.length false)) 76 (.v (.int .i64 t76))) 77 (.v (.int .i64 t77))),⟨upd (upd (upd (eS ls) 1 (.cells 1 (cS ls) 0)) 2 (.cells 1 (lead.flatMap (ci .i64)) 0)) 3 (.cells 1 ((pre++q).flatMap (ci .i64)) 0),64⟩⟩:St)∧oG (gV n3) m l ls lead q x t75 t76 t77=some r) aY ?_ ?_ ?_
       · rintro st ⟨_,_,_,_,_,_,_,_,_,_,h⟩;cases h
       · refine ⟨_,?_,l,ls,lead,pre,q,x,s,(s.length:Int),0,rfl,hm⟩;exact cP (fun j=>bif j==2 then 2 else bif j==3 then 3 else j) (wV (wV (wD ((CFi .i64).sl _ _ _) (wV (bH _ _ (jG Z1 Z6 rfl (by simp [upd])) (bH _ _ (jG Z1 Z6 rfl (by simp [upd])) (bH _ _ (jG Z1 Z6 rfl (by simp [upd])) (wD (cL.sl _ _ _) dN)))))))) (gN _ (eU (CFi .i64) (eU (CFi .i64) (aSe (by simp only [dM,Nat.reduceBEq,cond_true,cond_false];try rfl) (fun j hj=>by (try dsimp only);repeat rw [nC (by decide) hj]) rfl (fun j hj=>by simp only [bO hj (show 2<1000000 by decide),bO hj (show 3<1000000 by decide),cond_false]) (fun j hj=>by (try dsimp only);repeat rw [nC (by decide) hj])))) (jW (qR (.inr (by decide)) (aQt (.inr (by decide)) fun j hj=> .inr (by simp only [bO hj (show 2<1000000 by decide),bO hj (show 3<1000000 by decide),Nat.reduceBEq,cond_true,cond_false];omega))) (jW (aQt (.inr (by decide)) fun j hj=> .inr (by simp only [bO hj (show 2<1000000 by decide),bO hj (show 3<1000000 by decide),Nat.reduceBEq,cond_true,cond_false];omega)) (bEf rfl (fun j hj=>by simp only [bO hj (show 2<1000000 by decide),bO hj (show 3<1000000 by decide),cond_false])))))
       ·
        clear hm;rintro n4 st ⟨l,ls,lead,pre,q,x,t75,t76,t77,rfl,hm⟩;replace hm:vS (gV n3) (oG (gV n3) n4) l ls lead q x t75 t76 t77=some r:=hm;unfold vS at hm;refine sr (N':=128) rfl ?_;refine pA ?_;refine fs ?_;refine AWp.seq' ?_;refine AWp.condM hm Z1 (fun _ hm=>?_) (fun _ hm=>?_)
        ·
         refine AWp.skip ?_;refine bQ ?_;refine AWp.seq' ?_;refine AWp.block ?_;refine sr (N':=192) rfl ?_;obtain ⟨i,hi,hm⟩:=bnd hm;refine pu rfl (aGn (CFi .i64) Zd underlying56 sz3 Z1 rfl Z1 hi) ?_
         iterate 2 refine pA ?_
         refine fs ?_;refine sr (N':=256) rfl ?_
         iterate 3 refine pA ?_
         obtain ⟨y,hy,hm⟩:=bnd hm;refine pu rfl (iX underlying56 sz3 Z1 Z3 rfl Z1 hy) ?_;refine pu rfl (aAf (CFi .i64) Z1 Z3 hy (fun xs=>cA0 _ _ _)) ?_;refine pA ?_;refine fs ?_;refine AWp.condM hm Z1 (fun _ hm=>?_) (fun _ hm=>?_)
         ·
          refine sr (N':=320) rfl ?_
          iterate 2 refine pA ?_
          obtain ⟨e,he,hm⟩:=bnd hm;refine pu rfl (aGn cL Zd underlying28 aNu Z1 rfl Z1 he) ?_
          iterate 2 refine pA ?_
          obtain ⟨w,h6,hm⟩:=bnd hm;refine aR.callQ (r:= .v (.int .i64 w)) Zd Z1 bZq (fun H=>(cD (.agg _ (cL.dat _)) (cV .nil))) (aMy h6) ?_;refine pA ?_;refine fs ?_;refine sr (N':=384) rfl ?_
          iterate 3 refine pA ?_
          obtain ⟨lead1,h7,hm⟩:=bnd hm;obtain ⟨z,hz⟩:=bEd h7;refine pu rfl (iX underlying56 sz3 Z1 Z3 rfl Z1 hz) ?_;have qh7:=nG h7;refine aR.heap0 (id:=324) rfl (aGl (CFi .i64) sz3 Z1 Z1 Z3 rfl h7) ?_;refine fs ?_;refine AWp.reg 64 (N':=448) rfl ?_
          iterate 2 refine pA ?_
          refine hp (id:=386) rfl rfl (kW (CFi .i64) (l:=[w]) underlying56 sz3 zc3 (by simp only [dV,Nat.reduceBEq,cond_false];exact qP (by decide)) Zd Zd Zd (by simp only [go_sem,Nat.reduceBEq];try rfl) (by kernel_rfl)) ?_;obtain ⟨q1,h8,hm⟩:=bnd hm;refine hp (id:=387) rfl rfl (bR4 (pre:=pre) (l:=q) underlying56 underlying56 rfl in3 ts3 (by rw [tb3];decide) (by rw [tb3];decide) tz3 Zd Z1 rfl Z3 rfl (aAg (CFi .i64) Z1 Z3 Z6) rfl (by simp only [dV,Nat.reduceBEq,cond_false];exact qP (by decide)) h8) ?_;refine pA ?_;refine aR.fin ?_;refine jP ?_;refine bQ ?_;refine AWp.reg 64 (N':=512) rfl ?_
          iterate 2 refine pA ?_
          refine aR.fin ?_;refine iA ?_;refine ⟨_,?_,l,ls,lead1,[],q1,x,t75,t76,(IntKind.i64.wrap (t77+1)),rfl,hm⟩;exact cP (fun j=>bif j==2 then 2 else bif j==3 then 387 else j) (wV (wV (wD ((CFi .i64).sl _ _ _) (wV (bH _ _ (jG Z1 Z6 rfl (by simp [upd])) (bH _ _ (jG Z1 Z6 rfl (by simp [upd])) (bH _ _ (jG Z1 Z6 rfl (by simp [upd])) (wD (cL.sl _ _ _) dN)))))))) (gN _ (eU (CFi .i64) (eU (CFi .i64) (aSe (by simp only [dM,Nat.reduceBEq,cond_true,cond_false];try rfl) (fun j hj=>by (try dsimp only);repeat rw [nC (by decide) hj]) rfl (fun j hj=>by simp only [bO hj (show 2<1000000 by decide),bO hj (show 3<1000000 by decide),cond_false]) (fun j hj=>by (try dsimp only);repeat rw [nC (by decide) hj])))) (jW (qR (.inr (by decide)) (aQt (.inr (by decide)) fun j hj=> .inr (by simp only [bO hj (show 2<1000000 by decide),bO hj (show 3<1000000 by decide),Nat.reduceBEq,cond_true,cond_false];omega))) (jW (aQt (.inr (by decide)) fun j hj=> .inr (by simp only [bO hj (show 2<1000000 by decide),bO hj (show 3<1000000 by decide),Nat.reduceBEq,cond_true,cond_false];omega)) (bEf rfl (fun j hj=>by simp only [bO hj (show 2<1000000 by decide),bO hj (show 3<1000000 by decide),cond_false])))))
         ·
          refine AWp.skip ?_;refine jP ?_;refine bQ ?_;refine AWp.reg 64 (N':=320) rfl ?_
          iterate 2 refine pA ?_
          refine aR.fin ?_;refine iA ?_;refine ⟨_,?_,l,ls,lead,pre,q,x,t75,t76,(IntKind.i64.wrap (t77+1)),rfl,hm⟩;exact cP (fun j=>bif j==2 then 2 else bif j==3 then 3 else j) (wV (wV (wD ((CFi .i64).sl _ _ _) (wV (bH _ _ (jG Z1 Z6 rfl (by simp [upd])) (bH _ _ (jG Z1 Z6 rfl (by simp [upd])) (bH _ _ (jG Z1 Z6 rfl (by simp [upd])) (wD (cL.sl _ _ _) dN)))))))) (gN _ (eU (CFi .i64) (eU (CFi .i64) (aSe (by simp only [dM,Nat.reduceBEq,cond_true,cond_false];try rfl) (fun j hj=>by (try dsimp only);repeat rw [nC (by decide) hj]) rfl (fun j hj=>by simp only [bO hj (show 2<1000000 by decide),bO hj (show 3<1000000 by decide),cond_false]) (fun j hj=>by (try dsimp only);repeat rw [nC (by decide) hj])))) (jW (qR (.inr (by decide)) (aQt (.inr (by decide)) fun j hj=> .inr (by simp only [bO hj (show 2<1000000 by decide),bO hj (show 3<1000000 by decide),Nat.reduceBEq,cond_true,cond_false];omega))) (jW (aQt (.inr (by decide)) fun j hj=> .inr (by simp only [bO hj (show 2<1000000 by decide),bO hj (show 3<1000000 by decide),Nat.reduceBEq,cond_true,cond_false];omega)) (bEf rfl (fun j hj=>by simp only [bO hj (show 2<1000000 by decide),bO hj (show 3<1000000 by decide),cond_false])))))
        ·
         refine AWp.exit ?_;refine kE ?_;refine jA ?_;refine iS ?_;refine jP ?_;refine bQ ?_;obtain ⟨q1,h8,hm⟩:=bnd hm;obtain ⟨ht1,ht2⟩:=bQ7 h8;subst ht2;refine AWp.reg 64 (N':=192) rfl ?_;refine pA ?_;refine pu rfl (bRc underlying56 sz3 Z1 Z1 Z3 (by rw [(CFi .i64).fmlen,List.length_append];omega) ht1) ?_;refine pA ?_;refine aR.fin ?_;refine iA ?_
         obtain ⟨a,qt,rfl⟩: ∃a qt,q=a::qt:=by
          cases q with
          |nil=>simp at ht1
          |cons a qt=>exact ⟨a,qt,rfl⟩
         have happ:pre++a::qt=(pre++[a])++qt:=by simp
         rw [happ];refine ⟨_,?_,l,ls,lead,pre++[a],qt,rfl,hm⟩;have hpl:pre.length+1=(pre++[a]).length:=by simp
         rw [hpl];exact cP (fun j=>bif j==2 then 2 else bif j==3 then 3 else j) (bH _ _ (jG Z1 Z6 rfl (by simp [upd])) (bH _ _ (jG Z1 Z6 rfl (by simp [upd])) (bH _ _ (jG Z1 Z6 rfl (by simp [upd])) (wD (cL.sl _ _ _) dN)))) (gN _ (eU (CFi .i64) (eU (CFi .i64) (aSe (by simp only [dM,Nat.reduceBEq,cond_true,cond_false];try rfl) (fun j hj=>by (try dsimp only);repeat rw [nC (by decide) hj]) rfl (fun j hj=>by simp only [bO hj (show 2<1000000 by decide),bO hj (show 3<1000000 by decide),cond_false]) (fun j hj=>by (try dsimp only);repeat rw [nC (by decide) hj])))) (jW (qR (.inr (by decide)) (aQt (.inr (by decide)) fun j hj=> .inr (by simp only [bO hj (show 2<1000000 by decide),bO hj (show 3<1000000 by decide),Nat.reduceBEq,cond_true,cond_false];omega))) (jW (aQt (.inr (by decide)) fun j hj=> .inr (by simp only [bO hj (show 2<1000000 by decide),bO hj (show 3<1000000 by decide),Nat.reduceBEq,cond_true,cond_false];omega)) (bEf rfl (fun j hj=>by simp only [bO hj (show 2<1000000 by decide),bO hj (show 3<1000000 by decide),cond_false])))))
      ·
       refine AWp.exit ?_;refine kE ?_;refine jA ?_;refine iS ?_;refine bQ ?_;refine sr (N':=192) rfl ?_
       iterate 2 refine pA ?_
       refine fs ?_;refine AWp.ret ?_;cases hm;exact aNg (.inr rfl) Tryz.results221 (tdo (CFi .i64) Z1 Z3 Z6)
instance:Ct prog 221 (K3 prog vi (vl aV) vi (vl (ci .i64)) 221 uI):=⟨fun hm=>aX8 hm⟩
end Go.Proofs.YtkdohhmacfoolaaGreatDoor
