/- Facts. No condition. -/
import Derived.Test.YtkdohhmacfoolaaGreatDoorPgTot
set_option linter.unusedVariables false
set_option linter.unusedSimpArgs false
set_option maxRecDepth 20000
set_option maxHeartbeats 1000000
namespace Go.Proofs.YtkdohhmacfoolaaGreatDoor
open Go Go.AM Go.Pl
theorem wY{n:Int}(h: -4611686018427387904≤n∧n≤4611686018427387904):IntKind.i64.wrap n=n:=by rw [IntKind.wrap_i64];omega
theorem tW{p:Prop}(h:p:=by (try simp (disch:=omega) only [wY,true_and] at*);first|done|trivial|omega):p:=h
def AR(l:List Int):Prop:= ∀x,x∈l→0≤x∧x<18446744073709551616
def ln(l:List Int):Nat:=if (l.all fun x=>decide (0≤x)&&decide (x<18446744073709551616))=true then l.length else 1000000000
theorem bVo{l:List Int}(h:AR l):ln l=l.length:=by
 unfold ln;rw [if_pos];rw [List.all_eq_true];intro x hx;have:=h x hx;simp only [Bool.and_eq_true,decide_eq_true_eq];exact this
theorem aQ2{l:List Int}(h:ln l≤5000):l.length=ln l∧AR l:=by
 unfold ln at h⊢;split at h
 ·
  rename_i q;rw [if_pos q];refine ⟨rfl,fun x hx=>?_⟩;have:=List.all_eq_true.1 q x hx
  simpa only [Bool.and_eq_true,decide_eq_true_eq] using this
 · omega
section
variable {α β:Type}{Q:β→Prop}{l:List Int}{i x:Int}
theorem xI{f:Int→Option β}(h:0≤i∧i<ln l∧ln l≤5000)(k: ∀x,0≤x∧x<18446744073709551616→Tot (f x) Q):Tot ((idx l i).bind f) Q:=by
 obtain ⟨e,a⟩:=aQ2 h.2.2;have:idx l i=some (l[i.toNat]'(by omega)):=by unfold idx;rw [if_pos h.1,List.getElem?_eq_getElem]
 rw [this];exact k _ (a _ (List.getElem_mem _))
theorem xI'(h:0≤i∧i<ln l∧ln l≤5000):Tot (idx l i) (fun _=>True):=tI' (by have:=(aQ2 h.2.2).1;omega)
theorem xT{f:List Int→Option β}(h:0≤i∧i<ln l∧ln l≤5000)(hx:0≤x∧x<18446744073709551616)(k: ∀l':List Int,ln l'=ln l→Tot (f l') Q):Tot ((stt l i x).bind f) Q:=by
 obtain ⟨e,a⟩:=aQ2 h.2.2;have:stt l i x=some (l.set i.toNat x):=by unfold stt;rw [if_pos om]
 rw [this];refine k _ ?_;rw [bVo (l:=l.set i.toNat x) fun y hy=>?_,List.length_set,e];rcases List.mem_or_eq_of_mem_set hy with h|h
 · exact a y h
 · rw [h];exact hx
theorem xKe{g:α→List Int}{n:Nat}{o:Option α}{f:α→Option β}(h:Tot o fun x=>ln (g x)=n)(c:ln l=n∧n≤5000)(k: ∀x,ln (g x)=n→Tot (f x) Q):Tot ((aA9 (fun x=>(g x).length) l.length o).bind f) Q:=by
 obtain ⟨x,rfl,hx⟩:=h;have e1:=(aQ2 (l:=l) om).1;have e2:=(aQ2 (l:=g x) om).1;have:aA9 (fun x=>(g x).length) l.length (some x)=some x:=by unfold aA9;simp [show (g x).length=l.length by omega]
 rw [this];exact k x hx
theorem xKp{R:α→Prop}{g:α→List Int}{n:Nat}{o:Option α}{f:α→Option β}(h:Tot o fun x=>ln (g x)=n∧R x)(c:ln l=n∧n≤5000)(k: ∀x,ln (g x)=n∧R x→Tot (f x) Q):Tot ((aA9 (fun x=>(g x).length) l.length o).bind f) Q:=by
 obtain ⟨x,rfl,hx⟩:=h;have e1:=(aQ2 (l:=l) om).1;have e2:=(aQ2 (l:=g x) om).1;have:aA9 (fun x=>(g x).length) l.length (some x)=some x:=by unfold aA9;simp [show (g x).length=l.length by omega]
 rw [this];exact k x hx
end
theorem tA{Q:Prop}(h:Q:=by
 (repeat' (first|((with_reducible apply nx);exact tW)|((with_reducible apply nx2);exact tW)|((with_reducible refine xI ?_ fun _ _=>?_);exact tW)|((with_reducible refine xT ?_ ?_ fun _ _=>?_);exact tW;exact tW)|((with_reducible refine tG (fun c=>?_) fun _=>?_)<;>(try simp (disch:=omega) only [wY,beq_true,decide_eq_true_eq] at c))|((with_reducible refine xI' ?_);exact tW)|(with_reducible exact less _ _)|(with_reducible refine tB (less _ _) fun _ _=>?_)|((with_reducible refine tC (fun c=>?_) fun c=>?_)<;>(try simp (disch:=omega) only [wY,beq_true,Bool.not_eq_true',Bool.not_eq_false',Bool.and_eq_true,Bool.and_eq_false_iff,beq_iff_eq,beq_eq_false_iff_ne,decide_eq_true_eq,decide_eq_false_iff_not,ne_eq] at c))|((with_reducible refine tS ?_);first|assumption|omega|((try simp only []);omega)|(refine ⟨?_,?_,?_⟩<;>exact tW))|((with_reducible refine xKe (n:=n) ?_ ?_ fun _ _=>?_);((with_reducible apply cl);exact tW);omega)|((with_reducible apply ih);exact tW)|(exfalso;exact tW)))):Q:=h
theorem FUv:aY=1000000000000:=rfl
theorem bRj{x y:Int}(h0:0≤y)(h1:y<9223372036854775808):0≤yU .u64 x y∧yU .u64 x y≤y:=by
 unfold yU
 have e:(BitVec.ofInt 64 y).toNat=y.toNat:=by
  rw [BitVec.toNat_ofInt];have q:((2^64:Nat):Int)=18446744073709551616:=by decide
  rw [q,Int.emod_eq_of_lt h0 om]
 have l:(BitVec.ofInt 64 x &&& BitVec.ofInt 64 y).toNat≤y.toNat:=by
  rw [BitVec.toNat_and,e];exact Nat.and_le_right
 show 0≤IntKind.u64.wrap ((BitVec.ofInt 64 x &&& BitVec.ofInt 64 y).toNat:Int)∧IntKind.u64.wrap ((BitVec.ofInt 64 x &&& BitVec.ofInt 64 y).toNat:Int)≤y;generalize (BitVec.ofInt 64 x &&& BitVec.ofInt 64 y).toNat=k at l;rw [IntKind.wrap_u64];omega
theorem less(x y:Int):Tot (dC x y) fun _=>True:=by
 unfold dC oT;exact tB (P:=fun _=>True) (tS trivial) fun _ _=>tG (fun _=>tS trivial) fun _=>tS trivial
def blT(n:Nat):Bool:=match xU (IntKind.u64.wrap (n:Int)) with
  |some r=>decide (0≤r)&&(decide (n<8)||decide (1≤shl .u64 1 r∧shl .u64 1 r≤2*(n:Int)))
  |none=>false
theorem blA:(List.range 1101).all blT=true:=by decide+kernel
theorem bl1{n:Nat}(h:n≤1100):Tot (xU (IntKind.u64.wrap (n:Int))) fun r=>0≤r∧(8≤n→1≤shl .u64 1 r∧shl .u64 1 r≤2*(n:Int)):=by
 have:=List.all_eq_true.1 blA n (List.mem_range.2 om);unfold blT at this;split at this
 · rename_i r hr;simp only [Bool.and_eq_true,Bool.or_eq_true,decide_eq_true_eq] at this;exact ⟨r,hr,this.1,fun h8=>this.2.resolve_left om⟩
 · cases this
theorem cI6{α:Type}{l:List α}(h:l.length≤1100):Tot (xU (IntKind.u64.wrap (l.length:Int))) fun _=>True:=by
 obtain ⟨r,e,_⟩:=bl1 h;exact ⟨r,e,trivial⟩
theorem cJf{n:Int}(h:8≤n∧n≤1100):Tot (kK n) fun M=>1≤M∧M≤2*n:=by
 obtain ⟨k,rfl⟩: ∃k:Nat,n=(k:Int):=⟨n.toNat,by omega⟩
 unfold kK;refine tB (bl1 om) fun r hr=>?_;unfold chk;rw [bt (by simpa using hr.1),aA];exact tS (hr.2 om)
section
variable {n:Nat}(hn:n≤1100)
include hn in
theorem bAy{rec1:List Int→Int→Int→Int→Option (List Int)}{a b i:Int}(ha:0≤a)(hb:b≤n)(hi:i<b)(ha':a≤i)(nx: ∀(l:List Int) (a' b' i':Int),ln l=n∧a'=a∧b'=b∧i'=i+1→Tot (rec1 l a' b' i') fun l'=>ln l'=n):
 ∀(m:Nat) (l:List Int) (a' b' i' j:Int),(ln l=n∧a'=a∧b'=b∧i'=i∧a≤j∧j≤i∧0<m∧j-a<m)→Tot (eT rec1 m l a' b' i' j) fun l'=>ln l'=n
 |0,l,a',b',i',j,h=>by omega
 |m+1,l,a',b',i',j,h=>by
  show Tot (jK rec1 (eT rec1 m) l a' b' i' j) _;unfold jK;have ih:=bAy ha hb hi ha' nx m;exact tA
include hn in
theorem bAx{a b:Int}(ha:0≤a)(hb:b≤n): ∀(m:Nat) (l:List Int) (a' b' i:Int),(ln l=n∧a'=a∧b'=b∧a≤i∧0<m∧b-i<m)→Tot (dU m l a' b' i) fun l'=>ln l'=n
 |0,l,a',b',i,h=>by omega
 |m+1,l,a',b',i,h=>by
  have hF:=FUv;show Tot (jJ (dU m) l a' b' i) _;unfold jJ;obtain ⟨h1,rfl,rfl,h4,h5,h6⟩:=h;refine tC (fun c=>?_) fun c=>tS h1;simp only [decide_eq_true_eq] at c;exact bAy hn ha hb c h4 (fun l a' b' i' q=>bAx ha hb m _ _ _ _ om) aY _ _ _ _ _ om
include hn in
theorem cAt{l:List Int}{a b:Int}(h:ln l=n∧0≤a∧a≤b∧b≤n):Tot (fD l a b) fun l'=>ln l'=n:=by
 have hF:=FUv;unfold fD;rw [wY om];exact bAx hn h.2.1 h.2.2.2 aY _ _ _ _ om
include hn in
theorem aVx{hi first:Int}(h1:0≤first)(h2:first+hi≤n): ∀(m:Nat) (l:List Int) (hi' first' root:Int),(ln l=n∧hi'=hi∧first'=first∧0≤root∧root≤n∧0<m∧hi-root<m)→Tot (eX m l hi' first' root) fun l'=>ln l'=n
 |0,l,hi',first',root,h=>by omega
 |m+1,l,hi',first',root,h=>by
  show Tot (lG (eX m) l hi' first' root) _;unfold lG;have ih:=aVx h1 h2 m;obtain ⟨h3,rfl,rfl,h4,h5,h6,h7⟩:=h
  have nx: ∀c:Int,(root<c∧c<hi')→Tot (iZ (eX m) l hi' first' root c) fun l'=>ln l'=n:=fun c hc=>by
   unfold iZ;exact tA
  exact tA
include hn in
theorem bPh(l:List Int)(lo hi first:Int)(h:ln l=n∧0≤lo∧lo≤n∧0≤first∧first+hi≤n):Tot (fK l lo hi first) fun l'=>ln l'=n:=by
 have hF:=FUv;unfold fK;exact aVx hn h.2.2.2.1 h.2.2.2.2 aY _ _ _ _ om
include hn in
theorem aVw{first:Int}(h1:0≤first): ∀(m:Nat) (l:List Int) (first' lo i:Int),(ln l=n∧first'=first∧lo=0∧ -1≤i∧first+i<n∧0<m∧i+1<m)→Tot (gQ m l first' lo i) fun l'=>ln l'=n
 |0,l,first',lo,i,h=>by omega
 |m+1,l,first',lo,i,h=>by
  show Tot (lF (gQ m) l first' lo i) _;unfold lF;have ih:=aVw h1 m;have cl:=bPh hn;exact tA
include hn in
theorem aVv{first hi:Int}(h1:0≤first)(h2:0≤hi)(h3:first+hi≤n): ∀(m:Nat) (l:List Int) (first' lo hi' i:Int),(ln l=n∧first'=first∧lo=0∧hi'=hi∧ -1≤i∧i≤hi∧0<m∧i+1<m)→Tot (gP m l first' lo hi' i) fun l'=>ln l'=n
 |0,l,first',lo,hi',i,h=>by omega
 |m+1,l,first',lo,hi',i,h=>by
  have hF:=FUv;show Tot (lD (gP m) l first' lo hi' i) _;unfold lD;have ih:=aVv h1 h2 h3 m;have cl:=bPh hn;have nx:=aVw hn h1 aY;exact tA
include hn in
theorem bXt{l:List Int}{a b:Int}(h:ln l=n∧0≤a∧a+1≤b∧b≤n):Tot (iB l a b) fun l'=>ln l'=n:=by
 have hF:=FUv;unfold iB;have d: -1≤Int.tdiv (b-a-1) 2∧Int.tdiv (b-a-1) 2≤b-a:=by rw [Int.tdiv_eq_ediv_of_nonneg om];omega
 rw [wY (n:=b-a) om,wY (n:=b-a-1) om,wY om];exact aVv hn (first:=a) (hi:=b-a) h.2.1 om om aY _ _ _ _ _ om
include hn in
theorem bAw{a len M:Int}(ha:0≤a)(hl:8≤len)(hb:a+len≤n)(hM:1≤M∧M≤2*len): ∀(m:Nat) (l:List Int) (a' len' r M' i:Int),(ln l=n∧a'=a∧len'=len∧M'=M∧a+len.tdiv 4*2-1≤i∧i≤a+len.tdiv 4*2+2∧0<m∧a+len.tdiv 4*2+2-i<m)→Tot (bW m l a' len' r M' i) fun l'=>ln l'=n
 |0,l,a',len',r,M',i,h=>by omega
 |m+1,l,a',len',r,M',i,h=>by
  show Tot (eR (bW m) l a' len' r M' i) _;have:=hn;unfold eR;have ih:=bAw ha hl hb hM m;obtain ⟨h3,rfl,rfl,rfl,h4,h5,h6,h7⟩:=h;have d:2≤len'.tdiv 4∧len'.tdiv 4*4≤len':=by rw [Int.tdiv_eq_ediv_of_nonneg om];omega
  refine tC (fun c=>?_) fun c=>tS h3;simp (disch:=omega) only [wY,decide_eq_true_eq] at c
  have nx: ∀(r' o:Int),(0≤o∧o<len')→Tot (dT (bW m) l a' len' r' M' i o) fun l'=>ln l'=n:=fun r' o ho=>by
   unfold dT gZ;exact tA
  refine tB (P:=fun _=>True) (tS trivial) fun x _=>?_;obtain ⟨r5,x4⟩:=x;have w:IntKind.u64.wrap (M'-1)=M'-1:=by rw [IntKind.wrap_u64];omega
  have hbd:=bRj (x:=r5) (y:=M'-1) om om;simp only [w];generalize yU .u64 r5 (M'-1)=o at hbd;exact tA
include hn in
theorem cAs(l:List Int)(a b:Int)(h:ln l=n∧0≤a∧a+13≤b∧b≤n):Tot (fC l a b) fun l'=>ln l'=n:=by
 have hF:=FUv;unfold fC;rw [wY (n:=b-a) om];refine tC (fun c=>?_) fun c=>tS h.1;refine tB (cJf om) fun M hM=>?_;have d:2≤(b-a).tdiv 4∧(b-a).tdiv 4*4≤b-a:=by rw [Int.tdiv_eq_ediv_of_nonneg om];omega
 rw [wY (n:=(b-a).tdiv 4) om,wY (n:=(b-a).tdiv 4*2) om,wY (n:=a+(b-a).tdiv 4*2) om,wY om];exact bAw hn (a:=a) (len:=b-a) (M:=M) h.2.1 om om hM aY _ _ _ _ _ _ om
include hn in
theorem bEv{l:List Int}{lo hi a b s:Int}(h:ln l=n∧0≤lo∧hi≤n∧lo≤a∧a<hi∧lo≤b∧b<hi):Tot (eP l a b s) fun x=>lo≤x.1∧x.1<hi∧lo≤x.2.1∧x.2.1<hi:=by
 have:=hn;unfold eP;refine xI om fun _ _=>xI om fun _ _=>tB (less _ _) fun _ _=>tC (fun _=>tS ?_) fun _=>tS ?_<;>(simp only [];omega)
include hn in
theorem bVr{l:List Int}{lo hi a b c s:Int}(h:ln l=n∧0≤lo∧hi≤n∧lo≤a∧a<hi∧lo≤b∧b<hi∧lo≤c∧c<hi):Tot (fW l a b c s) fun x=>lo≤x.1∧x.1<hi:=by
 unfold fW;refine tB (bEv hn (lo:=lo) (hi:=hi) om) fun x hx=>?_;obtain ⟨r3,r4,x2⟩:=x;simp only [] at hx⊢;refine tB (bEv hn (lo:=lo) (hi:=hi) om) fun y hy=>?_;obtain ⟨r7,r8,x6⟩:=y;simp only [] at hy⊢;refine tB (bEv hn (lo:=lo) (hi:=hi) om) fun z hz=>?_;obtain ⟨r11,r12,x10⟩:=z;simp only [] at hz⊢;exact tS (by simp only [];omega)
include hn in
theorem bPe{l:List Int}{lo hi a s:Int}(h:ln l=n∧0≤lo∧hi≤n∧lo+1≤a∧a+1<hi):Tot (dA l a s) fun x=>lo≤x.1∧x.1<hi:=by
 unfold dA;rw [wY om,wY om];refine tB (bVr hn (lo:=lo) (hi:=hi) om) fun x hx=>?_;obtain ⟨r3,x2⟩:=x;exact tS hx
include hn in
theorem cAv{l:List Int}{a b:Int}(h:ln l=n∧0≤a∧a+13≤b∧b≤n):Tot (fT l a b) fun x=>a≤x.1∧x.1<b:=by
 unfold fT;have d:2≤(b-a).tdiv 4∧(b-a).tdiv 4*4≤b-a:=by rw [Int.tdiv_eq_ediv_of_nonneg om];omega
 rw [wY (n:=b-a) om,wY (n:=(b-a).tdiv 4) om,wY (n:=(b-a).tdiv 4*1) om,wY (n:=(b-a).tdiv 4*2) om,wY (n:=(b-a).tdiv 4*3) om,wY (n:=a+(b-a).tdiv 4*1) om,wY (n:=a+(b-a).tdiv 4*2) om,wY (n:=a+(b-a).tdiv 4*3) om]
 have J1: ∀s j:Int,a≤j∧j<b→Tot (fL s j) fun x=>a≤x.1∧x.1<b:=fun s j hj=>by
  unfold fL;exact tC (fun _=>tS hj) fun _=>tC (fun _=>tS hj) fun _=>tS hj
 have J2: ∀s i j k:Int,(a≤i∧i<b∧a≤j∧j<b∧a≤k∧k<b)→Tot (fN l s i j k) fun x=>a≤x.1∧x.1<b:=fun s i j k hj=>by
  unfold fN;refine tB (bVr hn (lo:=a) (hi:=b) om) fun x hx=>?_;obtain ⟨r3,x2⟩:=x;exact J1 _ _ hx
 generalize (b-a).tdiv 4=q at d;refine tC (fun c=>tC (fun c'=>?_) fun c'=>J2 _ _ _ _ om) fun c=>J1 _ _ om;refine tB (bPe hn (lo:=a) (hi:=b) om) fun x hx=>?_;obtain ⟨r6,x5⟩:=x;simp only [] at hx⊢;refine tB (bPe hn (lo:=a) (hi:=b) om) fun x hx=>?_;obtain ⟨r9,x8⟩:=x;simp only [] at hx⊢;refine tB (bPe hn (lo:=a) (hi:=b) om) fun x hx=>?_;obtain ⟨r12,x11⟩:=x;simp only [] at hx⊢;exact J2 _ _ _ _ om
include hn in
theorem bB3{a b:Int}(ha:0≤a)(hb:b≤n): ∀(m:Nat) (l:List Int) (i j:Int),(ln l=n∧a≤i∧j<b∧i≤n∧ -2≤j∧0<m∧j-i<m)→Tot (fE m l i j) fun l'=>ln l'=n
 |0,l,i,j,h=>by omega
 |m+1,l,i,j,h=>by
  show Tot (jQ (fE m) l i j) _;have:=hn;unfold jQ;have ih:=bB3 ha hb m;exact tA
include hn in
theorem cAw(l:List Int)(a b:Int)(h:ln l=n∧0≤a∧a≤b∧b≤n):Tot (fO l a b) fun l'=>ln l'=n:=by
 have hF:=FUv;unfold fO;rw [wY om];exact bB3 hn h.2.1 h.2.2.2 aY _ _ _ om
include hn in
theorem bB1{rec1:List Int→Int→Int→Int→Int→Option (Bool×List Int)}{a b i j:Int}(hb:b≤n)(hi:0≤i)(nx: ∀(l:List Int) (a' b' i' j':Int),(ln l=n∧a'=a∧b'=b∧i'=i∧j'=j)→Tot (bZ rec1 l a' b' i' j') fun x=>ln x.2=n):
 ∀(m:Nat) (l:List Int) (a' b' i' j' k:Int),(ln l=n∧a'=a∧b'=b∧i'=i∧j'=j∧i<k∧0<m∧b-k<m)→Tot (dJ rec1 m l a' b' i' j' k) fun x=>ln x.2=n
 |0,l,a',b',i',j',k,h=>by omega
 |m+1,l,a',b',i',j',k,h=>by
  show Tot (iG rec1 (dJ rec1 m) l a' b' i' j' k) _;unfold iG;have ih:=bB1 hb hi nx m;exact tA
include hn in
theorem bPg{rec1:List Int→Int→Int→Int→Int→Option (Bool×List Int)}{a b i j:Int}(hb:b≤n)(hi:0≤i)(hi':i≤b)(nx: ∀(l:List Int) (a' b' i' j':Int),(ln l=n∧a'=a∧b'=b∧i'=i∧j'=j)→Tot (bZ rec1 l a' b' i' j') fun x=>ln x.2=n):
 ∀(l:List Int) (a' b' i' j':Int),(ln l=n∧a'=a∧b'=b∧i'=i∧j'=j)→Tot (cR rec1 l a' b' i' j') fun x=>ln x.2=n:=fun l a' b' i' j' h=>by
 have hF:=FUv;unfold cR;have nx2:=bB1 hn hb hi nx aY;exact tA
include hn in
theorem bB2{rec1:List Int→Int→Int→Int→Int→Option (Bool×List Int)}{a b i j:Int}(hb:b≤n)(hi:0≤i)(hi':i<b)(nx: ∀(l:List Int) (a' b' i' j':Int),(ln l=n∧a'=a∧b'=b∧i'=i∧j'=j)→Tot (cR rec1 l a' b' i' j') fun x=>ln x.2=n):
 ∀(m:Nat) (l:List Int) (a' b' i' j' k:Int),(ln l=n∧a'=a∧b'=b∧i'=i∧j'=j∧k<i∧ -1≤k∧0<m∧k<m)→Tot (dK rec1 m l a' b' i' j' k) fun x=>ln x.2=n
 |0,l,a',b',i',j',k,h=>by omega
 |m+1,l,a',b',i',j',k,h=>by
  show Tot (iH rec1 (dK rec1 m) l a' b' i' j' k) _;unfold iH;have ih:=bB2 hb hi hi' nx m;exact tA
include hn in
theorem bB0{rec1:List Int→Int→Int→Int→Int→Option (Bool×List Int)}{a b j:Int}(ha:0≤a)(hb:b≤n)(hj:0≤j∧j<5)(nx: ∀(l:List Int) (a' b' i' j':Int),(ln l=n∧a'=a∧b'=b∧a+1≤i'∧i'≤b∧j'=j+1)→Tot (rec1 l a' b' i' j') fun x=>ln x.2=n):
 ∀(m:Nat) (l:List Int) (a' b' i j':Int),(ln l=n∧a'=a∧b'=b∧a+1≤i∧i≤b∧j'=j∧0<m∧b-i<m)→Tot (dI rec1 m l a' b' i j') fun x=>ln x.2=n
 |0,l,a',b',i,j',h=>by omega
 |m+1,l,a',b',i,j',h=>by
  have hF:=FUv;show Tot (iF rec1 (dI rec1 m) l a' b' i j') _;unfold iF;have ih:=bB0 ha hb hj nx m
  have j1: ∀(l:List Int) (a'' b'' i'' j'':Int),(ln l=n∧a''=a∧b''=b∧i''=i∧j''=j)→Tot (bZ rec1 l a'' b'' i'' j'') fun x=>ln x.2=n:=fun l a'' b'' i'' j'' q=>by
   unfold bZ;rw [wY om];exact nx _ _ _ _ _ om
  clear nx;have nx:=bPg hn hb om om j1
  by_cases hib:i<b
  · have nx2:=bB2 hn hb om hib nx aY;clear j1;exact tA
  · clear j1;exact tA
include hn in
theorem bAz{a b:Int}(ha:0≤a)(hb:b≤n): ∀(m:Nat) (l:List Int) (a' b' i j:Int),(ln l=n∧a'=a∧b'=b∧a+1≤i∧i≤b∧0≤j∧j≤5∧0<m∧5-j<m)→Tot (bR m l a' b' i j) fun x=>ln x.2=n
 |0,l,a',b',i,j,h=>by omega
 |m+1,l,a',b',i,j,h=>by
  have hF:=FUv;show Tot (iE (bR m) l a' b' i j) _;unfold iE;refine tC (fun c=>?_) fun c=>tS h.1;simp only [decide_eq_true_eq] at c;exact bB0 hn (a:=a) (b:=b) (j:=j) ha hb om (fun l a' b' i' j' q=>bAz ha hb m _ _ _ _ _ om) aY _ _ _ _ _ om
include hn in
theorem cAu{l:List Int}{a b:Int}(h:ln l=n∧0≤a∧a+13≤b∧b≤n):Tot (dO l a b) fun x=>ln x.2=n:=by
 have hF:=FUv;unfold dO;rw [wY om];exact bAz hn h.2.1 h.2.2.2 aY _ _ _ _ _ om
include hn in
theorem bGr{rec1:List Int→Int→Int→Int→Option (Int×List Int)}{a b i J:Int}(ha:0≤a)(hb:b≤n)(hi:a+1≤i∧i≤b)(hJ:J<b)(nx: ∀(l:List Int) (a' i' j':Int),(ln l=n∧a'=a∧i'=i+1∧i≤j'+1∧j'<J)→Tot (rec1 l a' i' j') fun x=>ln x.2=n∧a<x.1∧x.1≤b):
 ∀(m:Nat) (l:List Int) (a' i' j:Int),(ln l=n∧a'=a∧i'=i∧a≤j∧j≤J∧0<m∧j-a<m)→Tot (eG rec1 m l a' i' j) fun x=>ln x.2=n∧a<x.1∧x.1≤b
 |0,l,a',i',j,h=>by omega
 |m+1,l,a',i',j,h=>by
  show Tot (jF rec1 (eG rec1 m) l a' i' j) _;unfold jF;have ih:=bGr ha hb hi hJ nx m;exact tA
include hn in
theorem bGq{rec1:List Int→Int→Int→Int→Option (Int×List Int)}{a b I j:Int}(ha:0≤a)(hb:b≤n)(hI:a+1≤I)(hj:a≤j∧j<b)(nx: ∀(l:List Int) (a' i' j':Int),(ln l=n∧a'=a∧I<i'∧i'≤b∧a≤j'∧j'<j)→Tot (rec1 l a' i' j') fun x=>ln x.2=n∧a<x.1∧x.1≤b):
 ∀(m:Nat) (l:List Int) (a' i j':Int),(ln l=n∧a'=a∧j'=j∧I≤i∧i≤b∧0<m∧b-i<m)→Tot (eE rec1 m l a' i j') fun x=>ln x.2=n∧a<x.1∧x.1≤b
 |0,l,a',i,j',h=>by omega
 |m+1,l,a',i,j',h=>by
  have hF:=FUv;show Tot (jE rec1 (eE rec1 m) l a' i j') _;unfold jE;have ih:=bGq ha hb hI hj nx m;have nx2:=bGr hn (rec1:=rec1) (a:=a) (b:=b) (i:=i) (J:=j) ha hb om hj.2 (fun l a' i' j' q=>nx _ _ _ _ om) aY;clear nx;exact tA
include hn in
theorem bGp{a b:Int}(ha:0≤a)(hb:b≤n): ∀(m:Nat) (l:List Int) (a' i j:Int),(ln l=n∧a'=a∧a+1≤i∧i≤b∧a≤j∧j<b∧0<m∧j-a<m)→Tot (cU m l a' i j) fun x=>ln x.2=n∧a<x.1∧x.1≤b
 |0,l,a',i,j,h=>by omega
 |m+1,l,a',i,j,h=>by
  have hF:=FUv;show Tot (jD (cU m) l a' i j) _;unfold jD;exact bGq hn (I:=i) (j:=j) ha hb om om (fun l a' i' j' q=>bGp ha hb m _ _ _ _ om) aY _ _ _ _ om
include hn in
theorem cJh{l:List Int}{a b p:Int}(h:ln l=n∧0≤a∧a+13≤b∧b≤n∧a≤p∧p<b):Tot (eW l a b p) fun x=>ln x.2=n∧a<x.1∧x.1≤b:=by
 have hF:=FUv;unfold eW;have nx:=bGp hn (a:=a) (b:=b) h.2.1 h.2.2.2.1 aY;exact tA
include hn in
theorem bGo{rec3:List Int→Int→Int→Int→Option (Int×Bool×List Int)}{a b i J:Int}(ha:0≤a)(hb:b≤n)(hi:a+1≤i∧i≤b)(hJ:J<b)(nx: ∀(l:List Int) (a' i' j':Int),(ln l=n∧a'=a∧i'=i+1∧i≤j'+1∧j'<J)→Tot (rec3 l a' i' j') fun x=>ln x.2.2=n∧a≤x.1∧x.1<b):
 ∀(m:Nat) (l:List Int) (a' i' j:Int),(ln l=n∧a'=a∧i'=i∧a≤j∧j≤J∧0<m∧j-a<m)→Tot (gF rec3 m l a' i' j) fun x=>ln x.2.2=n∧a≤x.1∧x.1<b
 |0,l,a',i',j,h=>by omega
 |m+1,l,a',i',j,h=>by
  show Tot (kT rec3 (gF rec3 m) l a' i' j) _;unfold kT;have ih:=bGo ha hb hi hJ nx m;exact tA
include hn in
theorem bGn{rec3:List Int→Int→Int→Int→Option (Int×Bool×List Int)}{a b I j:Int}(ha:0≤a)(hb:b≤n)(hI:a+1≤I)(hj:a≤j∧j<b)(nx: ∀(l:List Int) (a' i' j':Int),(ln l=n∧a'=a∧I<i'∧i'≤b∧a≤j'∧j'<j)→Tot (rec3 l a' i' j') fun x=>ln x.2.2=n∧a≤x.1∧x.1<b):
 ∀(m:Nat) (l:List Int) (a' i j':Int),(ln l=n∧a'=a∧j'=j∧I≤i∧i≤b∧0<m∧b-i<m)→Tot (gD rec3 m l a' i j') fun x=>ln x.2.2=n∧a≤x.1∧x.1<b
 |0,l,a',i,j',h=>by omega
 |m+1,l,a',i,j',h=>by
  have hF:=FUv;show Tot (kS rec3 (gD rec3 m) l a' i j') _;unfold kS;have ih:=bGn ha hb hI hj nx m;have nx2:=bGo hn (rec3:=rec3) (a:=a) (b:=b) (i:=i) (J:=j) ha hb om hj.2 (fun l a' i' j' q=>nx _ _ _ _ om) aY;clear nx;exact tA
include hn in
theorem bGm{a b:Int}(ha:0≤a)(hb:b≤n): ∀(m:Nat) (l:List Int) (a' i j:Int),(ln l=n∧a'=a∧a+1≤i∧i≤b∧a≤j∧j<b∧0<m∧j-a<m)→Tot (dQ m l a' i j) fun x=>ln x.2.2=n∧a≤x.1∧x.1<b
 |0,l,a',i,j,h=>by omega
 |m+1,l,a',i,j,h=>by
  have hF:=FUv;show Tot (kR (dQ m) l a' i j) _;unfold kR;exact bGn hn (I:=i) (j:=j) ha hb om om (fun l a' i' j' q=>bGm ha hb m _ _ _ _ om) aY _ _ _ _ om
include hn in
theorem bGl{a b i J:Int}(ha:0≤a)(hb:b≤n)(hi:a+1≤i∧i≤b)(hJ:J<b):
 ∀(m:Nat) (l:List Int) (a' i' j:Int),(ln l=n∧a'=a∧i'=i∧a≤j∧j≤J∧0<m∧j-a<m)→Tot (fZ m l a' i' j) fun x=>ln x.2.2=n∧a≤x.1∧x.1<b
 |0,l,a',i',j,h=>by omega
 |m+1,l,a',i',j,h=>by
  have hF:=FUv;show Tot (kQ (fZ m) l a' i' j) _;unfold kQ;have ih:=bGl ha hb hi hJ m;have nx:=bGm hn ha hb aY;exact tA
include hn in
theorem bGk{a b j:Int}(ha:0≤a)(hb:b≤n)(hj:a≤j∧j<b):
 ∀(m:Nat) (l:List Int) (a' i j':Int),(ln l=n∧a'=a∧j'=j∧a+1≤i∧i≤b∧0<m∧b-i<m)→Tot (fY m l a' i j') fun x=>ln x.2.2=n∧a≤x.1∧x.1<b
 |0,l,a',i,j',h=>by omega
 |m+1,l,a',i,j',h=>by
  have hF:=FUv;show Tot (kP (fY m) l a' i j') _;unfold kP;have ih:=bGk ha hb hj m;have nx2:=bGl hn (a:=a) (b:=b) (i:=i) (J:=j) ha hb om hj.2 aY;exact tA
include hn in
theorem cJg{l:List Int}{a b p:Int}(h:ln l=n∧0≤a∧a+13≤b∧b≤n∧a≤p∧p<b):Tot (gS l a b p) fun x=>ln x.2.2=n∧a≤x.1∧x.1<b:=by
 have hF:=FUv;unfold gS;have nx:=bGk hn (a:=a) (b:=b) (j:=b-1) h.2.1 h.2.2.2.1 om aY;exact tA
include hn in
theorem bGj{N:Nat}{recf:List Int→Int→Int→Int→Option (List Int)}(rf: ∀(l:List Int) (a b k:Int),(ln l=n∧0≤a∧a≤b∧b≤n∧b-a<N)→Tot (recf l a b k) fun l'=>ln l'=n):
 ∀(m:Nat) (l:List Int) (a b k:Int) (x y:Bool),(ln l=n∧0≤a∧a≤b∧b≤n∧b-a≤N∧0<m∧b-a<m)→Tot (bN recf m l a b k x y) fun l'=>ln l'=n
 |0,l,a,b,k,x,y,h=>by omega
 |m+1,l,a,b,k,x,y,h=>by
  have hF:=FUv;show Tot (iC recf (bN recf m) l a b k x y) _;unfold iC;have ih:=bGj rf m;rw [wY (n:=b-a) om];refine tC (fun c=>xKe (cAt hn om) om fun _ h=>tS h) fun c=>?_;simp only [decide_eq_false_iff_not] at c;refine tC (fun _=>xKe (bXt hn om) om fun _ h=>tS h) fun _=>?_
  have j3: ∀(l:List Int) (k p:Int),(ln l=n∧a≤p∧p<b)→Tot (fJ recf (bN recf m) l a b k x y (b-a) p) fun l'=>ln l'=n:=fun l k p hp=>by
   unfold fJ;refine tG (fun c=>?_) fun _=>tG (fun c=>?_) fun _=>tG (fun _=>less _ _) fun _=>tC (fun _=>?_) fun _=>?_
   · simp only [beq_true,decide_eq_true_eq] at c;exact xI' tW
   · exact xI' tW
   · refine xKp (cJh hn om) om fun x hx=>?_;obtain ⟨r,l2⟩:=x;simp only [] at hx⊢;exact ih _ _ _ _ _ _ om
   ·
    refine xKp (cJg hn om) om fun x hx=>?_;obtain ⟨r,r2,l2⟩:=x;simp only [] at hx⊢;refine tC (fun _=>?_) fun _=>?_
    · refine xKe (rf _ _ _ _ om) om fun l3 h3=>?_;rw [wY (n:=r+1) om];exact ih _ _ _ _ _ _ om
    · rw [wY (n:=r+1) om];refine xKe (rf _ _ _ _ om) om fun l3 h3=>?_;exact ih _ _ _ _ _ _ om
  have j2: ∀(l:List Int) (k p q:Int),(ln l=n∧a≤p∧p<b)→Tot (fI recf (bN recf m) l a b k x y (b-a) p q) fun l'=>ln l'=n:=fun l k p q hp=>by
   unfold fI;refine tC (fun _=>?_) fun _=>j3 _ _ _ hp;refine xKe (cAu hn om) om fun x hx=>?_;obtain ⟨r,l2⟩:=x;exact tC (fun _=>tS hx) fun _=>j3 _ _ _ ⟨hx,hp.2⟩
  have j1: ∀(l:List Int) (k:Int),ln l=n→Tot (fH recf (bN recf m) l a b k x y (b-a)) fun l'=>ln l'=n:=fun l k hl=>by
   unfold fH;refine tB (cAv hn om) fun x hx=>?_;obtain ⟨r6,r7⟩:=x;simp only [] at hx⊢;refine tC (fun _=>?_) fun _=>j2 _ _ _ _ ⟨hl,hx⟩;refine xKe (cAw hn _ _ _ om) om fun l2 h2=>?_;rw [wY (n:=b-1) om,wY (n:=r6-a) om,wY om];exact j2 _ _ _ _ om
  refine tC (fun _=>?_) fun _=>j1 _ _ h.1;refine xKe (cAs hn _ _ _ om) om fun l2 h2=>j1 _ _ h2
include hn in
theorem bPf: ∀(N:Nat) (l:List Int) (a b k:Int),(ln l=n∧0≤a∧a≤b∧b≤n∧b-a<N)→Tot (bI N l a b k) fun l'=>ln l'=n
 |0,l,a,b,k,h=>by omega
 |N+1,l,a,b,k,h=>by
  have hF:=FUv;show Tot (bN (bI N) aY l a b k true true) _;exact bGj hn (bPf N) aY _ _ _ _ _ _ om
end
theorem bQ8{l:List Int}(hl:l.length≤1100)(hr:AR l):Tot (lH l) fun l'=>l'.length=l.length∧AR l':=by
 have hF:=FUv;have e:=bVo hr;unfold lH;refine tB (cI6 hl) fun r _=>?_;refine xKe (g:=fun x=>x) (bPf (n:=l.length) om aY _ _ _ _ om) om fun x hx=>tS ?_;have:=aQ2 (l:=x) om;exact ⟨by omega,this.2⟩
end Go.Proofs.YtkdohhmacfoolaaGreatDoor
