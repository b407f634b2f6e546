/- Facts. No condition. -/
import Derived.Test.YtkdohhmacfoolaaGreatNqGI7
set_option linter.unusedVariables false
set_option linter.unusedSimpArgs false
set_option maxRecDepth 20000
set_option maxHeartbeats 1000000
namespace Go.Proofs.YtkdohhmacfoolaaGreat
open Go Go.AM Go.Pl
def Tot{α:Type}(o:Option α)(P:α→Prop):Prop:= ∃x,o=some x∧P x
section
variable {α β:Type}{P:α→Prop}{Q:β→Prop}
theorem tS{x:α}(h:P x):Tot (some x) P:=⟨x,rfl,h⟩
theorem tB{o:Option α}{f:α→Option β}(h:Tot o P)(k: ∀x,P x→Tot (f x) Q):Tot (o.bind f) Q:=by
 obtain ⟨x,rfl,hx⟩:=h;exact k x hx
theorem tC{b:Bool}{x y:Option α}(h:b=true→Tot x P)(k:b=false→Tot y P):Tot (bif b then x else y) P:=by cases b;exact k rfl;exact h rfl
theorem tG{b:Bool}{d:α}{o:Option α}{f:α→Option β}(h:b=true→Tot o (fun _=>True))(k: ∀x,Tot (f x) Q):Tot ((dX b d o).bind f) Q:=by
 cases b with
 |false=>exact k d
 |true=>obtain ⟨x,e,_⟩:=h rfl;subst e;exact k x
theorem tI{l:List α}{i:Int}{f:α→Option β}(h:0≤i∧i<l.length)(k: ∀x,Tot (f x) Q):Tot ((idx l i).bind f) Q:=by
 have:idx l i=some (l[i.toNat]'(by omega)):=by unfold idx;rw [if_pos h.1,List.getElem?_eq_getElem]
 rw [this];exact k _
theorem tI'{l:List α}{i:Int}(h:0≤i∧i<l.length):Tot (idx l i) (fun _=>True):=
 ⟨l[i.toNat]'(by omega),by unfold idx;rw [if_pos h.1,List.getElem?_eq_getElem],trivial⟩
theorem tT{l:List α}{i:Int}{x:α}{f:List α→Option β}(h:0≤i∧i<l.length)(k: ∀l':List α,l'.length=l.length→Tot (f l') Q):Tot ((stt l i x).bind f) Q:=by
 have:stt l i x=some (l.set i.toNat x):=by unfold stt;rw [if_pos h]
 rw [this];exact k _ (by simp)
end
theorem nW{n:Int}(h: -4611686018427387904≤n∧n≤4611686018427387904):IntKind.i64.wrap n=n:=by rw [IntKind.wrap_i64];omega
theorem tW{p:Prop}(h:p:=by (try simp (disch:=omega) only [nW,true_and] at*);first|done|trivial|omega):p:=h
theorem tKe{α β:Type}{Q:β→Prop}{len:α→Nat}{n n':Nat}{o:Option α}{f:α→Option β}(h:Tot o fun x=>len x=n)(c:n'=n)(k: ∀x,len x=n→Tot (f x) Q):Tot ((tM len n' o).bind f) Q:=by
 obtain ⟨x,rfl,hx⟩:=h;have:tM len n' (some x)=some x:=by unfold tM;simp [c,hx]
 rw [this];exact k x hx
theorem tKp{α β:Type}{R:α→Prop}{Q:β→Prop}{len:α→Nat}{n n':Nat}{o:Option α}{f:α→Option β}(h:Tot o fun x=>len x=n∧R x)(c:n'=n)(k: ∀x,len x=n∧R x→Tot (f x) Q):Tot ((tM len n' o).bind f) Q:=by
 obtain ⟨x,rfl,hx⟩:=h;have:tM len n' (some x)=some x:=by unfold tM;simp [c,hx.1]
 rw [this];exact k x hx
theorem tA{Q:Prop}(h:Q:=by
 (repeat' (first|((with_reducible apply nx);exact tW)|((with_reducible apply nx2);exact tW)|((with_reducible refine tI ?_ fun _=>?_);exact tW)|((with_reducible refine tT ?_ fun _ _=>?_);exact tW)|((with_reducible refine tG (fun c=>?_) fun _=>?_)<;>(try simp (disch:=omega) only [nW,beq_true,decide_eq_true_eq] at c))|((with_reducible refine tI' ?_);exact tW)|(with_reducible exact less _ _)|(with_reducible refine tB (less _ _) fun _ _=>?_)|((with_reducible refine tC (fun c=>?_) fun c=>?_)<;>(try simp (disch:=omega) only [nW,beq_true,Bool.not_eq_true',Bool.not_eq_false',Bool.and_eq_true,Bool.and_eq_false_iff,beq_iff_eq,beq_eq_false_iff_ne,decide_eq_true_eq,decide_eq_false_iff_not,ne_eq] at c))|((with_reducible refine tS ?_);first|assumption|omega|((try simp only []);omega)|(refine ⟨?_,?_,?_⟩<;>exact tW))|((with_reducible refine tKe (n:=n) ?_ ?_ fun _ _=>?_);((with_reducible apply cl);exact tW);omega)|((with_reducible apply ih);exact tW)|(exfalso;exact tW)))):Q:=h
theorem FUv:aZ=1000000000000:=rfl
theorem bH5{x y:Int}(h0:0≤y)(h1:y<9223372036854775808):0≤yS .u64 x y∧yS .u64 x y≤y:=by
 unfold yS
 have e:(BitVec.ofInt 64 y).toNat=y.toNat:=by
  rw [BitVec.toNat_ofInt];have q:((2^64:Nat):Int)=18446744073709551616:=by decide
  rw [q,Int.emod_eq_of_lt h0 (by omega)]
 have l:(BitVec.ofInt 64 x &&& BitVec.ofInt 64 y).toNat≤y.toNat:=by
  rw [BitVec.toNat_and,e];exact Nat.and_le_right
 show 0≤IntKind.u64.wrap ((BitVec.ofInt 64 x &&& BitVec.ofInt 64 y).toNat:Int)∧IntKind.u64.wrap ((BitVec.ofInt 64 x &&& BitVec.ofInt 64 y).toNat:Int)≤y;generalize (BitVec.ofInt 64 x &&& BitVec.ofInt 64 y).toNat=k at l;rw [IntKind.wrap_u64];omega
theorem less(x y:Int):Tot (fG x y) fun _=>True:=by
 unfold fG mY;exact tB (P:=fun _=>True) (tS trivial) fun _ _=>tG (fun _=>tS trivial) fun _=>tS trivial
def blT(n:Nat):Bool:=match xS (IntKind.u64.wrap (n:Int)) with
  |some r=>decide (0≤r)&&(decide (n<8)||decide (1≤shl .u64 1 r∧shl .u64 1 r≤2*(n:Int)))
  |none=>false
theorem blA:(List.range 1101).all blT=true:=by decide+kernel
theorem bl1{n:Nat}(h:n≤1100):Tot (xS (IntKind.u64.wrap (n:Int))) fun r=>0≤r∧(8≤n→1≤shl .u64 1 r∧shl .u64 1 r≤2*(n:Int)):=by
 have:=List.all_eq_true.1 blA n (List.mem_range.2 (by omega));unfold blT at this;split at this
 · rename_i r hr;simp only [Bool.and_eq_true,Bool.or_eq_true,decide_eq_true_eq] at this;exact ⟨r,hr,this.1,fun h8=>this.2.resolve_left (by omega)⟩
 · cases this
theorem bX0{α:Type}{l:List α}(h:l.length≤1100):Tot (xS (IntKind.u64.wrap (l.length:Int))) fun _=>True:=by
 obtain ⟨r,e,_⟩:=bl1 h;exact ⟨r,e,trivial⟩
theorem bYv{n:Int}(h:8≤n∧n≤1100):Tot (nB n) fun M=>1≤M∧M≤2*n:=by
 obtain ⟨k,rfl⟩: ∃k:Nat,n=(k:Int):=⟨n.toNat,by omega⟩
 unfold nB;refine tB (bl1 (by omega)) fun r hr=>?_;unfold chk;rw [bt (by simpa using hr.1),aA];exact tS (hr.2 (by omega))
section
variable {n:Nat}(hn:n≤1100)
include hn in
theorem bBj{rec1:List Int→Int→Int→Int→Option (List Int)}{a b i:Int}(ha:0≤a)(hb:b≤n)(hi:i<b)(ha':a≤i)(nx: ∀(l:List Int) (a' b' i':Int),l.length=n∧a'=a∧b'=b∧i'=i+1→Tot (rec1 l a' b' i') fun l'=>l'.length=n):
 ∀(m:Nat) (l:List Int) (a' b' i' j:Int),(l.length=n∧a'=a∧b'=b∧i'=i∧a≤j∧j≤i∧0<m∧j-a<m)→Tot (gO rec1 m l a' b' i' j) fun l'=>l'.length=n
 |0,l,a',b',i',j,h=>by omega
 |m+1,l,a',b',i',j,h=>by
  show Tot (iW rec1 (gO rec1 m) l a' b' i' j) _;unfold iW;have ih:=bBj ha hb hi ha' nx m;exact tA
include hn in
theorem bBi{a b:Int}(ha:0≤a)(hb:b≤n): ∀(m:Nat) (l:List Int) (a' b' i:Int),(l.length=n∧a'=a∧b'=b∧a≤i∧0<m∧b-i<m)→Tot (dO m l a' b' i) fun l'=>l'.length=n
 |0,l,a',b',i,h=>by omega
 |m+1,l,a',b',i,h=>by
  have hF:=FUv;show Tot (iT (dO m) l a' b' i) _;unfold iT;obtain ⟨h1,rfl,rfl,h4,h5,h6⟩:=h;refine tC (fun c=>?_) fun c=>tS h1;simp only [decide_eq_true_eq] at c;exact bBj hn ha hb c h4 (fun l a' b' i' q=>bBi ha hb m _ _ _ _ (by omega)) aZ _ _ _ _ _ (by omega)
include hn in
theorem bYx{l:List Int}{a b:Int}(h:l.length=n∧0≤a∧a≤b∧b≤n):Tot (jP l a b) fun l'=>l'.length=n:=by
 have hF:=FUv;unfold jP;rw [nW (by omega)];exact bBi hn h.2.1 h.2.2.2 aZ _ _ _ _ (by omega)
include hn in
theorem aWg{hi first:Int}(h1:0≤first)(h2:first+hi≤n): ∀(m:Nat) (l:List Int) (hi' first' root:Int),(l.length=n∧hi'=hi∧first'=first∧0≤root∧root≤n∧0<m∧hi-root<m)→Tot (fE m l hi' first' root) fun l'=>l'.length=n
 |0,l,hi',first',root,h=>by omega
 |m+1,l,hi',first',root,h=>by
  show Tot (lT (fE m) l hi' first' root) _;unfold lT;have ih:=aWg h1 h2 m;obtain ⟨h3,rfl,rfl,h4,h5,h6,h7⟩:=h
  have nx: ∀c:Int,(root<c∧c<hi')→Tot (jH (fE m) l hi' first' root c) fun l'=>l'.length=n:=fun c hc=>by
   unfold jH;exact tA
  exact tA
include hn in
theorem bPe(l:List Int)(lo hi first:Int)(h:l.length=n∧0≤lo∧lo≤n∧0≤first∧first+hi≤n):Tot (kC l lo hi first) fun l'=>l'.length=n:=by
 have hF:=FUv;unfold kC;exact aWg hn h.2.2.2.1 h.2.2.2.2 aZ _ _ _ _ (by omega)
include hn in
theorem aWf{first:Int}(h1:0≤first): ∀(m:Nat) (l:List Int) (first' lo i:Int),(l.length=n∧first'=first∧lo=0∧ -1≤i∧first+i<n∧0<m∧i+1<m)→Tot (jF m l first' lo i) fun l'=>l'.length=n
 |0,l,first',lo,i,h=>by omega
 |m+1,l,first',lo,i,h=>by
  show Tot (lP (jF m) l first' lo i) _;unfold lP;have ih:=aWf h1 m;have cl:=bPe hn;exact tA
include hn in
theorem aWe{first hi:Int}(h1:0≤first)(h2:0≤hi)(h3:first+hi≤n): ∀(m:Nat) (l:List Int) (first' lo hi' i:Int),(l.length=n∧first'=first∧lo=0∧hi'=hi∧ -1≤i∧i≤hi∧0<m∧i+1<m)→Tot (jE m l first' lo hi' i) fun l'=>l'.length=n
 |0,l,first',lo,hi',i,h=>by omega
 |m+1,l,first',lo,hi',i,h=>by
  have hF:=FUv;show Tot (lO (jE m) l first' lo hi' i) _;unfold lO;have ih:=aWe h1 h2 h3 m;have cl:=bPe hn;have nx:=aWf hn h1 aZ;exact tA
include hn in
theorem bW4{l:List Int}{a b:Int}(h:l.length=n∧0≤a∧a+1≤b∧b≤n):Tot (mB l a b) fun l'=>l'.length=n:=by
 have hF:=FUv;unfold mB;have d: -1≤Int.tdiv (b-a-1) 2∧Int.tdiv (b-a-1) 2≤b-a:=by rw [Int.tdiv_eq_ediv_of_nonneg (by omega)];omega
 rw [nW (n:=b-a) (by omega),nW (n:=b-a-1) (by omega),nW (by omega)];exact aWe hn (first:=a) (hi:=b-a) h.2.1 (by omega) (by omega) aZ _ _ _ _ _ (by omega)
include hn in
theorem bBh{a len M:Int}(ha:0≤a)(hl:8≤len)(hb:a+len≤n)(hM:1≤M∧M≤2*len): ∀(m:Nat) (l:List Int) (a' len' r M' i:Int),(l.length=n∧a'=a∧len'=len∧M'=M∧a+len.tdiv 4*2-1≤i∧i≤a+len.tdiv 4*2+2∧0<m∧a+len.tdiv 4*2+2-i<m)→Tot (dM m l a' len' r M' i) fun l'=>l'.length=n
 |0,l,a',len',r,M',i,h=>by omega
 |m+1,l,a',len',r,M',i,h=>by
  show Tot (iQ (dM m) l a' len' r M' i) _;have:=hn;unfold iQ;have ih:=bBh ha hl hb hM m;obtain ⟨h3,rfl,rfl,rfl,h4,h5,h6,h7⟩:=h;have d:2≤len'.tdiv 4∧len'.tdiv 4*4≤len':=by rw [Int.tdiv_eq_ediv_of_nonneg (by omega)];omega
  refine tC (fun c=>?_) fun c=>tS h3;simp (disch:=omega) only [nW,decide_eq_true_eq] at c
  have nx: ∀(r' o:Int),(0≤o∧o<len')→Tot (gM (dM m) l a' len' r' M' i o) fun l'=>l'.length=n:=fun r' o ho=>by
   unfold gM lZ;exact tA
  refine tB (P:=fun _=>True) (tS trivial) fun x _=>?_;obtain ⟨r5,x4⟩:=x;have w:IntKind.u64.wrap (M'-1)=M'-1:=by rw [IntKind.wrap_u64];omega
  have hbd:=bH5 (x:=r5) (y:=M'-1) (by omega) (by omega);simp only [w];generalize yS .u64 r5 (M'-1)=o at hbd;exact tA
include hn in
theorem bYw(l:List Int)(a b:Int)(h:l.length=n∧0≤a∧a+13≤b∧b≤n):Tot (jN l a b) fun l'=>l'.length=n:=by
 have hF:=FUv;unfold jN;rw [nW (n:=b-a) (by omega)];refine tC (fun c=>?_) fun c=>tS h.1;refine tB (bYv (by omega)) fun M hM=>?_;have d:2≤(b-a).tdiv 4∧(b-a).tdiv 4*4≤b-a:=by rw [Int.tdiv_eq_ediv_of_nonneg (by omega)];omega
 rw [nW (n:=(b-a).tdiv 4) (by omega),nW (n:=(b-a).tdiv 4*2) (by omega),nW (n:=a+(b-a).tdiv 4*2) (by omega),nW (by omega)];exact bBh hn (a:=a) (len:=b-a) (M:=M) h.2.1 (by omega) (by omega) hM aZ _ _ _ _ _ _ (by omega)
include hn in
theorem bG4{l:List Int}{lo hi a b s:Int}(h:l.length=n∧0≤lo∧hi≤n∧lo≤a∧a<hi∧lo≤b∧b<hi):Tot (iN l a b s) fun x=>lo≤x.1∧x.1<hi∧lo≤x.2.1∧x.2.1<hi:=by
 have:=hn;unfold iN;refine tI (by omega) fun _=>tI (by omega) fun _=>tB (less _ _) fun _ _=>tC (fun _=>tS ?_) fun _=>tS ?_<;>(simp only [];omega)
include hn in
theorem bUc{l:List Int}{lo hi a b c s:Int}(h:l.length=n∧0≤lo∧hi≤n∧lo≤a∧a<hi∧lo≤b∧b<hi∧lo≤c∧c<hi):Tot (kQ l a b c s) fun x=>lo≤x.1∧x.1<hi:=by
 unfold kQ;refine tB (bG4 hn (lo:=lo) (hi:=hi) (by omega)) fun x hx=>?_;obtain ⟨r3,r4,x2⟩:=x;simp only [] at hx⊢;refine tB (bG4 hn (lo:=lo) (hi:=hi) (by omega)) fun y hy=>?_;obtain ⟨r7,r8,x6⟩:=y;simp only [] at hy⊢;refine tB (bG4 hn (lo:=lo) (hi:=hi) (by omega)) fun z hz=>?_;obtain ⟨r11,r12,x10⟩:=z;simp only [] at hz⊢;exact tS (by simp only [];omega)
include hn in
theorem bPb{l:List Int}{lo hi a s:Int}(h:l.length=n∧0≤lo∧hi≤n∧lo+1≤a∧a+1<hi):Tot (eX l a s) fun x=>lo≤x.1∧x.1<hi:=by
 unfold eX;rw [nW (by omega),nW (by omega)];refine tB (bUc hn (lo:=lo) (hi:=hi) (by omega)) fun x hx=>?_;obtain ⟨r3,x2⟩:=x;exact tS hx
include hn in
theorem bYz{l:List Int}{a b:Int}(h:l.length=n∧0≤a∧a+13≤b∧b≤n):Tot (kN l a b) fun x=>a≤x.1∧x.1<b:=by
 unfold kN;have d:2≤(b-a).tdiv 4∧(b-a).tdiv 4*4≤b-a:=by rw [Int.tdiv_eq_ediv_of_nonneg (by omega)];omega
 rw [nW (n:=b-a) (by omega),nW (n:=(b-a).tdiv 4) (by omega),nW (n:=(b-a).tdiv 4*1) (by omega),nW (n:=(b-a).tdiv 4*2) (by omega),nW (n:=(b-a).tdiv 4*3) (by omega),nW (n:=a+(b-a).tdiv 4*1) (by omega),nW (n:=a+(b-a).tdiv 4*2) (by omega),nW (n:=a+(b-a).tdiv 4*3) (by omega)]
 have J1: ∀s j:Int,a≤j∧j<b→Tot (kH s j) fun x=>a≤x.1∧x.1<b:=fun s j hj=>by
  unfold kH;exact tC (fun _=>tS hj) fun _=>tC (fun _=>tS hj) fun _=>tS hj
 have J2: ∀s i j k:Int,(a≤i∧i<b∧a≤j∧j<b∧a≤k∧k<b)→Tot (kI l s i j k) fun x=>a≤x.1∧x.1<b:=fun s i j k hj=>by
  unfold kI;refine tB (bUc hn (lo:=a) (hi:=b) (by omega)) fun x hx=>?_;obtain ⟨r3,x2⟩:=x;exact J1 _ _ hx
 generalize (b-a).tdiv 4=q at d;refine tC (fun c=>tC (fun c'=>?_) fun c'=>J2 _ _ _ _ (by omega)) fun c=>J1 _ _ (by omega);refine tB (bPb hn (lo:=a) (hi:=b) (by omega)) fun x hx=>?_;obtain ⟨r6,x5⟩:=x;simp only [] at hx⊢;refine tB (bPb hn (lo:=a) (hi:=b) (by omega)) fun x hx=>?_;obtain ⟨r9,x8⟩:=x;simp only [] at hx⊢;refine tB (bPb hn (lo:=a) (hi:=b) (by omega)) fun x hx=>?_;obtain ⟨r12,x11⟩:=x;simp only [] at hx⊢;exact J2 _ _ _ _ (by omega)
include hn in
theorem bBo{a b:Int}(ha:0≤a)(hb:b≤n): ∀(m:Nat) (l:List Int) (i j:Int),(l.length=n∧a≤i∧j<b∧i≤n∧ -2≤j∧0<m∧j-i<m)→Tot (gU m l i j) fun l'=>l'.length=n
 |0,l,i,j,h=>by omega
 |m+1,l,i,j,h=>by
  show Tot (jR (gU m) l i j) _;have:=hn;unfold jR;have ih:=bBo ha hb m;exact tA
include hn in
theorem bZ0(l:List Int)(a b:Int)(h:l.length=n∧0≤a∧a≤b∧b≤n):Tot (kK l a b) fun l'=>l'.length=n:=by
 have hF:=FUv;unfold kK;rw [nW (by omega)];exact bBo hn h.2.1 h.2.2.2 aZ _ _ _ (by omega)
include hn in
theorem bBm{rec1:List Int→Int→Int→Int→Int→Option (Bool×List Int)}{a b i j:Int}(hb:b≤n)(hi:0≤i)(nx: ∀(l:List Int) (a' b' i' j':Int),(l.length=n∧a'=a∧b'=b∧i'=i∧j'=j)→Tot (cI rec1 l a' b' i' j') fun x=>x.2.length=n):
 ∀(m:Nat) (l:List Int) (a' b' i' j' k:Int),(l.length=n∧a'=a∧b'=b∧i'=i∧j'=j∧i<k∧0<m∧b-k<m)→Tot (eJ rec1 m l a' b' i' j' k) fun x=>x.2.length=n
 |0,l,a',b',i',j',k,h=>by omega
 |m+1,l,a',b',i',j',k,h=>by
  show Tot (fQ rec1 (eJ rec1 m) l a' b' i' j' k) _;unfold fQ;have ih:=bBm hb hi nx m;exact tA
include hn in
theorem bPd{rec1:List Int→Int→Int→Int→Int→Option (Bool×List Int)}{a b i j:Int}(hb:b≤n)(hi:0≤i)(hi':i≤b)(nx: ∀(l:List Int) (a' b' i' j':Int),(l.length=n∧a'=a∧b'=b∧i'=i∧j'=j)→Tot (cI rec1 l a' b' i' j') fun x=>x.2.length=n):
 ∀(l:List Int) (a' b' i' j':Int),(l.length=n∧a'=a∧b'=b∧i'=i∧j'=j)→Tot (dC rec1 l a' b' i' j') fun x=>x.2.length=n:=fun l a' b' i' j' h=>by
 have hF:=FUv;unfold dC;have nx2:=bBm hn hb hi nx aZ;exact tA
include hn in
theorem bBn{rec1:List Int→Int→Int→Int→Int→Option (Bool×List Int)}{a b i j:Int}(hb:b≤n)(hi:0≤i)(hi':i<b)(nx: ∀(l:List Int) (a' b' i' j':Int),(l.length=n∧a'=a∧b'=b∧i'=i∧j'=j)→Tot (dC rec1 l a' b' i' j') fun x=>x.2.length=n):
 ∀(m:Nat) (l:List Int) (a' b' i' j' k:Int),(l.length=n∧a'=a∧b'=b∧i'=i∧j'=j∧k<i∧ -1≤k∧0<m∧k<m)→Tot (eK rec1 m l a' b' i' j' k) fun x=>x.2.length=n
 |0,l,a',b',i',j',k,h=>by omega
 |m+1,l,a',b',i',j',k,h=>by
  show Tot (fR rec1 (eK rec1 m) l a' b' i' j' k) _;unfold fR;have ih:=bBn hb hi hi' nx m;exact tA
include hn in
theorem bBl{rec1:List Int→Int→Int→Int→Int→Option (Bool×List Int)}{a b j:Int}(ha:0≤a)(hb:b≤n)(hj:0≤j∧j<5)(nx: ∀(l:List Int) (a' b' i' j':Int),(l.length=n∧a'=a∧b'=b∧a+1≤i'∧i'≤b∧j'=j+1)→Tot (rec1 l a' b' i' j') fun x=>x.2.length=n):
 ∀(m:Nat) (l:List Int) (a' b' i j':Int),(l.length=n∧a'=a∧b'=b∧a+1≤i∧i≤b∧j'=j∧0<m∧b-i<m)→Tot (eI rec1 m l a' b' i j') fun x=>x.2.length=n
 |0,l,a',b',i,j',h=>by omega
 |m+1,l,a',b',i,j',h=>by
  have hF:=FUv;show Tot (fP rec1 (eI rec1 m) l a' b' i j') _;unfold fP;have ih:=bBl ha hb hj nx m
  have j1: ∀(l:List Int) (a'' b'' i'' j'':Int),(l.length=n∧a''=a∧b''=b∧i''=i∧j''=j)→Tot (cI rec1 l a'' b'' i'' j'') fun x=>x.2.length=n:=fun l a'' b'' i'' j'' q=>by
   unfold cI;rw [nW (by omega)];exact nx _ _ _ _ _ (by omega)
  clear nx;have nx:=bPd hn hb (by omega) (by omega) j1
  by_cases hib:i<b
  · have nx2:=bBn hn hb (by omega) hib nx aZ;clear j1;exact tA
  · clear j1;exact tA
include hn in
theorem bBk{a b:Int}(ha:0≤a)(hb:b≤n): ∀(m:Nat) (l:List Int) (a' b' i j:Int),(l.length=n∧a'=a∧b'=b∧a+1≤i∧i≤b∧0≤j∧j≤5∧0<m∧5-j<m)→Tot (aX m l a' b' i j) fun x=>x.2.length=n
 |0,l,a',b',i,j,h=>by omega
 |m+1,l,a',b',i,j,h=>by
  have hF:=FUv;show Tot (fO (aX m) l a' b' i j) _;unfold fO;refine tC (fun c=>?_) fun c=>tS h.1;simp only [decide_eq_true_eq] at c;exact bBl hn (a:=a) (b:=b) (j:=j) ha hb (by omega) (fun l a' b' i' j' q=>bBk ha hb m _ _ _ _ _ (by omega)) aZ _ _ _ _ _ (by omega)
include hn in
theorem bYy{l:List Int}{a b:Int}(h:l.length=n∧0≤a∧a+13≤b∧b≤n):Tot (gF l a b) fun x=>x.2.length=n:=by
 have hF:=FUv;unfold gF;rw [nW (by omega)];exact bBk hn h.2.1 h.2.2.2 aZ _ _ _ _ _ (by omega)
include hn in
theorem bI6{rec1:List Int→Int→Int→Int→Option (Int×List Int)}{a b i J:Int}(ha:0≤a)(hb:b≤n)(hi:a+1≤i∧i≤b)(hJ:J<b)(nx: ∀(l:List Int) (a' i' j':Int),(l.length=n∧a'=a∧i'=i+1∧i≤j'+1∧j'<J)→Tot (rec1 l a' i' j') fun x=>x.2.length=n∧a<x.1∧x.1≤b):
 ∀(m:Nat) (l:List Int) (a' i' j:Int),(l.length=n∧a'=a∧i'=i∧a≤j∧j≤J∧0<m∧j-a<m)→Tot (fX rec1 m l a' i' j) fun x=>x.2.length=n∧a<x.1∧x.1≤b
 |0,l,a',i',j,h=>by omega
 |m+1,l,a',i',j,h=>by
  show Tot (iB rec1 (fX rec1 m) l a' i' j) _;unfold iB;have ih:=bI6 ha hb hi hJ nx m;exact tA
include hn in
theorem bI5{rec1:List Int→Int→Int→Int→Option (Int×List Int)}{a b I j:Int}(ha:0≤a)(hb:b≤n)(hI:a+1≤I)(hj:a≤j∧j<b)(nx: ∀(l:List Int) (a' i' j':Int),(l.length=n∧a'=a∧I<i'∧i'≤b∧a≤j'∧j'<j)→Tot (rec1 l a' i' j') fun x=>x.2.length=n∧a<x.1∧x.1≤b):
 ∀(m:Nat) (l:List Int) (a' i j':Int),(l.length=n∧a'=a∧j'=j∧I≤i∧i≤b∧0<m∧b-i<m)→Tot (fW rec1 m l a' i j') fun x=>x.2.length=n∧a<x.1∧x.1≤b
 |0,l,a',i,j',h=>by omega
 |m+1,l,a',i,j',h=>by
  have hF:=FUv;show Tot (iA rec1 (fW rec1 m) l a' i j') _;unfold iA;have ih:=bI5 ha hb hI hj nx m;have nx2:=bI6 hn (rec1:=rec1) (a:=a) (b:=b) (i:=i) (J:=j) ha hb (by omega) hj.2 (fun l a' i' j' q=>nx _ _ _ _ (by omega)) aZ;clear nx;exact tA
include hn in
theorem bI4{a b:Int}(ha:0≤a)(hb:b≤n): ∀(m:Nat) (l:List Int) (a' i j:Int),(l.length=n∧a'=a∧a+1≤i∧i≤b∧a≤j∧j<b∧0<m∧j-a<m)→Tot (bY m l a' i j) fun x=>x.2.length=n∧a<x.1∧x.1≤b
 |0,l,a',i,j,h=>by omega
 |m+1,l,a',i,j,h=>by
  have hF:=FUv;show Tot (hZ (bY m) l a' i j) _;unfold hZ;exact bI5 hn (I:=i) (j:=j) ha hb (by omega) (by omega) (fun l a' i' j' q=>bI4 ha hb m _ _ _ _ (by omega)) aZ _ _ _ _ (by omega)
include hn in
theorem cFs{l:List Int}{a b p:Int}(h:l.length=n∧0≤a∧a+13≤b∧b≤n∧a≤p∧p<b):Tot (iY l a b p) fun x=>x.2.length=n∧a<x.1∧x.1≤b:=by
 have hF:=FUv;unfold iY;have nx:=bI4 hn (a:=a) (b:=b) h.2.1 h.2.2.2.1 aZ;exact tA
include hn in
theorem bI3{rec3:List Int→Int→Int→Int→Option (Int×Bool×List Int)}{a b i J:Int}(ha:0≤a)(hb:b≤n)(hi:a+1≤i∧i≤b)(hJ:J<b)(nx: ∀(l:List Int) (a' i' j':Int),(l.length=n∧a'=a∧i'=i+1∧i≤j'+1∧j'<J)→Tot (rec3 l a' i' j') fun x=>x.2.2.length=n∧a≤x.1∧x.1<b):
 ∀(m:Nat) (l:List Int) (a' i' j:Int),(l.length=n∧a'=a∧i'=i∧a≤j∧j≤J∧0<m∧j-a<m)→Tot (iK rec3 m l a' i' j) fun x=>x.2.2.length=n∧a≤x.1∧x.1<b
 |0,l,a',i',j,h=>by omega
 |m+1,l,a',i',j,h=>by
  show Tot (lC rec3 (iK rec3 m) l a' i' j) _;unfold lC;have ih:=bI3 ha hb hi hJ nx m;exact tA
include hn in
theorem bI2{rec3:List Int→Int→Int→Int→Option (Int×Bool×List Int)}{a b I j:Int}(ha:0≤a)(hb:b≤n)(hI:a+1≤I)(hj:a≤j∧j<b)(nx: ∀(l:List Int) (a' i' j':Int),(l.length=n∧a'=a∧I<i'∧i'≤b∧a≤j'∧j'<j)→Tot (rec3 l a' i' j') fun x=>x.2.2.length=n∧a≤x.1∧x.1<b):
 ∀(m:Nat) (l:List Int) (a' i j':Int),(l.length=n∧a'=a∧j'=j∧I≤i∧i≤b∧0<m∧b-i<m)→Tot (iJ rec3 m l a' i j') fun x=>x.2.2.length=n∧a≤x.1∧x.1<b
 |0,l,a',i,j',h=>by omega
 |m+1,l,a',i,j',h=>by
  have hF:=FUv;show Tot (lA rec3 (iJ rec3 m) l a' i j') _;unfold lA;have ih:=bI2 ha hb hI hj nx m;have nx2:=bI3 hn (rec3:=rec3) (a:=a) (b:=b) (i:=i) (J:=j) ha hb (by omega) hj.2 (fun l a' i' j' q=>nx _ _ _ _ (by omega)) aZ;clear nx;exact tA
include hn in
theorem bI1{a b:Int}(ha:0≤a)(hb:b≤n): ∀(m:Nat) (l:List Int) (a' i j:Int),(l.length=n∧a'=a∧a+1≤i∧i≤b∧a≤j∧j<b∧0<m∧j-a<m)→Tot (cU m l a' i j) fun x=>x.2.2.length=n∧a≤x.1∧x.1<b
 |0,l,a',i,j,h=>by omega
 |m+1,l,a',i,j,h=>by
  have hF:=FUv;show Tot (kZ (cU m) l a' i j) _;unfold kZ;exact bI2 hn (I:=i) (j:=j) ha hb (by omega) (by omega) (fun l a' i' j' q=>bI1 ha hb m _ _ _ _ (by omega)) aZ _ _ _ _ (by omega)
include hn in
theorem bI0{a b i J:Int}(ha:0≤a)(hb:b≤n)(hi:a+1≤i∧i≤b)(hJ:J<b):
 ∀(m:Nat) (l:List Int) (a' i' j:Int),(l.length=n∧a'=a∧i'=i∧a≤j∧j≤J∧0<m∧j-a<m)→Tot (iI m l a' i' j) fun x=>x.2.2.length=n∧a≤x.1∧x.1<b
 |0,l,a',i',j,h=>by omega
 |m+1,l,a',i',j,h=>by
  have hF:=FUv;show Tot (kY (iI m) l a' i' j) _;unfold kY;have ih:=bI0 ha hb hi hJ m;have nx:=bI1 hn ha hb aZ;exact tA
include hn in
theorem bHz{a b j:Int}(ha:0≤a)(hb:b≤n)(hj:a≤j∧j<b):
 ∀(m:Nat) (l:List Int) (a' i j':Int),(l.length=n∧a'=a∧j'=j∧a+1≤i∧i≤b∧0<m∧b-i<m)→Tot (iH m l a' i j') fun x=>x.2.2.length=n∧a≤x.1∧x.1<b
 |0,l,a',i,j',h=>by omega
 |m+1,l,a',i,j',h=>by
  have hF:=FUv;show Tot (kX (iH m) l a' i j') _;unfold kX;have ih:=bHz ha hb hj m;have nx2:=bI0 hn (a:=a) (b:=b) (i:=i) (J:=j) ha hb (by omega) hj.2 aZ;exact tA
include hn in
theorem cFr{l:List Int}{a b p:Int}(h:l.length=n∧0≤a∧a+13≤b∧b≤n∧a≤p∧p<b):Tot (lR l a b p) fun x=>x.2.2.length=n∧a≤x.1∧x.1<b:=by
 have hF:=FUv;unfold lR;have nx:=bHz hn (a:=a) (b:=b) (j:=b-1) h.2.1 h.2.2.2.1 (by omega) aZ;exact tA
include hn in
theorem bHy{N:Nat}{recf:List Int→Int→Int→Int→Option (List Int)}(rf: ∀(l:List Int) (a b k:Int),(l.length=n∧0≤a∧a≤b∧b≤n∧b-a<N)→Tot (recf l a b k) fun l'=>l'.length=n):
 ∀(m:Nat) (l:List Int) (a b k:Int) (x y:Bool),(l.length=n∧0≤a∧a≤b∧b≤n∧b-a≤N∧0<m∧b-a<m)→Tot (cQ recf m l a b k x y) fun l'=>l'.length=n
 |0,l,a,b,k,x,y,h=>by omega
 |m+1,l,a,b,k,x,y,h=>by
  have hF:=FUv;show Tot (mD recf (cQ recf m) l a b k x y) _;unfold mD;have ih:=bHy rf m;rw [nW (n:=b-a) (by omega)];refine tC (fun c=>tKe (bYx hn (by omega)) (by omega) fun _ h=>tS h) fun c=>?_;simp only [decide_eq_false_iff_not] at c;refine tC (fun _=>tKe (bW4 hn (by omega)) (by omega) fun _ h=>tS h) fun _=>?_
  have j3: ∀(l:List Int) (k p:Int),(l.length=n∧a≤p∧p<b)→Tot (kA recf (cQ recf m) l a b k x y (b-a) p) fun l'=>l'.length=n:=fun l k p hp=>by
   unfold kA;refine tG (fun c=>?_) fun _=>tG (fun c=>?_) fun _=>tG (fun _=>less _ _) fun _=>tC (fun _=>?_) fun _=>?_
   · simp only [beq_true,decide_eq_true_eq] at c;exact tI' tW
   · exact tI' tW
   · refine tKp (cFs hn (by omega)) (by omega) fun x hx=>?_;obtain ⟨r,l2⟩:=x;simp only [] at hx⊢;exact ih _ _ _ _ _ _ (by omega)
   ·
    refine tKp (cFr hn (by omega)) (by omega) fun x hx=>?_;obtain ⟨r,r2,l2⟩:=x;simp only [] at hx⊢;refine tC (fun _=>?_) fun _=>?_
    · refine tKe (rf _ _ _ _ (by omega)) (by omega) fun l3 h3=>?_;rw [nW (n:=r+1) (by omega)];exact ih _ _ _ _ _ _ (by omega)
    · rw [nW (n:=r+1) (by omega)];refine tKe (rf _ _ _ _ (by omega)) (by omega) fun l3 h3=>?_;exact ih _ _ _ _ _ _ (by omega)
  have j2: ∀(l:List Int) (k p q:Int),(l.length=n∧a≤p∧p<b)→Tot (jZ recf (cQ recf m) l a b k x y (b-a) p q) fun l'=>l'.length=n:=fun l k p q hp=>by
   unfold jZ;refine tC (fun _=>?_) fun _=>j3 _ _ _ hp;refine tKe (bYy hn (by omega)) (by omega) fun x hx=>?_;obtain ⟨r,l2⟩:=x;exact tC (fun _=>tS hx) fun _=>j3 _ _ _ ⟨hx,hp.2⟩
  have j1: ∀(l:List Int) (k:Int),l.length=n→Tot (jY recf (cQ recf m) l a b k x y (b-a)) fun l'=>l'.length=n:=fun l k hl=>by
   unfold jY;refine tB (bYz hn (by omega)) fun x hx=>?_;obtain ⟨r6,r7⟩:=x;simp only [] at hx⊢;refine tC (fun _=>?_) fun _=>j2 _ _ _ _ ⟨hl,hx⟩;refine tKe (bZ0 hn _ _ _ (by omega)) (by omega) fun l2 h2=>?_;rw [nW (n:=b-1) (by omega),nW (n:=r6-a) (by omega),nW (by omega)];exact j2 _ _ _ _ (by omega)
  refine tC (fun _=>?_) fun _=>j1 _ _ h.1;refine tKe (bYw hn _ _ _ (by omega)) (by omega) fun l2 h2=>j1 _ _ h2
include hn in
theorem bPc: ∀(N:Nat) (l:List Int) (a b k:Int),(l.length=n∧0≤a∧a≤b∧b≤n∧b-a<N)→Tot (cE N l a b k) fun l'=>l'.length=n
 |0,l,a,b,k,h=>by omega
 |N+1,l,a,b,k,h=>by
  have hF:=FUv;show Tot (cQ (cE N) aZ l a b k true true) _;exact bHy hn (bPc N) aZ _ _ _ _ _ _ (by omega)
end
section
variable {n:Nat}(hn:n≤1100){cmp:aC→aC→Option Int}(less: ∀x y,Tot (cmp x y) fun _=>True)
include hn less in
theorem bAi{rec1:List aC→Int→Int→Int→Option (List aC)}{a b i:Int}(ha:0≤a)(hb:b≤n)(hi:i<b)(ha':a≤i)(nx: ∀(l:List aC) (a' b' i':Int),l.length=n∧a'=a∧b'=b∧i'=i+1→Tot (rec1 l a' b' i') fun l'=>l'.length=n):
 ∀(m:Nat) (l:List aC) (a' b' i' j:Int),(l.length=n∧a'=a∧b'=b∧i'=i∧a≤j∧j≤i∧0<m∧j-a<m)→Tot (gN cmp rec1 m l a' b' i' j) fun l'=>l'.length=n
 |0,l,a',b',i',j,h=>by omega
 |m+1,l,a',b',i',j,h=>by
  show Tot (iS cmp rec1 (gN cmp rec1 m) l a' b' i' j) _;unfold iS;have ih:=bAi ha hb hi ha' nx m;exact tA
include hn less in
theorem bAh{a b:Int}(ha:0≤a)(hb:b≤n): ∀(m:Nat) (l:List aC) (a' b' i:Int),(l.length=n∧a'=a∧b'=b∧a≤i∧0<m∧b-i<m)→Tot (dN cmp m l a' b' i) fun l'=>l'.length=n
 |0,l,a',b',i,h=>by omega
 |m+1,l,a',b',i,h=>by
  have hF:=FUv;show Tot (iR cmp (dN cmp m) l a' b' i) _;unfold iR;obtain ⟨h1,rfl,rfl,h4,h5,h6⟩:=h;refine tC (fun c=>?_) fun c=>tS h1;simp only [decide_eq_true_eq] at c;exact bAi hn less ha hb c h4 (fun l a' b' i' q=>bAh ha hb m _ _ _ _ (by omega)) aZ _ _ _ _ _ (by omega)
include hn less in
theorem bXb{l:List aC}{a b:Int}(h:l.length=n∧0≤a∧a≤b∧b≤n):Tot (jO l a b cmp) fun l'=>l'.length=n:=by
 have hF:=FUv;unfold jO;rw [nW (by omega)];exact bAh hn less h.2.1 h.2.2.2 aZ _ _ _ _ (by omega)
include hn less in
theorem aW8{hi first:Int}(h1:0≤first)(h2:first+hi≤n): ∀(m:Nat) (l:List aC) (hi' first' root:Int),(l.length=n∧hi'=hi∧first'=first∧0≤root∧root≤n∧0<m∧hi-root<m)→Tot (fD cmp m l hi' first' root) fun l'=>l'.length=n
 |0,l,hi',first',root,h=>by omega
 |m+1,l,hi',first',root,h=>by
  show Tot (lS cmp (fD cmp m) l hi' first' root) _;unfold lS;have ih:=aW8 h1 h2 m;obtain ⟨h3,rfl,rfl,h4,h5,h6,h7⟩:=h
  have nx: ∀c:Int,(root<c∧c<hi')→Tot (jG cmp (fD cmp m) l hi' first' root c) fun l'=>l'.length=n:=fun c hc=>by
   unfold jG;exact tA
  exact tA
include hn less in
theorem bNp(l:List aC)(lo hi first:Int)(h:l.length=n∧0≤lo∧lo≤n∧0≤first∧first+hi≤n):Tot (kB l lo hi first cmp) fun l'=>l'.length=n:=by
 have hF:=FUv;unfold kB;exact aW8 hn less h.2.2.2.1 h.2.2.2.2 aZ _ _ _ _ (by omega)
include hn less in
theorem aW7{first:Int}(h1:0≤first): ∀(m:Nat) (l:List aC) (first' lo i:Int),(l.length=n∧first'=first∧lo=0∧ -1≤i∧first+i<n∧0<m∧i+1<m)→Tot (jD cmp m l first' lo i) fun l'=>l'.length=n
 |0,l,first',lo,i,h=>by omega
 |m+1,l,first',lo,i,h=>by
  show Tot (lN cmp (jD cmp m) l first' lo i) _;unfold lN;have ih:=aW7 h1 m;have cl:=bNp hn less;exact tA
include hn less in
theorem aW6{first hi:Int}(h1:0≤first)(h2:0≤hi)(h3:first+hi≤n): ∀(m:Nat) (l:List aC) (first' lo hi' i:Int),(l.length=n∧first'=first∧lo=0∧hi'=hi∧ -1≤i∧i≤hi∧0<m∧i+1<m)→Tot (jC cmp m l first' lo hi' i) fun l'=>l'.length=n
 |0,l,first',lo,hi',i,h=>by omega
 |m+1,l,first',lo,hi',i,h=>by
  have hF:=FUv;show Tot (lM cmp (jC cmp m) l first' lo hi' i) _;unfold lM;have ih:=aW6 h1 h2 h3 m;have cl:=bNp hn less;have nx:=aW7 hn less h1 aZ;exact tA
include hn less in
theorem bVe{l:List aC}{a b:Int}(h:l.length=n∧0≤a∧a+1≤b∧b≤n):Tot (mA l a b cmp) fun l'=>l'.length=n:=by
 have hF:=FUv;unfold mA;have d: -1≤Int.tdiv (b-a-1) 2∧Int.tdiv (b-a-1) 2≤b-a:=by rw [Int.tdiv_eq_ediv_of_nonneg (by omega)];omega
 rw [nW (n:=b-a) (by omega),nW (n:=b-a-1) (by omega),nW (by omega)];exact aW6 hn less (first:=a) (hi:=b-a) h.2.1 (by omega) (by omega) aZ _ _ _ _ _ (by omega)
include hn less in
theorem bAg{a len M:Int}(ha:0≤a)(hl:8≤len)(hb:a+len≤n)(hM:1≤M∧M≤2*len): ∀(m:Nat) (l:List aC) (a' len' r M' i:Int),(l.length=n∧a'=a∧len'=len∧M'=M∧a+len.tdiv 4*2-1≤i∧i≤a+len.tdiv 4*2+2∧0<m∧a+len.tdiv 4*2+2-i<m)→Tot (dL cmp m l a' len' r M' i) fun l'=>l'.length=n
 |0,l,a',len',r,M',i,h=>by omega
 |m+1,l,a',len',r,M',i,h=>by
  show Tot (iP cmp (dL cmp m) l a' len' r M' i) _;have:=less;unfold iP;have ih:=bAg ha hl hb hM m;obtain ⟨h3,rfl,rfl,rfl,h4,h5,h6,h7⟩:=h;have d:2≤len'.tdiv 4∧len'.tdiv 4*4≤len':=by rw [Int.tdiv_eq_ediv_of_nonneg (by omega)];omega
  refine tC (fun c=>?_) fun c=>tS h3;simp (disch:=omega) only [nW,decide_eq_true_eq] at c
  have nx: ∀(r' o:Int),(0≤o∧o<len')→Tot (gK cmp (dL cmp m) l a' len' r' M' i o) fun l'=>l'.length=n:=fun r' o ho=>by
   unfold gK lY;exact tA
  refine tB (P:=fun _=>True) (tS trivial) fun x _=>?_;obtain ⟨r5,x4⟩:=x;have w:IntKind.u64.wrap (M'-1)=M'-1:=by rw [IntKind.wrap_u64];omega
  have hbd:=bH5 (x:=r5) (y:=M'-1) (by omega) (by omega);simp only [w];generalize yS .u64 r5 (M'-1)=o at hbd;exact tA
include hn less in
theorem bXa(l:List aC)(a b:Int)(h:l.length=n∧0≤a∧a+13≤b∧b≤n):Tot (jM l a b cmp) fun l'=>l'.length=n:=by
 have hF:=FUv;unfold jM;rw [nW (n:=b-a) (by omega)];refine tC (fun c=>?_) fun c=>tS h.1;refine tB (bYv (by omega)) fun M hM=>?_;have d:2≤(b-a).tdiv 4∧(b-a).tdiv 4*4≤b-a:=by rw [Int.tdiv_eq_ediv_of_nonneg (by omega)];omega
 rw [nW (n:=(b-a).tdiv 4) (by omega),nW (n:=(b-a).tdiv 4*2) (by omega),nW (n:=a+(b-a).tdiv 4*2) (by omega),nW (by omega)];exact bAg hn less (a:=a) (len:=b-a) (M:=M) h.2.1 (by omega) (by omega) hM aZ _ _ _ _ _ _ (by omega)
include hn less in
theorem bE6{l:List aC}{lo hi a b s:Int}(h:l.length=n∧0≤lo∧hi≤n∧lo≤a∧a<hi∧lo≤b∧b<hi):Tot (iM l a b s cmp) fun x=>lo≤x.1∧x.1<hi∧lo≤x.2.1∧x.2.1<hi:=by
 have:=hn;unfold iM;refine tI (by omega) fun _=>tI (by omega) fun _=>tB (less _ _) fun _ _=>tC (fun _=>tS ?_) fun _=>tS ?_<;>(simp only [];omega)
include hn less in
theorem bTv{l:List aC}{lo hi a b c s:Int}(h:l.length=n∧0≤lo∧hi≤n∧lo≤a∧a<hi∧lo≤b∧b<hi∧lo≤c∧c<hi):Tot (kP l a b c s cmp) fun x=>lo≤x.1∧x.1<hi:=by
 unfold kP;refine tB (bE6 hn less (lo:=lo) (hi:=hi) (by omega)) fun x hx=>?_;obtain ⟨r3,r4,x2⟩:=x;simp only [] at hx⊢;refine tB (bE6 hn less (lo:=lo) (hi:=hi) (by omega)) fun y hy=>?_;obtain ⟨r7,r8,x6⟩:=y;simp only [] at hy⊢;refine tB (bE6 hn less (lo:=lo) (hi:=hi) (by omega)) fun z hz=>?_;obtain ⟨r11,r12,x10⟩:=z;simp only [] at hz⊢;exact tS (by simp only [];omega)
include hn less in
theorem bNm{l:List aC}{lo hi a s:Int}(h:l.length=n∧0≤lo∧hi≤n∧lo+1≤a∧a+1<hi):Tot (eW l a s cmp) fun x=>lo≤x.1∧x.1<hi:=by
 unfold eW;rw [nW (by omega),nW (by omega)];refine tB (bTv hn less (lo:=lo) (hi:=hi) (by omega)) fun x hx=>?_;obtain ⟨r3,x2⟩:=x;exact tS hx
include hn less in
theorem bXd{l:List aC}{a b:Int}(h:l.length=n∧0≤a∧a+13≤b∧b≤n):Tot (mO l a b cmp) fun x=>a≤x.1∧x.1<b:=by
 unfold mO;have d:2≤(b-a).tdiv 4∧(b-a).tdiv 4*4≤b-a:=by rw [Int.tdiv_eq_ediv_of_nonneg (by omega)];omega
 rw [nW (n:=b-a) (by omega),nW (n:=(b-a).tdiv 4) (by omega),nW (n:=(b-a).tdiv 4*1) (by omega),nW (n:=(b-a).tdiv 4*2) (by omega),nW (n:=(b-a).tdiv 4*3) (by omega),nW (n:=a+(b-a).tdiv 4*1) (by omega),nW (n:=a+(b-a).tdiv 4*2) (by omega),nW (n:=a+(b-a).tdiv 4*3) (by omega)]
 have J1: ∀s j:Int,a≤j∧j<b→Tot (kF cmp s j) fun x=>a≤x.1∧x.1<b:=fun s j hj=>by
  unfold kF;exact tC (fun _=>tS hj) fun _=>tC (fun _=>tS hj) fun _=>tS hj
 have J2: ∀s i j k:Int,(a≤i∧i<b∧a≤j∧j<b∧a≤k∧k<b)→Tot (kG cmp l s i j k) fun x=>a≤x.1∧x.1<b:=fun s i j k hj=>by
  unfold kG;refine tB (bTv hn less (lo:=a) (hi:=b) (by omega)) fun x hx=>?_;obtain ⟨r3,x2⟩:=x;exact J1 _ _ hx
 generalize (b-a).tdiv 4=q at d;refine tC (fun c=>tC (fun c'=>?_) fun c'=>J2 _ _ _ _ (by omega)) fun c=>J1 _ _ (by omega);refine tB (bNm hn less (lo:=a) (hi:=b) (by omega)) fun x hx=>?_;obtain ⟨r6,x5⟩:=x;simp only [] at hx⊢;refine tB (bNm hn less (lo:=a) (hi:=b) (by omega)) fun x hx=>?_;obtain ⟨r9,x8⟩:=x;simp only [] at hx⊢;refine tB (bNm hn less (lo:=a) (hi:=b) (by omega)) fun x hx=>?_;obtain ⟨r12,x11⟩:=x;simp only [] at hx⊢;exact J2 _ _ _ _ (by omega)
include hn less in
theorem bAn{a b:Int}(ha:0≤a)(hb:b≤n): ∀(m:Nat) (l:List aC) (i j:Int),(l.length=n∧a≤i∧j<b∧i≤n∧ -2≤j∧0<m∧j-i<m)→Tot (gT cmp m l i j) fun l'=>l'.length=n
 |0,l,i,j,h=>by omega
 |m+1,l,i,j,h=>by
  show Tot (jQ cmp (gT cmp m) l i j) _;have:=less;unfold jQ;have ih:=bAn ha hb m;exact tA
include hn less in
theorem bXe(l:List aC)(a b:Int)(h:l.length=n∧0≤a∧a≤b∧b≤n):Tot (kJ l a b cmp) fun l'=>l'.length=n:=by
 have hF:=FUv;unfold kJ;rw [nW (by omega)];exact bAn hn less h.2.1 h.2.2.2 aZ _ _ _ (by omega)
include hn less in
theorem bAl{rec1:List aC→Int→Int→Int→Int→Option (Bool×List aC)}{a b i j:Int}(hb:b≤n)(hi:0≤i)(nx: ∀(l:List aC) (a' b' i' j':Int),(l.length=n∧a'=a∧b'=b∧i'=i∧j'=j)→Tot (cH cmp rec1 l a' b' i' j') fun x=>x.2.length=n):
 ∀(m:Nat) (l:List aC) (a' b' i' j' k:Int),(l.length=n∧a'=a∧b'=b∧i'=i∧j'=j∧i<k∧0<m∧b-k<m)→Tot (eF cmp rec1 m l a' b' i' j' k) fun x=>x.2.length=n
 |0,l,a',b',i',j',k,h=>by omega
 |m+1,l,a',b',i',j',k,h=>by
  show Tot (fL cmp rec1 (eF cmp rec1 m) l a' b' i' j' k) _;unfold fL;have ih:=bAl hb hi nx m;exact tA
include hn less in
theorem bNo{rec1:List aC→Int→Int→Int→Int→Option (Bool×List aC)}{a b i j:Int}(hb:b≤n)(hi:0≤i)(hi':i≤b)(nx: ∀(l:List aC) (a' b' i' j':Int),(l.length=n∧a'=a∧b'=b∧i'=i∧j'=j)→Tot (cH cmp rec1 l a' b' i' j') fun x=>x.2.length=n):
 ∀(l:List aC) (a' b' i' j':Int),(l.length=n∧a'=a∧b'=b∧i'=i∧j'=j)→Tot (dB cmp rec1 l a' b' i' j') fun x=>x.2.length=n:=fun l a' b' i' j' h=>by
 have hF:=FUv;unfold dB;have nx2:=bAl hn less hb hi nx aZ;exact tA
include hn less in
theorem bAm{rec1:List aC→Int→Int→Int→Int→Option (Bool×List aC)}{a b i j:Int}(hb:b≤n)(hi:0≤i)(hi':i<b)(nx: ∀(l:List aC) (a' b' i' j':Int),(l.length=n∧a'=a∧b'=b∧i'=i∧j'=j)→Tot (dB cmp rec1 l a' b' i' j') fun x=>x.2.length=n):
 ∀(m:Nat) (l:List aC) (a' b' i' j' k:Int),(l.length=n∧a'=a∧b'=b∧i'=i∧j'=j∧k<i∧ -1≤k∧0<m∧k<m)→Tot (eG cmp rec1 m l a' b' i' j' k) fun x=>x.2.length=n
 |0,l,a',b',i',j',k,h=>by omega
 |m+1,l,a',b',i',j',k,h=>by
  show Tot (fN cmp rec1 (eG cmp rec1 m) l a' b' i' j' k) _;unfold fN;have ih:=bAm hb hi hi' nx m;exact tA
include hn less in
theorem bAk{rec1:List aC→Int→Int→Int→Int→Option (Bool×List aC)}{a b j:Int}(ha:0≤a)(hb:b≤n)(hj:0≤j∧j<5)(nx: ∀(l:List aC) (a' b' i' j':Int),(l.length=n∧a'=a∧b'=b∧a+1≤i'∧i'≤b∧j'=j+1)→Tot (rec1 l a' b' i' j') fun x=>x.2.length=n):
 ∀(m:Nat) (l:List aC) (a' b' i j':Int),(l.length=n∧a'=a∧b'=b∧a+1≤i∧i≤b∧j'=j∧0<m∧b-i<m)→Tot (eE cmp rec1 m l a' b' i j') fun x=>x.2.length=n
 |0,l,a',b',i,j',h=>by omega
 |m+1,l,a',b',i,j',h=>by
  have hF:=FUv;show Tot (fK cmp rec1 (eE cmp rec1 m) l a' b' i j') _;unfold fK;have ih:=bAk ha hb hj nx m
  have j1: ∀(l:List aC) (a'' b'' i'' j'':Int),(l.length=n∧a''=a∧b''=b∧i''=i∧j''=j)→Tot (cH cmp rec1 l a'' b'' i'' j'') fun x=>x.2.length=n:=fun l a'' b'' i'' j'' q=>by
   unfold cH;rw [nW (by omega)];exact nx _ _ _ _ _ (by omega)
  clear nx;have nx:=bNo hn less hb (by omega) (by omega) j1
  by_cases hib:i<b
  · have nx2:=bAm hn less hb (by omega) hib nx aZ;clear j1;exact tA
  · clear j1;exact tA
include hn less in
theorem bAj{a b:Int}(ha:0≤a)(hb:b≤n): ∀(m:Nat) (l:List aC) (a' b' i j:Int),(l.length=n∧a'=a∧b'=b∧a+1≤i∧i≤b∧0≤j∧j≤5∧0<m∧5-j<m)→Tot (aW cmp m l a' b' i j) fun x=>x.2.length=n
 |0,l,a',b',i,j,h=>by omega
 |m+1,l,a',b',i,j,h=>by
  have hF:=FUv;show Tot (fJ cmp (aW cmp m) l a' b' i j) _;unfold fJ;refine tC (fun c=>?_) fun c=>tS h.1;simp only [decide_eq_true_eq] at c;exact bAk hn less (a:=a) (b:=b) (j:=j) ha hb (by omega) (fun l a' b' i' j' q=>bAj ha hb m _ _ _ _ _ (by omega)) aZ _ _ _ _ _ (by omega)
include hn less in
theorem bXc{l:List aC}{a b:Int}(h:l.length=n∧0≤a∧a+13≤b∧b≤n):Tot (gD l a b cmp) fun x=>x.2.length=n:=by
 have hF:=FUv;unfold gD;rw [nW (by omega)];exact bAj hn less h.2.1 h.2.2.2 aZ _ _ _ _ _ (by omega)
include hn less in
theorem bHi{rec1:List aC→Int→Int→Int→Option (Int×List aC)}{a b i J:Int}(ha:0≤a)(hb:b≤n)(hi:a+1≤i∧i≤b)(hJ:J<b)(nx: ∀(l:List aC) (a' i' j':Int),(l.length=n∧a'=a∧i'=i+1∧i≤j'+1∧j'<J)→Tot (rec1 l a' i' j') fun x=>x.2.length=n∧a<x.1∧x.1≤b):
 ∀(m:Nat) (l:List aC) (a' i' j:Int),(l.length=n∧a'=a∧i'=i∧a≤j∧j≤J∧0<m∧j-a<m)→Tot (fV cmp rec1 m l a' i' j) fun x=>x.2.length=n∧a<x.1∧x.1≤b
 |0,l,a',i',j,h=>by omega
 |m+1,l,a',i',j,h=>by
  show Tot (hY cmp rec1 (fV cmp rec1 m) l a' i' j) _;unfold hY;have ih:=bHi ha hb hi hJ nx m;exact tA
include hn less in
theorem bHh{rec1:List aC→Int→Int→Int→Option (Int×List aC)}{a b I j:Int}(ha:0≤a)(hb:b≤n)(hI:a+1≤I)(hj:a≤j∧j<b)(nx: ∀(l:List aC) (a' i' j':Int),(l.length=n∧a'=a∧I<i'∧i'≤b∧a≤j'∧j'<j)→Tot (rec1 l a' i' j') fun x=>x.2.length=n∧a<x.1∧x.1≤b):
 ∀(m:Nat) (l:List aC) (a' i j':Int),(l.length=n∧a'=a∧j'=j∧I≤i∧i≤b∧0<m∧b-i<m)→Tot (fU cmp rec1 m l a' i j') fun x=>x.2.length=n∧a<x.1∧x.1≤b
 |0,l,a',i,j',h=>by omega
 |m+1,l,a',i,j',h=>by
  have hF:=FUv;show Tot (gZ cmp rec1 (fU cmp rec1 m) l a' i j') _;unfold gZ;have ih:=bHh ha hb hI hj nx m;have nx2:=bHi hn less (rec1:=rec1) (a:=a) (b:=b) (i:=i) (J:=j) ha hb (by omega) hj.2 (fun l a' i' j' q=>nx _ _ _ _ (by omega)) aZ;clear nx;exact tA
include hn less in
theorem bHg{a b:Int}(ha:0≤a)(hb:b≤n): ∀(m:Nat) (l:List aC) (a' i j:Int),(l.length=n∧a'=a∧a+1≤i∧i≤b∧a≤j∧j<b∧0<m∧j-a<m)→Tot (bX cmp m l a' i j) fun x=>x.2.length=n∧a<x.1∧x.1≤b
 |0,l,a',i,j,h=>by omega
 |m+1,l,a',i,j,h=>by
  have hF:=FUv;show Tot (gY cmp (bX cmp m) l a' i j) _;unfold gY;exact bHh hn less (I:=i) (j:=j) ha hb (by omega) (by omega) (fun l a' i' j' q=>bHg ha hb m _ _ _ _ (by omega)) aZ _ _ _ _ (by omega)
include hn less in
theorem cEt{l:List aC}{a b p:Int}(h:l.length=n∧0≤a∧a+13≤b∧b≤n∧a≤p∧p<b):Tot (iX l a b p cmp) fun x=>x.2.length=n∧a<x.1∧x.1≤b:=by
 have hF:=FUv;unfold iX;have nx:=bHg hn less (a:=a) (b:=b) h.2.1 h.2.2.2.1 aZ;exact tA
include hn less in
theorem bHf{rec3:List aC→Int→Int→Int→Option (Int×Bool×List aC)}{a b i J:Int}(ha:0≤a)(hb:b≤n)(hi:a+1≤i∧i≤b)(hJ:J<b)(nx: ∀(l:List aC) (a' i' j':Int),(l.length=n∧a'=a∧i'=i+1∧i≤j'+1∧j'<J)→Tot (rec3 l a' i' j') fun x=>x.2.2.length=n∧a≤x.1∧x.1<b):
 ∀(m:Nat) (l:List aC) (a' i' j:Int),(l.length=n∧a'=a∧i'=i∧a≤j∧j≤J∧0<m∧j-a<m)→Tot (iG cmp rec3 m l a' i' j) fun x=>x.2.2.length=n∧a≤x.1∧x.1<b
 |0,l,a',i',j,h=>by omega
 |m+1,l,a',i',j,h=>by
  show Tot (kW cmp rec3 (iG cmp rec3 m) l a' i' j) _;unfold kW;have ih:=bHf ha hb hi hJ nx m;exact tA
include hn less in
theorem bHe{rec3:List aC→Int→Int→Int→Option (Int×Bool×List aC)}{a b I j:Int}(ha:0≤a)(hb:b≤n)(hI:a+1≤I)(hj:a≤j∧j<b)(nx: ∀(l:List aC) (a' i' j':Int),(l.length=n∧a'=a∧I<i'∧i'≤b∧a≤j'∧j'<j)→Tot (rec3 l a' i' j') fun x=>x.2.2.length=n∧a≤x.1∧x.1<b):
 ∀(m:Nat) (l:List aC) (a' i j':Int),(l.length=n∧a'=a∧j'=j∧I≤i∧i≤b∧0<m∧b-i<m)→Tot (iF cmp rec3 m l a' i j') fun x=>x.2.2.length=n∧a≤x.1∧x.1<b
 |0,l,a',i,j',h=>by omega
 |m+1,l,a',i,j',h=>by
  have hF:=FUv;show Tot (kV cmp rec3 (iF cmp rec3 m) l a' i j') _;unfold kV;have ih:=bHe ha hb hI hj nx m;have nx2:=bHf hn less (rec3:=rec3) (a:=a) (b:=b) (i:=i) (J:=j) ha hb (by omega) hj.2 (fun l a' i' j' q=>nx _ _ _ _ (by omega)) aZ;clear nx;exact tA
include hn less in
theorem bHd{a b:Int}(ha:0≤a)(hb:b≤n): ∀(m:Nat) (l:List aC) (a' i j:Int),(l.length=n∧a'=a∧a+1≤i∧i≤b∧a≤j∧j<b∧0<m∧j-a<m)→Tot (cR cmp m l a' i j) fun x=>x.2.2.length=n∧a≤x.1∧x.1<b
 |0,l,a',i,j,h=>by omega
 |m+1,l,a',i,j,h=>by
  have hF:=FUv;show Tot (kU cmp (cR cmp m) l a' i j) _;unfold kU;exact bHe hn less (I:=i) (j:=j) ha hb (by omega) (by omega) (fun l a' i' j' q=>bHd ha hb m _ _ _ _ (by omega)) aZ _ _ _ _ (by omega)
include hn less in
theorem bHc{a b i J:Int}(ha:0≤a)(hb:b≤n)(hi:a+1≤i∧i≤b)(hJ:J<b):
 ∀(m:Nat) (l:List aC) (a' i' j:Int),(l.length=n∧a'=a∧i'=i∧a≤j∧j≤J∧0<m∧j-a<m)→Tot (iE cmp m l a' i' j) fun x=>x.2.2.length=n∧a≤x.1∧x.1<b
 |0,l,a',i',j,h=>by omega
 |m+1,l,a',i',j,h=>by
  have hF:=FUv;show Tot (kT cmp (iE cmp m) l a' i' j) _;unfold kT;have ih:=bHc ha hb hi hJ m;have nx:=bHd hn less ha hb aZ;exact tA
include hn less in
theorem bHb{a b j:Int}(ha:0≤a)(hb:b≤n)(hj:a≤j∧j<b):
 ∀(m:Nat) (l:List aC) (a' i j':Int),(l.length=n∧a'=a∧j'=j∧a+1≤i∧i≤b∧0<m∧b-i<m)→Tot (iD cmp m l a' i j') fun x=>x.2.2.length=n∧a≤x.1∧x.1<b
 |0,l,a',i,j',h=>by omega
 |m+1,l,a',i,j',h=>by
  have hF:=FUv;show Tot (kS cmp (iD cmp m) l a' i j') _;unfold kS;have ih:=bHb ha hb hj m;have nx2:=bHc hn less (a:=a) (b:=b) (i:=i) (J:=j) ha hb (by omega) hj.2 aZ;exact tA
include hn less in
theorem cEs{l:List aC}{a b p:Int}(h:l.length=n∧0≤a∧a+13≤b∧b≤n∧a≤p∧p<b):Tot (lQ l a b p cmp) fun x=>x.2.2.length=n∧a≤x.1∧x.1<b:=by
 have hF:=FUv;unfold lQ;have nx:=bHb hn less (a:=a) (b:=b) (j:=b-1) h.2.1 h.2.2.2.1 (by omega) aZ;exact tA
include hn less in
theorem bHa{N:Nat}{recf:List aC→Int→Int→Int→(aC→aC→Option Int)→Option (List aC)}(rf: ∀(l:List aC) (a b k:Int),(l.length=n∧0≤a∧a≤b∧b≤n∧b-a<N)→Tot (recf l a b k cmp) fun l'=>l'.length=n):
 ∀(m:Nat) (l:List aC) (a b k:Int) (x y:Bool),(l.length=n∧0≤a∧a≤b∧b≤n∧b-a≤N∧0<m∧b-a<m)→Tot (cP cmp recf m l a b k x y) fun l'=>l'.length=n
 |0,l,a,b,k,x,y,h=>by omega
 |m+1,l,a,b,k,x,y,h=>by
  have hF:=FUv;show Tot (mC cmp recf (cP cmp recf m) l a b k x y) _;unfold mC;have ih:=bHa rf m;rw [nW (n:=b-a) (by omega)];refine tC (fun c=>tKe (bXb hn less (by omega)) (by omega) fun _ h=>tS h) fun c=>?_;simp only [decide_eq_false_iff_not] at c;refine tC (fun _=>tKe (bVe hn less (by omega)) (by omega) fun _ h=>tS h) fun _=>?_
  have j3: ∀(l:List aC) (k p:Int),(l.length=n∧a≤p∧p<b)→Tot (jX cmp recf (cP cmp recf m) l a b k x y (b-a) p) fun l'=>l'.length=n:=fun l k p hp=>by
   unfold jX;refine tG (fun c=>?_) fun _=>tG (fun c=>?_) fun _=>tG (fun _=>less _ _) fun _=>tC (fun _=>?_) fun _=>?_
   · simp only [beq_true,decide_eq_true_eq] at c;exact tI' tW
   · exact tI' tW
   · refine tKp (cEt hn less (by omega)) (by omega) fun x hx=>?_;obtain ⟨r,l2⟩:=x;simp only [] at hx⊢;exact ih _ _ _ _ _ _ (by omega)
   ·
    refine tKp (cEs hn less (by omega)) (by omega) fun x hx=>?_;obtain ⟨r,r2,l2⟩:=x;simp only [] at hx⊢;refine tC (fun _=>?_) fun _=>?_
    · refine tKe (rf _ _ _ _ (by omega)) (by omega) fun l3 h3=>?_;rw [nW (n:=r+1) (by omega)];exact ih _ _ _ _ _ _ (by omega)
    · rw [nW (n:=r+1) (by omega)];refine tKe (rf _ _ _ _ (by omega)) (by omega) fun l3 h3=>?_;exact ih _ _ _ _ _ _ (by omega)
  have j2: ∀(l:List aC) (k p q:Int),(l.length=n∧a≤p∧p<b)→Tot (jW cmp recf (cP cmp recf m) l a b k x y (b-a) p q) fun l'=>l'.length=n:=fun l k p q hp=>by
   unfold jW;refine tC (fun _=>?_) fun _=>j3 _ _ _ hp;refine tKe (bXc hn less (by omega)) (by omega) fun x hx=>?_;obtain ⟨r,l2⟩:=x;exact tC (fun _=>tS hx) fun _=>j3 _ _ _ ⟨hx,hp.2⟩
  have j1: ∀(l:List aC) (k:Int),l.length=n→Tot (jV cmp recf (cP cmp recf m) l a b k x y (b-a)) fun l'=>l'.length=n:=fun l k hl=>by
   unfold jV;refine tB (bXd hn less (by omega)) fun x hx=>?_;obtain ⟨r6,r7⟩:=x;simp only [] at hx⊢;refine tC (fun _=>?_) fun _=>j2 _ _ _ _ ⟨hl,hx⟩;refine tKe (bXe hn less _ _ _ (by omega)) (by omega) fun l2 h2=>?_;rw [nW (n:=b-1) (by omega),nW (n:=r6-a) (by omega),nW (by omega)];exact j2 _ _ _ _ (by omega)
  refine tC (fun _=>?_) fun _=>j1 _ _ h.1;refine tKe (bXa hn less _ _ _ (by omega)) (by omega) fun l2 h2=>j1 _ _ h2
include hn less in
theorem bNn: ∀(N:Nat) (l:List aC) (a b k:Int),(l.length=n∧0≤a∧a≤b∧b≤n∧b-a<N)→Tot (cC N l a b k cmp) fun l'=>l'.length=n
 |0,l,a,b,k,h=>by omega
 |N+1,l,a,b,k,h=>by
  have hF:=FUv;show Tot (cP cmp (cC N) aZ l a b k true true) _;exact bHa hn less (bNn N) aZ _ _ _ _ _ _ (by omega)
end
theorem bPv{l:List Int}(hl:l.length≤1100):Tot (oX l) fun l'=>l'.length=l.length:=by
 have hF:=FUv;unfold oX;refine tB (bX0 hl) fun r _=>?_;refine tKe (bPc (n:=l.length) (by omega) aZ _ _ _ _ (by omega)) rfl fun x hx=>tS hx
theorem bLw{l:List aC}(hl:l.length≤1100){cmp:aC→aC→Option Int}(hc: ∀x y,Tot (cmp x y) fun _=>True):Tot (nC l cmp) fun l'=>l'.length=l.length:=by
 have hF:=FUv;unfold nC;refine tB (bX0 hl) fun r _=>?_;refine tKe (bNn (n:=l.length) (by omega) hc aZ _ _ _ _ (by omega)) rfl fun x hx=>tS hx
end Go.Proofs.YtkdohhmacfoolaaGreat
