/- Facts. No condition. -/
import Derived.Test.YtkdohhmacfoolaaGreatNpGI7
set_option linter.unusedVariables false
set_option linter.unusedSimpArgs false
set_option maxRecDepth 20000
set_option maxHeartbeats 1000000
namespace Go.Proofs.YtkdohhmacfoolaaGreat
open Go Go.AM Go.Pl
def Tot{α:Type}(o:Option α)(P:α→Prop):Prop:= ∃x,o=some x∧P x
section
variable {α β:Type}{P:α→Prop}{Q:β→Prop}
theorem tS{x:α}(h:P x):Tot (some x) P:=⟨x,rfl,h⟩
theorem tB{o:Option α}{f:α→Option β}(h:Tot o P)(k: ∀x,P x→Tot (f x) Q):Tot (o.bind f) Q:=by
 obtain ⟨x,rfl,hx⟩:=h;exact k x hx
theorem tC{b:Bool}{x y:Option α}(h:b=true→Tot x P)(k:b=false→Tot y P):Tot (bif b then x else y) P:=by cases b;exact k rfl;exact h rfl
theorem tG{b:Bool}{d:α}{o:Option α}{f:α→Option β}(h:b=true→Tot o (fun _=>True))(k: ∀x,Tot (f x) Q):Tot ((fG b d o).bind f) Q:=by
 cases b with
 |false=>exact k d
 |true=>obtain ⟨x,e,_⟩:=h rfl;subst e;exact k x
theorem tI{l:List α}{i:Int}{f:α→Option β}(h:0≤i∧i<l.length)(k: ∀x,Tot (f x) Q):Tot ((idx l i).bind f) Q:=by
 have:idx l i=some (l[i.toNat]'(by omega)):=by unfold idx;rw [if_pos h.1,List.getElem?_eq_getElem]
 rw [this];exact k _
theorem tI'{l:List α}{i:Int}(h:0≤i∧i<l.length):Tot (idx l i) (fun _=>True):=
 ⟨l[i.toNat]'(by omega),by unfold idx;rw [if_pos h.1,List.getElem?_eq_getElem],trivial⟩
theorem tT{l:List α}{i:Int}{x:α}{f:List α→Option β}(h:0≤i∧i<l.length)(k: ∀l':List α,l'.length=l.length→Tot (f l') Q):Tot ((stt l i x).bind f) Q:=by
 have:stt l i x=some (l.set i.toNat x):=by unfold stt;rw [if_pos h]
 rw [this];exact k _ (by simp)
end
theorem nU{n:Int}(h: -4611686018427387904≤n∧n≤4611686018427387904):IntKind.i64.wrap n=n:=by rw [IntKind.wrap_i64];omega
theorem tW{p:Prop}(h:p:=by (try simp (disch:=omega) only [nU,true_and] at*);first|done|trivial|omega):p:=h
theorem tKe{α β:Type}{Q:β→Prop}{len:α→Nat}{n n':Nat}{o:Option α}{f:α→Option β}(h:Tot o fun x=>len x=n)(c:n'=n)(k: ∀x,len x=n→Tot (f x) Q):Tot ((sX len n' o).bind f) Q:=by
 obtain ⟨x,rfl,hx⟩:=h;have:sX len n' (some x)=some x:=by unfold sX;simp [c,hx]
 rw [this];exact k x hx
theorem tKp{α β:Type}{R:α→Prop}{Q:β→Prop}{len:α→Nat}{n n':Nat}{o:Option α}{f:α→Option β}(h:Tot o fun x=>len x=n∧R x)(c:n'=n)(k: ∀x,len x=n∧R x→Tot (f x) Q):Tot ((sX len n' o).bind f) Q:=by
 obtain ⟨x,rfl,hx⟩:=h;have:sX len n' (some x)=some x:=by unfold sX;simp [c,hx.1]
 rw [this];exact k x hx
theorem tA{Q:Prop}(h:Q:=by
 (repeat' (first|((with_reducible apply nx);exact tW)|((with_reducible apply nx2);exact tW)|((with_reducible refine tI ?_ fun _=>?_);exact tW)|((with_reducible refine tT ?_ fun _ _=>?_);exact tW)|((with_reducible refine tG (fun c=>?_) fun _=>?_)<;>(try simp (disch:=omega) only [nU,beq_true,decide_eq_true_eq] at c))|((with_reducible refine tI' ?_);exact tW)|(with_reducible exact less _ _)|(with_reducible refine tB (less _ _) fun _ _=>?_)|((with_reducible refine tC (fun c=>?_) fun c=>?_)<;>(try simp (disch:=omega) only [nU,beq_true,Bool.not_eq_true',Bool.not_eq_false',Bool.and_eq_true,Bool.and_eq_false_iff,beq_iff_eq,beq_eq_false_iff_ne,decide_eq_true_eq,decide_eq_false_iff_not,ne_eq] at c))|((with_reducible refine tS ?_);first|assumption|omega|((try simp only []);omega)|(refine ⟨?_,?_,?_⟩<;>exact tW))|((with_reducible refine tKe (n:=n) ?_ ?_ fun _ _=>?_);((with_reducible apply cl);exact tW);omega)|((with_reducible apply ih);exact tW)|(exfalso;exact tW)))):Q:=h
theorem FUv:bC=1000000000000:=rfl
theorem bG1{x y:Int}(h0:0≤y)(h1:y<9223372036854775808):0≤yK .u64 x y∧yK .u64 x y≤y:=by
 unfold yK
 have e:(BitVec.ofInt 64 y).toNat=y.toNat:=by
  rw [BitVec.toNat_ofInt];have q:((2^64:Nat):Int)=18446744073709551616:=by decide
  rw [q,Int.emod_eq_of_lt h0 (by omega)]
 have l:(BitVec.ofInt 64 x &&& BitVec.ofInt 64 y).toNat≤y.toNat:=by
  rw [BitVec.toNat_and,e];exact Nat.and_le_right
 show 0≤IntKind.u64.wrap ((BitVec.ofInt 64 x &&& BitVec.ofInt 64 y).toNat:Int)∧IntKind.u64.wrap ((BitVec.ofInt 64 x &&& BitVec.ofInt 64 y).toNat:Int)≤y;generalize (BitVec.ofInt 64 x &&& BitVec.ofInt 64 y).toNat=k at l;rw [IntKind.wrap_u64];omega
theorem less(x y:Int):Tot (fE x y) fun _=>True:=by
 unfold fE mW;exact tB (P:=fun _=>True) (tS trivial) fun _ _=>tG (fun _=>tS trivial) fun _=>tS trivial
def blT(n:Nat):Bool:=match xH (IntKind.u64.wrap (n:Int)) with
  |some r=>decide (0≤r)&&(decide (n<8)||decide (1≤shl .u64 1 r∧shl .u64 1 r≤2*(n:Int)))
  |none=>false
theorem blA:(List.range 1101).all blT=true:=by decide+kernel
theorem bl1{n:Nat}(h:n≤1100):Tot (xH (IntKind.u64.wrap (n:Int))) fun r=>0≤r∧(8≤n→1≤shl .u64 1 r∧shl .u64 1 r≤2*(n:Int)):=by
 have:=List.all_eq_true.1 blA n (List.mem_range.2 (by omega));unfold blT at this;split at this
 · rename_i r hr;simp only [Bool.and_eq_true,Bool.or_eq_true,decide_eq_true_eq] at this;exact ⟨r,hr,this.1,fun h8=>this.2.resolve_left (by omega)⟩
 · cases this
theorem bVk{α:Type}{l:List α}(h:l.length≤1100):Tot (xH (IntKind.u64.wrap (l.length:Int))) fun _=>True:=by
 obtain ⟨r,e,_⟩:=bl1 h;exact ⟨r,e,trivial⟩
theorem bXe{n:Int}(h:8≤n∧n≤1100):Tot (mZ n) fun M=>1≤M∧M≤2*n:=by
 obtain ⟨k,rfl⟩: ∃k:Nat,n=(k:Int):=⟨n.toNat,by omega⟩
 unfold mZ;refine tB (bl1 (by omega)) fun r hr=>?_;unfold chk;rw [bt (by simpa using hr.1),aA];exact tS (hr.2 (by omega))
section
variable {n:Nat}(hn:n≤1100)
include hn in
theorem bAi{rec1:List Int→Int→Int→Int→Option (List Int)}{a b i:Int}(ha:0≤a)(hb:b≤n)(hi:i<b)(ha':a≤i)(nx: ∀(l:List Int) (a' b' i':Int),l.length=n∧a'=a∧b'=b∧i'=i+1→Tot (rec1 l a' b' i') fun l'=>l'.length=n):
 ∀(m:Nat) (l:List Int) (a' b' i' j:Int),(l.length=n∧a'=a∧b'=b∧i'=i∧a≤j∧j≤i∧0<m∧j-a<m)→Tot (gN rec1 m l a' b' i' j) fun l'=>l'.length=n
 |0,l,a',b',i',j,h=>by omega
 |m+1,l,a',b',i',j,h=>by
  show Tot (iT rec1 (gN rec1 m) l a' b' i' j) _;unfold iT;have ih:=bAi ha hb hi ha' nx m;exact tA
include hn in
theorem bAh{a b:Int}(ha:0≤a)(hb:b≤n): ∀(m:Nat) (l:List Int) (a' b' i:Int),(l.length=n∧a'=a∧b'=b∧a≤i∧0<m∧b-i<m)→Tot (dO m l a' b' i) fun l'=>l'.length=n
 |0,l,a',b',i,h=>by omega
 |m+1,l,a',b',i,h=>by
  have hF:=FUv;show Tot (iS (dO m) l a' b' i) _;unfold iS;obtain ⟨h1,rfl,rfl,h4,h5,h6⟩:=h;refine tC (fun c=>?_) fun c=>tS h1;simp only [decide_eq_true_eq] at c;exact bAi hn ha hb c h4 (fun l a' b' i' q=>bAh ha hb m _ _ _ _ (by omega)) bC _ _ _ _ _ (by omega)
include hn in
theorem bXg{l:List Int}{a b:Int}(h:l.length=n∧0≤a∧a≤b∧b≤n):Tot (jN l a b) fun l'=>l'.length=n:=by
 have hF:=FUv;unfold jN;rw [nU (by omega)];exact bAh hn h.2.1 h.2.2.2 bC _ _ _ _ (by omega)
include hn in
theorem aVh{hi first:Int}(h1:0≤first)(h2:first+hi≤n): ∀(m:Nat) (l:List Int) (hi' first' root:Int),(l.length=n∧hi'=hi∧first'=first∧0≤root∧root≤n∧0<m∧hi-root<m)→Tot (fC m l hi' first' root) fun l'=>l'.length=n
 |0,l,hi',first',root,h=>by omega
 |m+1,l,hi',first',root,h=>by
  show Tot (lR (fC m) l hi' first' root) _;unfold lR;have ih:=aVh h1 h2 m;obtain ⟨h3,rfl,rfl,h4,h5,h6,h7⟩:=h
  have nx: ∀c:Int,(root<c∧c<hi')→Tot (jF (fC m) l hi' first' root c) fun l'=>l'.length=n:=fun c hc=>by
   unfold jF;exact tA
  exact tA
include hn in
theorem bNy(l:List Int)(lo hi first:Int)(h:l.length=n∧0≤lo∧lo≤n∧0≤first∧first+hi≤n):Tot (kA l lo hi first) fun l'=>l'.length=n:=by
 have hF:=FUv;unfold kA;exact aVh hn h.2.2.2.1 h.2.2.2.2 bC _ _ _ _ (by omega)
include hn in
theorem aVg{first:Int}(h1:0≤first): ∀(m:Nat) (l:List Int) (first' lo i:Int),(l.length=n∧first'=first∧lo=0∧ -1≤i∧first+i<n∧0<m∧i+1<m)→Tot (jD m l first' lo i) fun l'=>l'.length=n
 |0,l,first',lo,i,h=>by omega
 |m+1,l,first',lo,i,h=>by
  show Tot (lN (jD m) l first' lo i) _;unfold lN;have ih:=aVg h1 m;have cl:=bNy hn;exact tA
include hn in
theorem aVf{first hi:Int}(h1:0≤first)(h2:0≤hi)(h3:first+hi≤n): ∀(m:Nat) (l:List Int) (first' lo hi' i:Int),(l.length=n∧first'=first∧lo=0∧hi'=hi∧ -1≤i∧i≤hi∧0<m∧i+1<m)→Tot (jC m l first' lo hi' i) fun l'=>l'.length=n
 |0,l,first',lo,hi',i,h=>by omega
 |m+1,l,first',lo,hi',i,h=>by
  have hF:=FUv;show Tot (lM (jC m) l first' lo hi' i) _;unfold lM;have ih:=aVf h1 h2 h3 m;have cl:=bNy hn;have nx:=aVg hn h1 bC;exact tA
include hn in
theorem bUo{l:List Int}{a b:Int}(h:l.length=n∧0≤a∧a+1≤b∧b≤n):Tot (lZ l a b) fun l'=>l'.length=n:=by
 have hF:=FUv;unfold lZ;have d: -1≤Int.tdiv (b-a-1) 2∧Int.tdiv (b-a-1) 2≤b-a:=by rw [Int.tdiv_eq_ediv_of_nonneg (by omega)];omega
 rw [nU (n:=b-a) (by omega),nU (n:=b-a-1) (by omega),nU (by omega)];exact aVf hn (first:=a) (hi:=b-a) h.2.1 (by omega) (by omega) bC _ _ _ _ _ (by omega)
include hn in
theorem bAg{a len M:Int}(ha:0≤a)(hl:8≤len)(hb:a+len≤n)(hM:1≤M∧M≤2*len): ∀(m:Nat) (l:List Int) (a' len' r M' i:Int),(l.length=n∧a'=a∧len'=len∧M'=M∧a+len.tdiv 4*2-1≤i∧i≤a+len.tdiv 4*2+2∧0<m∧a+len.tdiv 4*2+2-i<m)→Tot (dM m l a' len' r M' i) fun l'=>l'.length=n
 |0,l,a',len',r,M',i,h=>by omega
 |m+1,l,a',len',r,M',i,h=>by
  show Tot (iP (dM m) l a' len' r M' i) _;have:=hn;unfold iP;have ih:=bAg ha hl hb hM m;obtain ⟨h3,rfl,rfl,rfl,h4,h5,h6,h7⟩:=h;have d:2≤len'.tdiv 4∧len'.tdiv 4*4≤len':=by rw [Int.tdiv_eq_ediv_of_nonneg (by omega)];omega
  refine tC (fun c=>?_) fun c=>tS h3;simp (disch:=omega) only [nU,decide_eq_true_eq] at c
  have nx: ∀(r' o:Int),(0≤o∧o<len')→Tot (gK (dM m) l a' len' r' M' i o) fun l'=>l'.length=n:=fun r' o ho=>by
   unfold gK lX;exact tA
  refine tB (P:=fun _=>True) (tS trivial) fun x _=>?_;obtain ⟨r5,x4⟩:=x;have w:IntKind.u64.wrap (M'-1)=M'-1:=by rw [IntKind.wrap_u64];omega
  have hbd:=bG1 (x:=r5) (y:=M'-1) (by omega) (by omega);simp only [w];generalize yK .u64 r5 (M'-1)=o at hbd;exact tA
include hn in
theorem bXf(l:List Int)(a b:Int)(h:l.length=n∧0≤a∧a+13≤b∧b≤n):Tot (jL l a b) fun l'=>l'.length=n:=by
 have hF:=FUv;unfold jL;rw [nU (n:=b-a) (by omega)];refine tC (fun c=>?_) fun c=>tS h.1;refine tB (bXe (by omega)) fun M hM=>?_;have d:2≤(b-a).tdiv 4∧(b-a).tdiv 4*4≤b-a:=by rw [Int.tdiv_eq_ediv_of_nonneg (by omega)];omega
 rw [nU (n:=(b-a).tdiv 4) (by omega),nU (n:=(b-a).tdiv 4*2) (by omega),nU (n:=a+(b-a).tdiv 4*2) (by omega),nU (by omega)];exact bAg hn (a:=a) (len:=b-a) (M:=M) h.2.1 (by omega) (by omega) hM bC _ _ _ _ _ _ (by omega)
include hn in
theorem bF1{l:List Int}{lo hi a b s:Int}(h:l.length=n∧0≤lo∧hi≤n∧lo≤a∧a<hi∧lo≤b∧b<hi):Tot (iM l a b s) fun x=>lo≤x.1∧x.1<hi∧lo≤x.2.1∧x.2.1<hi:=by
 have:=hn;unfold iM;refine tI (by omega) fun _=>tI (by omega) fun _=>tB (less _ _) fun _ _=>tC (fun _=>tS ?_) fun _=>tS ?_<;>(simp only [];omega)
include hn in
theorem bSt{l:List Int}{lo hi a b c s:Int}(h:l.length=n∧0≤lo∧hi≤n∧lo≤a∧a<hi∧lo≤b∧b<hi∧lo≤c∧c<hi):Tot (kO l a b c s) fun x=>lo≤x.1∧x.1<hi:=by
 unfold kO;refine tB (bF1 hn (lo:=lo) (hi:=hi) (by omega)) fun x hx=>?_;obtain ⟨r3,r4,x2⟩:=x;simp only [] at hx⊢;refine tB (bF1 hn (lo:=lo) (hi:=hi) (by omega)) fun y hy=>?_;obtain ⟨r7,r8,x6⟩:=y;simp only [] at hy⊢;refine tB (bF1 hn (lo:=lo) (hi:=hi) (by omega)) fun z hz=>?_;obtain ⟨r11,r12,x10⟩:=z;simp only [] at hz⊢;exact tS (by simp only [];omega)
include hn in
theorem bNv{l:List Int}{lo hi a s:Int}(h:l.length=n∧0≤lo∧hi≤n∧lo+1≤a∧a+1<hi):Tot (eW l a s) fun x=>lo≤x.1∧x.1<hi:=by
 unfold eW;rw [nU (by omega),nU (by omega)];refine tB (bSt hn (lo:=lo) (hi:=hi) (by omega)) fun x hx=>?_;obtain ⟨r3,x2⟩:=x;exact tS hx
include hn in
theorem bXi{l:List Int}{a b:Int}(h:l.length=n∧0≤a∧a+13≤b∧b≤n):Tot (kL l a b) fun x=>a≤x.1∧x.1<b:=by
 unfold kL;have d:2≤(b-a).tdiv 4∧(b-a).tdiv 4*4≤b-a:=by rw [Int.tdiv_eq_ediv_of_nonneg (by omega)];omega
 rw [nU (n:=b-a) (by omega),nU (n:=(b-a).tdiv 4) (by omega),nU (n:=(b-a).tdiv 4*1) (by omega),nU (n:=(b-a).tdiv 4*2) (by omega),nU (n:=(b-a).tdiv 4*3) (by omega),nU (n:=a+(b-a).tdiv 4*1) (by omega),nU (n:=a+(b-a).tdiv 4*2) (by omega),nU (n:=a+(b-a).tdiv 4*3) (by omega)]
 have J1: ∀s j:Int,a≤j∧j<b→Tot (kF s j) fun x=>a≤x.1∧x.1<b:=fun s j hj=>by
  unfold kF;exact tC (fun _=>tS hj) fun _=>tC (fun _=>tS hj) fun _=>tS hj
 have J2: ∀s i j k:Int,(a≤i∧i<b∧a≤j∧j<b∧a≤k∧k<b)→Tot (kG l s i j k) fun x=>a≤x.1∧x.1<b:=fun s i j k hj=>by
  unfold kG;refine tB (bSt hn (lo:=a) (hi:=b) (by omega)) fun x hx=>?_;obtain ⟨r3,x2⟩:=x;exact J1 _ _ hx
 generalize (b-a).tdiv 4=q at d;refine tC (fun c=>tC (fun c'=>?_) fun c'=>J2 _ _ _ _ (by omega)) fun c=>J1 _ _ (by omega);refine tB (bNv hn (lo:=a) (hi:=b) (by omega)) fun x hx=>?_;obtain ⟨r6,x5⟩:=x;simp only [] at hx⊢;refine tB (bNv hn (lo:=a) (hi:=b) (by omega)) fun x hx=>?_;obtain ⟨r9,x8⟩:=x;simp only [] at hx⊢;refine tB (bNv hn (lo:=a) (hi:=b) (by omega)) fun x hx=>?_;obtain ⟨r12,x11⟩:=x;simp only [] at hx⊢;exact J2 _ _ _ _ (by omega)
include hn in
theorem bAn{a b:Int}(ha:0≤a)(hb:b≤n): ∀(m:Nat) (l:List Int) (i j:Int),(l.length=n∧a≤i∧j<b∧i≤n∧ -2≤j∧0<m∧j-i<m)→Tot (gT m l i j) fun l'=>l'.length=n
 |0,l,i,j,h=>by omega
 |m+1,l,i,j,h=>by
  show Tot (jP (gT m) l i j) _;have:=hn;unfold jP;have ih:=bAn ha hb m;exact tA
include hn in
theorem bXj(l:List Int)(a b:Int)(h:l.length=n∧0≤a∧a≤b∧b≤n):Tot (kI l a b) fun l'=>l'.length=n:=by
 have hF:=FUv;unfold kI;rw [nU (by omega)];exact bAn hn h.2.1 h.2.2.2 bC _ _ _ (by omega)
include hn in
theorem bAl{rec1:List Int→Int→Int→Int→Int→Option (Bool×List Int)}{a b i j:Int}(hb:b≤n)(hi:0≤i)(nx: ∀(l:List Int) (a' b' i' j':Int),(l.length=n∧a'=a∧b'=b∧i'=i∧j'=j)→Tot (cH rec1 l a' b' i' j') fun x=>x.2.length=n):
 ∀(m:Nat) (l:List Int) (a' b' i' j' k:Int),(l.length=n∧a'=a∧b'=b∧i'=i∧j'=j∧i<k∧0<m∧b-k<m)→Tot (eG rec1 m l a' b' i' j' k) fun x=>x.2.length=n
 |0,l,a',b',i',j',k,h=>by omega
 |m+1,l,a',b',i',j',k,h=>by
  show Tot (fP rec1 (eG rec1 m) l a' b' i' j' k) _;unfold fP;have ih:=bAl hb hi nx m;exact tA
include hn in
theorem bNx{rec1:List Int→Int→Int→Int→Int→Option (Bool×List Int)}{a b i j:Int}(hb:b≤n)(hi:0≤i)(hi':i≤b)(nx: ∀(l:List Int) (a' b' i' j':Int),(l.length=n∧a'=a∧b'=b∧i'=i∧j'=j)→Tot (cH rec1 l a' b' i' j') fun x=>x.2.length=n):
 ∀(l:List Int) (a' b' i' j':Int),(l.length=n∧a'=a∧b'=b∧i'=i∧j'=j)→Tot (dA rec1 l a' b' i' j') fun x=>x.2.length=n:=fun l a' b' i' j' h=>by
 have hF:=FUv;unfold dA;have nx2:=bAl hn hb hi nx bC;exact tA
include hn in
theorem bAm{rec1:List Int→Int→Int→Int→Int→Option (Bool×List Int)}{a b i j:Int}(hb:b≤n)(hi:0≤i)(hi':i<b)(nx: ∀(l:List Int) (a' b' i' j':Int),(l.length=n∧a'=a∧b'=b∧i'=i∧j'=j)→Tot (dA rec1 l a' b' i' j') fun x=>x.2.length=n):
 ∀(m:Nat) (l:List Int) (a' b' i' j' k:Int),(l.length=n∧a'=a∧b'=b∧i'=i∧j'=j∧k<i∧ -1≤k∧0<m∧k<m)→Tot (eI rec1 m l a' b' i' j' k) fun x=>x.2.length=n
 |0,l,a',b',i',j',k,h=>by omega
 |m+1,l,a',b',i',j',k,h=>by
  show Tot (fQ rec1 (eI rec1 m) l a' b' i' j' k) _;unfold fQ;have ih:=bAm hb hi hi' nx m;exact tA
include hn in
theorem bAk{rec1:List Int→Int→Int→Int→Int→Option (Bool×List Int)}{a b j:Int}(ha:0≤a)(hb:b≤n)(hj:0≤j∧j<5)(nx: ∀(l:List Int) (a' b' i' j':Int),(l.length=n∧a'=a∧b'=b∧a+1≤i'∧i'≤b∧j'=j+1)→Tot (rec1 l a' b' i' j') fun x=>x.2.length=n):
 ∀(m:Nat) (l:List Int) (a' b' i j':Int),(l.length=n∧a'=a∧b'=b∧a+1≤i∧i≤b∧j'=j∧0<m∧b-i<m)→Tot (eF rec1 m l a' b' i j') fun x=>x.2.length=n
 |0,l,a',b',i,j',h=>by omega
 |m+1,l,a',b',i,j',h=>by
  have hF:=FUv;show Tot (fO rec1 (eF rec1 m) l a' b' i j') _;unfold fO;have ih:=bAk ha hb hj nx m
  have j1: ∀(l:List Int) (a'' b'' i'' j'':Int),(l.length=n∧a''=a∧b''=b∧i''=i∧j''=j)→Tot (cH rec1 l a'' b'' i'' j'') fun x=>x.2.length=n:=fun l a'' b'' i'' j'' q=>by
   unfold cH;rw [nU (by omega)];exact nx _ _ _ _ _ (by omega)
  clear nx;have nx:=bNx hn hb (by omega) (by omega) j1
  by_cases hib:i<b
  · have nx2:=bAm hn hb (by omega) hib nx bC;clear j1;exact tA
  · clear j1;exact tA
include hn in
theorem bAj{a b:Int}(ha:0≤a)(hb:b≤n): ∀(m:Nat) (l:List Int) (a' b' i j:Int),(l.length=n∧a'=a∧b'=b∧a+1≤i∧i≤b∧0≤j∧j≤5∧0<m∧5-j<m)→Tot (aX m l a' b' i j) fun x=>x.2.length=n
 |0,l,a',b',i,j,h=>by omega
 |m+1,l,a',b',i,j,h=>by
  have hF:=FUv;show Tot (fN (aX m) l a' b' i j) _;unfold fN;refine tC (fun c=>?_) fun c=>tS h.1;simp only [decide_eq_true_eq] at c;exact bAk hn (a:=a) (b:=b) (j:=j) ha hb (by omega) (fun l a' b' i' j' q=>bAj ha hb m _ _ _ _ _ (by omega)) bC _ _ _ _ _ (by omega)
include hn in
theorem bXh{l:List Int}{a b:Int}(h:l.length=n∧0≤a∧a+13≤b∧b≤n):Tot (gD l a b) fun x=>x.2.length=n:=by
 have hF:=FUv;unfold gD;rw [nU (by omega)];exact bAj hn h.2.1 h.2.2.2 bC _ _ _ _ _ (by omega)
include hn in
theorem bGz{rec1:List Int→Int→Int→Int→Option (Int×List Int)}{a b i J:Int}(ha:0≤a)(hb:b≤n)(hi:a+1≤i∧i≤b)(hJ:J<b)(nx: ∀(l:List Int) (a' i' j':Int),(l.length=n∧a'=a∧i'=i+1∧i≤j'+1∧j'<J)→Tot (rec1 l a' i' j') fun x=>x.2.length=n∧a<x.1∧x.1≤b):
 ∀(m:Nat) (l:List Int) (a' i' j:Int),(l.length=n∧a'=a∧i'=i∧a≤j∧j≤J∧0<m∧j-a<m)→Tot (fW rec1 m l a' i' j) fun x=>x.2.length=n∧a<x.1∧x.1≤b
 |0,l,a',i',j,h=>by omega
 |m+1,l,a',i',j,h=>by
  show Tot (iA rec1 (fW rec1 m) l a' i' j) _;unfold iA;have ih:=bGz ha hb hi hJ nx m;exact tA
include hn in
theorem bGy{rec1:List Int→Int→Int→Int→Option (Int×List Int)}{a b I j:Int}(ha:0≤a)(hb:b≤n)(hI:a+1≤I)(hj:a≤j∧j<b)(nx: ∀(l:List Int) (a' i' j':Int),(l.length=n∧a'=a∧I<i'∧i'≤b∧a≤j'∧j'<j)→Tot (rec1 l a' i' j') fun x=>x.2.length=n∧a<x.1∧x.1≤b):
 ∀(m:Nat) (l:List Int) (a' i j':Int),(l.length=n∧a'=a∧j'=j∧I≤i∧i≤b∧0<m∧b-i<m)→Tot (fV rec1 m l a' i j') fun x=>x.2.length=n∧a<x.1∧x.1≤b
 |0,l,a',i,j',h=>by omega
 |m+1,l,a',i,j',h=>by
  have hF:=FUv;show Tot (hZ rec1 (fV rec1 m) l a' i j') _;unfold hZ;have ih:=bGy ha hb hI hj nx m;have nx2:=bGz hn (rec1:=rec1) (a:=a) (b:=b) (i:=i) (J:=j) ha hb (by omega) hj.2 (fun l a' i' j' q=>nx _ _ _ _ (by omega)) bC;clear nx;exact tA
include hn in
theorem bGx{a b:Int}(ha:0≤a)(hb:b≤n): ∀(m:Nat) (l:List Int) (a' i j:Int),(l.length=n∧a'=a∧a+1≤i∧i≤b∧a≤j∧j<b∧0<m∧j-a<m)→Tot (bX m l a' i j) fun x=>x.2.length=n∧a<x.1∧x.1≤b
 |0,l,a',i,j,h=>by omega
 |m+1,l,a',i,j,h=>by
  have hF:=FUv;show Tot (hY (bX m) l a' i j) _;unfold hY;exact bGy hn (I:=i) (j:=j) ha hb (by omega) (by omega) (fun l a' i' j' q=>bGx ha hb m _ _ _ _ (by omega)) bC _ _ _ _ (by omega)
include hn in
theorem cE7{l:List Int}{a b p:Int}(h:l.length=n∧0≤a∧a+13≤b∧b≤n∧a≤p∧p<b):Tot (iX l a b p) fun x=>x.2.length=n∧a<x.1∧x.1≤b:=by
 have hF:=FUv;unfold iX;have nx:=bGx hn (a:=a) (b:=b) h.2.1 h.2.2.2.1 bC;exact tA
include hn in
theorem bGw{rec3:List Int→Int→Int→Int→Option (Int×Bool×List Int)}{a b i J:Int}(ha:0≤a)(hb:b≤n)(hi:a+1≤i∧i≤b)(hJ:J<b)(nx: ∀(l:List Int) (a' i' j':Int),(l.length=n∧a'=a∧i'=i+1∧i≤j'+1∧j'<J)→Tot (rec3 l a' i' j') fun x=>x.2.2.length=n∧a≤x.1∧x.1<b):
 ∀(m:Nat) (l:List Int) (a' i' j:Int),(l.length=n∧a'=a∧i'=i∧a≤j∧j≤J∧0<m∧j-a<m)→Tot (iJ rec3 m l a' i' j) fun x=>x.2.2.length=n∧a≤x.1∧x.1<b
 |0,l,a',i',j,h=>by omega
 |m+1,l,a',i',j,h=>by
  show Tot (kZ rec3 (iJ rec3 m) l a' i' j) _;unfold kZ;have ih:=bGw ha hb hi hJ nx m;exact tA
include hn in
theorem bGv{rec3:List Int→Int→Int→Int→Option (Int×Bool×List Int)}{a b I j:Int}(ha:0≤a)(hb:b≤n)(hI:a+1≤I)(hj:a≤j∧j<b)(nx: ∀(l:List Int) (a' i' j':Int),(l.length=n∧a'=a∧I<i'∧i'≤b∧a≤j'∧j'<j)→Tot (rec3 l a' i' j') fun x=>x.2.2.length=n∧a≤x.1∧x.1<b):
 ∀(m:Nat) (l:List Int) (a' i j':Int),(l.length=n∧a'=a∧j'=j∧I≤i∧i≤b∧0<m∧b-i<m)→Tot (iI rec3 m l a' i j') fun x=>x.2.2.length=n∧a≤x.1∧x.1<b
 |0,l,a',i,j',h=>by omega
 |m+1,l,a',i,j',h=>by
  have hF:=FUv;show Tot (kY rec3 (iI rec3 m) l a' i j') _;unfold kY;have ih:=bGv ha hb hI hj nx m;have nx2:=bGw hn (rec3:=rec3) (a:=a) (b:=b) (i:=i) (J:=j) ha hb (by omega) hj.2 (fun l a' i' j' q=>nx _ _ _ _ (by omega)) bC;clear nx;exact tA
include hn in
theorem bGu{a b:Int}(ha:0≤a)(hb:b≤n): ∀(m:Nat) (l:List Int) (a' i j:Int),(l.length=n∧a'=a∧a+1≤i∧i≤b∧a≤j∧j<b∧0<m∧j-a<m)→Tot (cR m l a' i j) fun x=>x.2.2.length=n∧a≤x.1∧x.1<b
 |0,l,a',i,j,h=>by omega
 |m+1,l,a',i,j,h=>by
  have hF:=FUv;show Tot (kX (cR m) l a' i j) _;unfold kX;exact bGv hn (I:=i) (j:=j) ha hb (by omega) (by omega) (fun l a' i' j' q=>bGu ha hb m _ _ _ _ (by omega)) bC _ _ _ _ (by omega)
include hn in
theorem bGt{a b i J:Int}(ha:0≤a)(hb:b≤n)(hi:a+1≤i∧i≤b)(hJ:J<b):
 ∀(m:Nat) (l:List Int) (a' i' j:Int),(l.length=n∧a'=a∧i'=i∧a≤j∧j≤J∧0<m∧j-a<m)→Tot (iH m l a' i' j) fun x=>x.2.2.length=n∧a≤x.1∧x.1<b
 |0,l,a',i',j,h=>by omega
 |m+1,l,a',i',j,h=>by
  have hF:=FUv;show Tot (kW (iH m) l a' i' j) _;unfold kW;have ih:=bGt ha hb hi hJ m;have nx:=bGu hn ha hb bC;exact tA
include hn in
theorem bGs{a b j:Int}(ha:0≤a)(hb:b≤n)(hj:a≤j∧j<b):
 ∀(m:Nat) (l:List Int) (a' i j':Int),(l.length=n∧a'=a∧j'=j∧a+1≤i∧i≤b∧0<m∧b-i<m)→Tot (iG m l a' i j') fun x=>x.2.2.length=n∧a≤x.1∧x.1<b
 |0,l,a',i,j',h=>by omega
 |m+1,l,a',i,j',h=>by
  have hF:=FUv;show Tot (kV (iG m) l a' i j') _;unfold kV;have ih:=bGs ha hb hj m;have nx2:=bGt hn (a:=a) (b:=b) (i:=i) (J:=j) ha hb (by omega) hj.2 bC;exact tA
include hn in
theorem cE6{l:List Int}{a b p:Int}(h:l.length=n∧0≤a∧a+13≤b∧b≤n∧a≤p∧p<b):Tot (lP l a b p) fun x=>x.2.2.length=n∧a≤x.1∧x.1<b:=by
 have hF:=FUv;unfold lP;have nx:=bGs hn (a:=a) (b:=b) (j:=b-1) h.2.1 h.2.2.2.1 (by omega) bC;exact tA
include hn in
theorem bGr{N:Nat}{recf:List Int→Int→Int→Int→Option (List Int)}(rf: ∀(l:List Int) (a b k:Int),(l.length=n∧0≤a∧a≤b∧b≤n∧b-a<N)→Tot (recf l a b k) fun l'=>l'.length=n):
 ∀(m:Nat) (l:List Int) (a b k:Int) (x y:Bool),(l.length=n∧0≤a∧a≤b∧b≤n∧b-a≤N∧0<m∧b-a<m)→Tot (cP recf m l a b k x y) fun l'=>l'.length=n
 |0,l,a,b,k,x,y,h=>by omega
 |m+1,l,a,b,k,x,y,h=>by
  have hF:=FUv;show Tot (mB recf (cP recf m) l a b k x y) _;unfold mB;have ih:=bGr rf m;rw [nU (n:=b-a) (by omega)];refine tC (fun c=>tKe (bXg hn (by omega)) (by omega) fun _ h=>tS h) fun c=>?_;simp only [decide_eq_false_iff_not] at c;refine tC (fun _=>tKe (bUo hn (by omega)) (by omega) fun _ h=>tS h) fun _=>?_
  have j3: ∀(l:List Int) (k p:Int),(l.length=n∧a≤p∧p<b)→Tot (jY recf (cP recf m) l a b k x y (b-a) p) fun l'=>l'.length=n:=fun l k p hp=>by
   unfold jY;refine tG (fun c=>?_) fun _=>tG (fun c=>?_) fun _=>tG (fun _=>less _ _) fun _=>tC (fun _=>?_) fun _=>?_
   · simp only [beq_true,decide_eq_true_eq] at c;exact tI' tW
   · exact tI' tW
   · refine tKp (cE7 hn (by omega)) (by omega) fun x hx=>?_;obtain ⟨r,l2⟩:=x;simp only [] at hx⊢;exact ih _ _ _ _ _ _ (by omega)
   ·
    refine tKp (cE6 hn (by omega)) (by omega) fun x hx=>?_;obtain ⟨r,r2,l2⟩:=x;simp only [] at hx⊢;refine tC (fun _=>?_) fun _=>?_
    · refine tKe (rf _ _ _ _ (by omega)) (by omega) fun l3 h3=>?_;rw [nU (n:=r+1) (by omega)];exact ih _ _ _ _ _ _ (by omega)
    · rw [nU (n:=r+1) (by omega)];refine tKe (rf _ _ _ _ (by omega)) (by omega) fun l3 h3=>?_;exact ih _ _ _ _ _ _ (by omega)
  have j2: ∀(l:List Int) (k p q:Int),(l.length=n∧a≤p∧p<b)→Tot (jX recf (cP recf m) l a b k x y (b-a) p q) fun l'=>l'.length=n:=fun l k p q hp=>by
   unfold jX;refine tC (fun _=>?_) fun _=>j3 _ _ _ hp;refine tKe (bXh hn (by omega)) (by omega) fun x hx=>?_;obtain ⟨r,l2⟩:=x;exact tC (fun _=>tS hx) fun _=>j3 _ _ _ ⟨hx,hp.2⟩
  have j1: ∀(l:List Int) (k:Int),l.length=n→Tot (jW recf (cP recf m) l a b k x y (b-a)) fun l'=>l'.length=n:=fun l k hl=>by
   unfold jW;refine tB (bXi hn (by omega)) fun x hx=>?_;obtain ⟨r6,r7⟩:=x;simp only [] at hx⊢;refine tC (fun _=>?_) fun _=>j2 _ _ _ _ ⟨hl,hx⟩;refine tKe (bXj hn _ _ _ (by omega)) (by omega) fun l2 h2=>?_;rw [nU (n:=b-1) (by omega),nU (n:=r6-a) (by omega),nU (by omega)];exact j2 _ _ _ _ (by omega)
  refine tC (fun _=>?_) fun _=>j1 _ _ h.1;refine tKe (bXf hn _ _ _ (by omega)) (by omega) fun l2 h2=>j1 _ _ h2
include hn in
theorem bNw: ∀(N:Nat) (l:List Int) (a b k:Int),(l.length=n∧0≤a∧a≤b∧b≤n∧b-a<N)→Tot (cC N l a b k) fun l'=>l'.length=n
 |0,l,a,b,k,h=>by omega
 |N+1,l,a,b,k,h=>by
  have hF:=FUv;show Tot (cP (cC N) bC l a b k true true) _;exact bGr hn (bNw N) bC _ _ _ _ _ _ (by omega)
end
section
variable {n:Nat}(hn:n≤1100){cmp:aC→aC→Option Int}(less: ∀x y,Tot (cmp x y) fun _=>True)
include hn less in
theorem aZi{rec1:List aC→Int→Int→Int→Option (List aC)}{a b i:Int}(ha:0≤a)(hb:b≤n)(hi:i<b)(ha':a≤i)(nx: ∀(l:List aC) (a' b' i':Int),l.length=n∧a'=a∧b'=b∧i'=i+1→Tot (rec1 l a' b' i') fun l'=>l'.length=n):
 ∀(m:Nat) (l:List aC) (a' b' i' j:Int),(l.length=n∧a'=a∧b'=b∧i'=i∧a≤j∧j≤i∧0<m∧j-a<m)→Tot (gM cmp rec1 m l a' b' i' j) fun l'=>l'.length=n
 |0,l,a',b',i',j,h=>by omega
 |m+1,l,a',b',i',j,h=>by
  show Tot (iR cmp rec1 (gM cmp rec1 m) l a' b' i' j) _;unfold iR;have ih:=aZi ha hb hi ha' nx m;exact tA
include hn less in
theorem aZh{a b:Int}(ha:0≤a)(hb:b≤n): ∀(m:Nat) (l:List aC) (a' b' i:Int),(l.length=n∧a'=a∧b'=b∧a≤i∧0<m∧b-i<m)→Tot (dN cmp m l a' b' i) fun l'=>l'.length=n
 |0,l,a',b',i,h=>by omega
 |m+1,l,a',b',i,h=>by
  have hF:=FUv;show Tot (iQ cmp (dN cmp m) l a' b' i) _;unfold iQ;obtain ⟨h1,rfl,rfl,h4,h5,h6⟩:=h;refine tC (fun c=>?_) fun c=>tS h1;simp only [decide_eq_true_eq] at c;exact aZi hn less ha hb c h4 (fun l a' b' i' q=>aZh ha hb m _ _ _ _ (by omega)) bC _ _ _ _ _ (by omega)
include hn less in
theorem bVt{l:List aC}{a b:Int}(h:l.length=n∧0≤a∧a≤b∧b≤n):Tot (jM l a b cmp) fun l'=>l'.length=n:=by
 have hF:=FUv;unfold jM;rw [nU (by omega)];exact aZh hn less h.2.1 h.2.2.2 bC _ _ _ _ (by omega)
include hn less in
theorem aV8{hi first:Int}(h1:0≤first)(h2:first+hi≤n): ∀(m:Nat) (l:List aC) (hi' first' root:Int),(l.length=n∧hi'=hi∧first'=first∧0≤root∧root≤n∧0<m∧hi-root<m)→Tot (eZ cmp m l hi' first' root) fun l'=>l'.length=n
 |0,l,hi',first',root,h=>by omega
 |m+1,l,hi',first',root,h=>by
  show Tot (lQ cmp (eZ cmp m) l hi' first' root) _;unfold lQ;have ih:=aV8 h1 h2 m;obtain ⟨h3,rfl,rfl,h4,h5,h6,h7⟩:=h
  have nx: ∀c:Int,(root<c∧c<hi')→Tot (jE cmp (eZ cmp m) l hi' first' root c) fun l'=>l'.length=n:=fun c hc=>by
   unfold jE;exact tA
  exact tA
include hn less in
theorem bM8(l:List aC)(lo hi first:Int)(h:l.length=n∧0≤lo∧lo≤n∧0≤first∧first+hi≤n):Tot (jZ l lo hi first cmp) fun l'=>l'.length=n:=by
 have hF:=FUv;unfold jZ;exact aV8 hn less h.2.2.2.1 h.2.2.2.2 bC _ _ _ _ (by omega)
include hn less in
theorem aV7{first:Int}(h1:0≤first): ∀(m:Nat) (l:List aC) (first' lo i:Int),(l.length=n∧first'=first∧lo=0∧ -1≤i∧first+i<n∧0<m∧i+1<m)→Tot (jB cmp m l first' lo i) fun l'=>l'.length=n
 |0,l,first',lo,i,h=>by omega
 |m+1,l,first',lo,i,h=>by
  show Tot (lL cmp (jB cmp m) l first' lo i) _;unfold lL;have ih:=aV7 h1 m;have cl:=bM8 hn less;exact tA
include hn less in
theorem aV6{first hi:Int}(h1:0≤first)(h2:0≤hi)(h3:first+hi≤n): ∀(m:Nat) (l:List aC) (first' lo hi' i:Int),(l.length=n∧first'=first∧lo=0∧hi'=hi∧ -1≤i∧i≤hi∧0<m∧i+1<m)→Tot (jA cmp m l first' lo hi' i) fun l'=>l'.length=n
 |0,l,first',lo,hi',i,h=>by omega
 |m+1,l,first',lo,hi',i,h=>by
  have hF:=FUv;show Tot (lK cmp (jA cmp m) l first' lo hi' i) _;unfold lK;have ih:=aV6 h1 h2 h3 m;have cl:=bM8 hn less;have nx:=aV7 hn less h1 bC;exact tA
include hn less in
theorem bTu{l:List aC}{a b:Int}(h:l.length=n∧0≤a∧a+1≤b∧b≤n):Tot (lY l a b cmp) fun l'=>l'.length=n:=by
 have hF:=FUv;unfold lY;have d: -1≤Int.tdiv (b-a-1) 2∧Int.tdiv (b-a-1) 2≤b-a:=by rw [Int.tdiv_eq_ediv_of_nonneg (by omega)];omega
 rw [nU (n:=b-a) (by omega),nU (n:=b-a-1) (by omega),nU (by omega)];exact aV6 hn less (first:=a) (hi:=b-a) h.2.1 (by omega) (by omega) bC _ _ _ _ _ (by omega)
include hn less in
theorem aZg{a len M:Int}(ha:0≤a)(hl:8≤len)(hb:a+len≤n)(hM:1≤M∧M≤2*len): ∀(m:Nat) (l:List aC) (a' len' r M' i:Int),(l.length=n∧a'=a∧len'=len∧M'=M∧a+len.tdiv 4*2-1≤i∧i≤a+len.tdiv 4*2+2∧0<m∧a+len.tdiv 4*2+2-i<m)→Tot (dL cmp m l a' len' r M' i) fun l'=>l'.length=n
 |0,l,a',len',r,M',i,h=>by omega
 |m+1,l,a',len',r,M',i,h=>by
  show Tot (iO cmp (dL cmp m) l a' len' r M' i) _;have:=less;unfold iO;have ih:=aZg ha hl hb hM m;obtain ⟨h3,rfl,rfl,rfl,h4,h5,h6,h7⟩:=h;have d:2≤len'.tdiv 4∧len'.tdiv 4*4≤len':=by rw [Int.tdiv_eq_ediv_of_nonneg (by omega)];omega
  refine tC (fun c=>?_) fun c=>tS h3;simp (disch:=omega) only [nU,decide_eq_true_eq] at c
  have nx: ∀(r' o:Int),(0≤o∧o<len')→Tot (gJ cmp (dL cmp m) l a' len' r' M' i o) fun l'=>l'.length=n:=fun r' o ho=>by
   unfold gJ lW;exact tA
  refine tB (P:=fun _=>True) (tS trivial) fun x _=>?_;obtain ⟨r5,x4⟩:=x;have w:IntKind.u64.wrap (M'-1)=M'-1:=by rw [IntKind.wrap_u64];omega
  have hbd:=bG1 (x:=r5) (y:=M'-1) (by omega) (by omega);simp only [w];generalize yK .u64 r5 (M'-1)=o at hbd;exact tA
include hn less in
theorem bVs(l:List aC)(a b:Int)(h:l.length=n∧0≤a∧a+13≤b∧b≤n):Tot (jK l a b cmp) fun l'=>l'.length=n:=by
 have hF:=FUv;unfold jK;rw [nU (n:=b-a) (by omega)];refine tC (fun c=>?_) fun c=>tS h.1;refine tB (bXe (by omega)) fun M hM=>?_;have d:2≤(b-a).tdiv 4∧(b-a).tdiv 4*4≤b-a:=by rw [Int.tdiv_eq_ediv_of_nonneg (by omega)];omega
 rw [nU (n:=(b-a).tdiv 4) (by omega),nU (n:=(b-a).tdiv 4*2) (by omega),nU (n:=a+(b-a).tdiv 4*2) (by omega),nU (by omega)];exact aZg hn less (a:=a) (len:=b-a) (M:=M) h.2.1 (by omega) (by omega) hM bC _ _ _ _ _ _ (by omega)
include hn less in
theorem bD2{l:List aC}{lo hi a b s:Int}(h:l.length=n∧0≤lo∧hi≤n∧lo≤a∧a<hi∧lo≤b∧b<hi):Tot (iL l a b s cmp) fun x=>lo≤x.1∧x.1<hi∧lo≤x.2.1∧x.2.1<hi:=by
 have:=hn;unfold iL;refine tI (by omega) fun _=>tI (by omega) fun _=>tB (less _ _) fun _ _=>tC (fun _=>tS ?_) fun _=>tS ?_<;>(simp only [];omega)
include hn less in
theorem bSc{l:List aC}{lo hi a b c s:Int}(h:l.length=n∧0≤lo∧hi≤n∧lo≤a∧a<hi∧lo≤b∧b<hi∧lo≤c∧c<hi):Tot (kN l a b c s cmp) fun x=>lo≤x.1∧x.1<hi:=by
 unfold kN;refine tB (bD2 hn less (lo:=lo) (hi:=hi) (by omega)) fun x hx=>?_;obtain ⟨r3,r4,x2⟩:=x;simp only [] at hx⊢;refine tB (bD2 hn less (lo:=lo) (hi:=hi) (by omega)) fun y hy=>?_;obtain ⟨r7,r8,x6⟩:=y;simp only [] at hy⊢;refine tB (bD2 hn less (lo:=lo) (hi:=hi) (by omega)) fun z hz=>?_;obtain ⟨r11,r12,x10⟩:=z;simp only [] at hz⊢;exact tS (by simp only [];omega)
include hn less in
theorem bM5{l:List aC}{lo hi a s:Int}(h:l.length=n∧0≤lo∧hi≤n∧lo+1≤a∧a+1<hi):Tot (eT l a s cmp) fun x=>lo≤x.1∧x.1<hi:=by
 unfold eT;rw [nU (by omega),nU (by omega)];refine tB (bSc hn less (lo:=lo) (hi:=hi) (by omega)) fun x hx=>?_;obtain ⟨r3,x2⟩:=x;exact tS hx
include hn less in
theorem bVv{l:List aC}{a b:Int}(h:l.length=n∧0≤a∧a+13≤b∧b≤n):Tot (mN l a b cmp) fun x=>a≤x.1∧x.1<b:=by
 unfold mN;have d:2≤(b-a).tdiv 4∧(b-a).tdiv 4*4≤b-a:=by rw [Int.tdiv_eq_ediv_of_nonneg (by omega)];omega
 rw [nU (n:=b-a) (by omega),nU (n:=(b-a).tdiv 4) (by omega),nU (n:=(b-a).tdiv 4*1) (by omega),nU (n:=(b-a).tdiv 4*2) (by omega),nU (n:=(b-a).tdiv 4*3) (by omega),nU (n:=a+(b-a).tdiv 4*1) (by omega),nU (n:=a+(b-a).tdiv 4*2) (by omega),nU (n:=a+(b-a).tdiv 4*3) (by omega)]
 have J1: ∀s j:Int,a≤j∧j<b→Tot (kD cmp s j) fun x=>a≤x.1∧x.1<b:=fun s j hj=>by
  unfold kD;exact tC (fun _=>tS hj) fun _=>tC (fun _=>tS hj) fun _=>tS hj
 have J2: ∀s i j k:Int,(a≤i∧i<b∧a≤j∧j<b∧a≤k∧k<b)→Tot (kE cmp l s i j k) fun x=>a≤x.1∧x.1<b:=fun s i j k hj=>by
  unfold kE;refine tB (bSc hn less (lo:=a) (hi:=b) (by omega)) fun x hx=>?_;obtain ⟨r3,x2⟩:=x;exact J1 _ _ hx
 generalize (b-a).tdiv 4=q at d;refine tC (fun c=>tC (fun c'=>?_) fun c'=>J2 _ _ _ _ (by omega)) fun c=>J1 _ _ (by omega);refine tB (bM5 hn less (lo:=a) (hi:=b) (by omega)) fun x hx=>?_;obtain ⟨r6,x5⟩:=x;simp only [] at hx⊢;refine tB (bM5 hn less (lo:=a) (hi:=b) (by omega)) fun x hx=>?_;obtain ⟨r9,x8⟩:=x;simp only [] at hx⊢;refine tB (bM5 hn less (lo:=a) (hi:=b) (by omega)) fun x hx=>?_;obtain ⟨r12,x11⟩:=x;simp only [] at hx⊢;exact J2 _ _ _ _ (by omega)
include hn less in
theorem aZn{a b:Int}(ha:0≤a)(hb:b≤n): ∀(m:Nat) (l:List aC) (i j:Int),(l.length=n∧a≤i∧j<b∧i≤n∧ -2≤j∧0<m∧j-i<m)→Tot (gS cmp m l i j) fun l'=>l'.length=n
 |0,l,i,j,h=>by omega
 |m+1,l,i,j,h=>by
  show Tot (jO cmp (gS cmp m) l i j) _;have:=less;unfold jO;have ih:=aZn ha hb m;exact tA
include hn less in
theorem bVw(l:List aC)(a b:Int)(h:l.length=n∧0≤a∧a≤b∧b≤n):Tot (kH l a b cmp) fun l'=>l'.length=n:=by
 have hF:=FUv;unfold kH;rw [nU (by omega)];exact aZn hn less h.2.1 h.2.2.2 bC _ _ _ (by omega)
include hn less in
theorem aZl{rec1:List aC→Int→Int→Int→Int→Option (Bool×List aC)}{a b i j:Int}(hb:b≤n)(hi:0≤i)(nx: ∀(l:List aC) (a' b' i' j':Int),(l.length=n∧a'=a∧b'=b∧i'=i∧j'=j)→Tot (cG cmp rec1 l a' b' i' j') fun x=>x.2.length=n):
 ∀(m:Nat) (l:List aC) (a' b' i' j' k:Int),(l.length=n∧a'=a∧b'=b∧i'=i∧j'=j∧i<k∧0<m∧b-k<m)→Tot (eC cmp rec1 m l a' b' i' j' k) fun x=>x.2.length=n
 |0,l,a',b',i',j',k,h=>by omega
 |m+1,l,a',b',i',j',k,h=>by
  show Tot (fK cmp rec1 (eC cmp rec1 m) l a' b' i' j' k) _;unfold fK;have ih:=aZl hb hi nx m;exact tA
include hn less in
theorem bM7{rec1:List aC→Int→Int→Int→Int→Option (Bool×List aC)}{a b i j:Int}(hb:b≤n)(hi:0≤i)(hi':i≤b)(nx: ∀(l:List aC) (a' b' i' j':Int),(l.length=n∧a'=a∧b'=b∧i'=i∧j'=j)→Tot (cG cmp rec1 l a' b' i' j') fun x=>x.2.length=n):
 ∀(l:List aC) (a' b' i' j':Int),(l.length=n∧a'=a∧b'=b∧i'=i∧j'=j)→Tot (cZ cmp rec1 l a' b' i' j') fun x=>x.2.length=n:=fun l a' b' i' j' h=>by
 have hF:=FUv;unfold cZ;have nx2:=aZl hn less hb hi nx bC;exact tA
include hn less in
theorem aZm{rec1:List aC→Int→Int→Int→Int→Option (Bool×List aC)}{a b i j:Int}(hb:b≤n)(hi:0≤i)(hi':i<b)(nx: ∀(l:List aC) (a' b' i' j':Int),(l.length=n∧a'=a∧b'=b∧i'=i∧j'=j)→Tot (cZ cmp rec1 l a' b' i' j') fun x=>x.2.length=n):
 ∀(m:Nat) (l:List aC) (a' b' i' j' k:Int),(l.length=n∧a'=a∧b'=b∧i'=i∧j'=j∧k<i∧ -1≤k∧0<m∧k<m)→Tot (eE cmp rec1 m l a' b' i' j' k) fun x=>x.2.length=n
 |0,l,a',b',i',j',k,h=>by omega
 |m+1,l,a',b',i',j',k,h=>by
  show Tot (fL cmp rec1 (eE cmp rec1 m) l a' b' i' j' k) _;unfold fL;have ih:=aZm hb hi hi' nx m;exact tA
include hn less in
theorem aZk{rec1:List aC→Int→Int→Int→Int→Option (Bool×List aC)}{a b j:Int}(ha:0≤a)(hb:b≤n)(hj:0≤j∧j<5)(nx: ∀(l:List aC) (a' b' i' j':Int),(l.length=n∧a'=a∧b'=b∧a+1≤i'∧i'≤b∧j'=j+1)→Tot (rec1 l a' b' i' j') fun x=>x.2.length=n):
 ∀(m:Nat) (l:List aC) (a' b' i j':Int),(l.length=n∧a'=a∧b'=b∧a+1≤i∧i≤b∧j'=j∧0<m∧b-i<m)→Tot (dZ cmp rec1 m l a' b' i j') fun x=>x.2.length=n
 |0,l,a',b',i,j',h=>by omega
 |m+1,l,a',b',i,j',h=>by
  have hF:=FUv;show Tot (fJ cmp rec1 (dZ cmp rec1 m) l a' b' i j') _;unfold fJ;have ih:=aZk ha hb hj nx m
  have j1: ∀(l:List aC) (a'' b'' i'' j'':Int),(l.length=n∧a''=a∧b''=b∧i''=i∧j''=j)→Tot (cG cmp rec1 l a'' b'' i'' j'') fun x=>x.2.length=n:=fun l a'' b'' i'' j'' q=>by
   unfold cG;rw [nU (by omega)];exact nx _ _ _ _ _ (by omega)
  clear nx;have nx:=bM7 hn less hb (by omega) (by omega) j1
  by_cases hib:i<b
  · have nx2:=aZm hn less hb (by omega) hib nx bC;clear j1;exact tA
  · clear j1;exact tA
include hn less in
theorem aZj{a b:Int}(ha:0≤a)(hb:b≤n): ∀(m:Nat) (l:List aC) (a' b' i j:Int),(l.length=n∧a'=a∧b'=b∧a+1≤i∧i≤b∧0≤j∧j≤5∧0<m∧5-j<m)→Tot (aW cmp m l a' b' i j) fun x=>x.2.length=n
 |0,l,a',b',i,j,h=>by omega
 |m+1,l,a',b',i,j,h=>by
  have hF:=FUv;show Tot (fI cmp (aW cmp m) l a' b' i j) _;unfold fI;refine tC (fun c=>?_) fun c=>tS h.1;simp only [decide_eq_true_eq] at c;exact aZk hn less (a:=a) (b:=b) (j:=j) ha hb (by omega) (fun l a' b' i' j' q=>aZj ha hb m _ _ _ _ _ (by omega)) bC _ _ _ _ _ (by omega)
include hn less in
theorem bVu{l:List aC}{a b:Int}(h:l.length=n∧0≤a∧a+13≤b∧b≤n):Tot (fZ l a b cmp) fun x=>x.2.length=n:=by
 have hF:=FUv;unfold fZ;rw [nU (by omega)];exact aZj hn less h.2.1 h.2.2.2 bC _ _ _ _ _ (by omega)
include hn less in
theorem bGd{rec1:List aC→Int→Int→Int→Option (Int×List aC)}{a b i J:Int}(ha:0≤a)(hb:b≤n)(hi:a+1≤i∧i≤b)(hJ:J<b)(nx: ∀(l:List aC) (a' i' j':Int),(l.length=n∧a'=a∧i'=i+1∧i≤j'+1∧j'<J)→Tot (rec1 l a' i' j') fun x=>x.2.length=n∧a<x.1∧x.1≤b):
 ∀(m:Nat) (l:List aC) (a' i' j:Int),(l.length=n∧a'=a∧i'=i∧a≤j∧j≤J∧0<m∧j-a<m)→Tot (fU cmp rec1 m l a' i' j) fun x=>x.2.length=n∧a<x.1∧x.1≤b
 |0,l,a',i',j,h=>by omega
 |m+1,l,a',i',j,h=>by
  show Tot (gZ cmp rec1 (fU cmp rec1 m) l a' i' j) _;unfold gZ;have ih:=bGd ha hb hi hJ nx m;exact tA
include hn less in
theorem bGc{rec1:List aC→Int→Int→Int→Option (Int×List aC)}{a b I j:Int}(ha:0≤a)(hb:b≤n)(hI:a+1≤I)(hj:a≤j∧j<b)(nx: ∀(l:List aC) (a' i' j':Int),(l.length=n∧a'=a∧I<i'∧i'≤b∧a≤j'∧j'<j)→Tot (rec1 l a' i' j') fun x=>x.2.length=n∧a<x.1∧x.1≤b):
 ∀(m:Nat) (l:List aC) (a' i j':Int),(l.length=n∧a'=a∧j'=j∧I≤i∧i≤b∧0<m∧b-i<m)→Tot (fT cmp rec1 m l a' i j') fun x=>x.2.length=n∧a<x.1∧x.1≤b
 |0,l,a',i,j',h=>by omega
 |m+1,l,a',i,j',h=>by
  have hF:=FUv;show Tot (gY cmp rec1 (fT cmp rec1 m) l a' i j') _;unfold gY;have ih:=bGc ha hb hI hj nx m;have nx2:=bGd hn less (rec1:=rec1) (a:=a) (b:=b) (i:=i) (J:=j) ha hb (by omega) hj.2 (fun l a' i' j' q=>nx _ _ _ _ (by omega)) bC;clear nx;exact tA
include hn less in
theorem bGb{a b:Int}(ha:0≤a)(hb:b≤n): ∀(m:Nat) (l:List aC) (a' i j:Int),(l.length=n∧a'=a∧a+1≤i∧i≤b∧a≤j∧j<b∧0<m∧j-a<m)→Tot (bW cmp m l a' i j) fun x=>x.2.length=n∧a<x.1∧x.1≤b
 |0,l,a',i,j,h=>by omega
 |m+1,l,a',i,j,h=>by
  have hF:=FUv;show Tot (gX cmp (bW cmp m) l a' i j) _;unfold gX;exact bGc hn less (I:=i) (j:=j) ha hb (by omega) (by omega) (fun l a' i' j' q=>bGb ha hb m _ _ _ _ (by omega)) bC _ _ _ _ (by omega)
include hn less in
theorem cD8{l:List aC}{a b p:Int}(h:l.length=n∧0≤a∧a+13≤b∧b≤n∧a≤p∧p<b):Tot (iW l a b p cmp) fun x=>x.2.length=n∧a<x.1∧x.1≤b:=by
 have hF:=FUv;unfold iW;have nx:=bGb hn less (a:=a) (b:=b) h.2.1 h.2.2.2.1 bC;exact tA
include hn less in
theorem bGa{rec3:List aC→Int→Int→Int→Option (Int×Bool×List aC)}{a b i J:Int}(ha:0≤a)(hb:b≤n)(hi:a+1≤i∧i≤b)(hJ:J<b)(nx: ∀(l:List aC) (a' i' j':Int),(l.length=n∧a'=a∧i'=i+1∧i≤j'+1∧j'<J)→Tot (rec3 l a' i' j') fun x=>x.2.2.length=n∧a≤x.1∧x.1<b):
 ∀(m:Nat) (l:List aC) (a' i' j:Int),(l.length=n∧a'=a∧i'=i∧a≤j∧j≤J∧0<m∧j-a<m)→Tot (iF cmp rec3 m l a' i' j) fun x=>x.2.2.length=n∧a≤x.1∧x.1<b
 |0,l,a',i',j,h=>by omega
 |m+1,l,a',i',j,h=>by
  show Tot (kU cmp rec3 (iF cmp rec3 m) l a' i' j) _;unfold kU;have ih:=bGa ha hb hi hJ nx m;exact tA
include hn less in
theorem bG9{rec3:List aC→Int→Int→Int→Option (Int×Bool×List aC)}{a b I j:Int}(ha:0≤a)(hb:b≤n)(hI:a+1≤I)(hj:a≤j∧j<b)(nx: ∀(l:List aC) (a' i' j':Int),(l.length=n∧a'=a∧I<i'∧i'≤b∧a≤j'∧j'<j)→Tot (rec3 l a' i' j') fun x=>x.2.2.length=n∧a≤x.1∧x.1<b):
 ∀(m:Nat) (l:List aC) (a' i j':Int),(l.length=n∧a'=a∧j'=j∧I≤i∧i≤b∧0<m∧b-i<m)→Tot (iE cmp rec3 m l a' i j') fun x=>x.2.2.length=n∧a≤x.1∧x.1<b
 |0,l,a',i,j',h=>by omega
 |m+1,l,a',i,j',h=>by
  have hF:=FUv;show Tot (kT cmp rec3 (iE cmp rec3 m) l a' i j') _;unfold kT;have ih:=bG9 ha hb hI hj nx m;have nx2:=bGa hn less (rec3:=rec3) (a:=a) (b:=b) (i:=i) (J:=j) ha hb (by omega) hj.2 (fun l a' i' j' q=>nx _ _ _ _ (by omega)) bC;clear nx;exact tA
include hn less in
theorem bG8{a b:Int}(ha:0≤a)(hb:b≤n): ∀(m:Nat) (l:List aC) (a' i j:Int),(l.length=n∧a'=a∧a+1≤i∧i≤b∧a≤j∧j<b∧0<m∧j-a<m)→Tot (cQ cmp m l a' i j) fun x=>x.2.2.length=n∧a≤x.1∧x.1<b
 |0,l,a',i,j,h=>by omega
 |m+1,l,a',i,j,h=>by
  have hF:=FUv;show Tot (kS cmp (cQ cmp m) l a' i j) _;unfold kS;exact bG9 hn less (I:=i) (j:=j) ha hb (by omega) (by omega) (fun l a' i' j' q=>bG8 ha hb m _ _ _ _ (by omega)) bC _ _ _ _ (by omega)
include hn less in
theorem bG7{a b i J:Int}(ha:0≤a)(hb:b≤n)(hi:a+1≤i∧i≤b)(hJ:J<b):
 ∀(m:Nat) (l:List aC) (a' i' j:Int),(l.length=n∧a'=a∧i'=i∧a≤j∧j≤J∧0<m∧j-a<m)→Tot (iD cmp m l a' i' j) fun x=>x.2.2.length=n∧a≤x.1∧x.1<b
 |0,l,a',i',j,h=>by omega
 |m+1,l,a',i',j,h=>by
  have hF:=FUv;show Tot (kR cmp (iD cmp m) l a' i' j) _;unfold kR;have ih:=bG7 ha hb hi hJ m;have nx:=bG8 hn less ha hb bC;exact tA
include hn less in
theorem bG6{a b j:Int}(ha:0≤a)(hb:b≤n)(hj:a≤j∧j<b):
 ∀(m:Nat) (l:List aC) (a' i j':Int),(l.length=n∧a'=a∧j'=j∧a+1≤i∧i≤b∧0<m∧b-i<m)→Tot (iC cmp m l a' i j') fun x=>x.2.2.length=n∧a≤x.1∧x.1<b
 |0,l,a',i,j',h=>by omega
 |m+1,l,a',i,j',h=>by
  have hF:=FUv;show Tot (kQ cmp (iC cmp m) l a' i j') _;unfold kQ;have ih:=bG6 ha hb hj m;have nx2:=bG7 hn less (a:=a) (b:=b) (i:=i) (J:=j) ha hb (by omega) hj.2 bC;exact tA
include hn less in
theorem cD7{l:List aC}{a b p:Int}(h:l.length=n∧0≤a∧a+13≤b∧b≤n∧a≤p∧p<b):Tot (lO l a b p cmp) fun x=>x.2.2.length=n∧a≤x.1∧x.1<b:=by
 have hF:=FUv;unfold lO;have nx:=bG6 hn less (a:=a) (b:=b) (j:=b-1) h.2.1 h.2.2.2.1 (by omega) bC;exact tA
include hn less in
theorem bG5{N:Nat}{recf:List aC→Int→Int→Int→(aC→aC→Option Int)→Option (List aC)}(rf: ∀(l:List aC) (a b k:Int),(l.length=n∧0≤a∧a≤b∧b≤n∧b-a<N)→Tot (recf l a b k cmp) fun l'=>l'.length=n):
 ∀(m:Nat) (l:List aC) (a b k:Int) (x y:Bool),(l.length=n∧0≤a∧a≤b∧b≤n∧b-a≤N∧0<m∧b-a<m)→Tot (cO cmp recf m l a b k x y) fun l'=>l'.length=n
 |0,l,a,b,k,x,y,h=>by omega
 |m+1,l,a,b,k,x,y,h=>by
  have hF:=FUv;show Tot (mA cmp recf (cO cmp recf m) l a b k x y) _;unfold mA;have ih:=bG5 rf m;rw [nU (n:=b-a) (by omega)];refine tC (fun c=>tKe (bVt hn less (by omega)) (by omega) fun _ h=>tS h) fun c=>?_;simp only [decide_eq_false_iff_not] at c;refine tC (fun _=>tKe (bTu hn less (by omega)) (by omega) fun _ h=>tS h) fun _=>?_
  have j3: ∀(l:List aC) (k p:Int),(l.length=n∧a≤p∧p<b)→Tot (jV cmp recf (cO cmp recf m) l a b k x y (b-a) p) fun l'=>l'.length=n:=fun l k p hp=>by
   unfold jV;refine tG (fun c=>?_) fun _=>tG (fun c=>?_) fun _=>tG (fun _=>less _ _) fun _=>tC (fun _=>?_) fun _=>?_
   · simp only [beq_true,decide_eq_true_eq] at c;exact tI' tW
   · exact tI' tW
   · refine tKp (cD8 hn less (by omega)) (by omega) fun x hx=>?_;obtain ⟨r,l2⟩:=x;simp only [] at hx⊢;exact ih _ _ _ _ _ _ (by omega)
   ·
    refine tKp (cD7 hn less (by omega)) (by omega) fun x hx=>?_;obtain ⟨r,r2,l2⟩:=x;simp only [] at hx⊢;refine tC (fun _=>?_) fun _=>?_
    · refine tKe (rf _ _ _ _ (by omega)) (by omega) fun l3 h3=>?_;rw [nU (n:=r+1) (by omega)];exact ih _ _ _ _ _ _ (by omega)
    · rw [nU (n:=r+1) (by omega)];refine tKe (rf _ _ _ _ (by omega)) (by omega) fun l3 h3=>?_;exact ih _ _ _ _ _ _ (by omega)
  have j2: ∀(l:List aC) (k p q:Int),(l.length=n∧a≤p∧p<b)→Tot (jU cmp recf (cO cmp recf m) l a b k x y (b-a) p q) fun l'=>l'.length=n:=fun l k p q hp=>by
   unfold jU;refine tC (fun _=>?_) fun _=>j3 _ _ _ hp;refine tKe (bVu hn less (by omega)) (by omega) fun x hx=>?_;obtain ⟨r,l2⟩:=x;exact tC (fun _=>tS hx) fun _=>j3 _ _ _ ⟨hx,hp.2⟩
  have j1: ∀(l:List aC) (k:Int),l.length=n→Tot (jT cmp recf (cO cmp recf m) l a b k x y (b-a)) fun l'=>l'.length=n:=fun l k hl=>by
   unfold jT;refine tB (bVv hn less (by omega)) fun x hx=>?_;obtain ⟨r6,r7⟩:=x;simp only [] at hx⊢;refine tC (fun _=>?_) fun _=>j2 _ _ _ _ ⟨hl,hx⟩;refine tKe (bVw hn less _ _ _ (by omega)) (by omega) fun l2 h2=>?_;rw [nU (n:=b-1) (by omega),nU (n:=r6-a) (by omega),nU (by omega)];exact j2 _ _ _ _ (by omega)
  refine tC (fun _=>?_) fun _=>j1 _ _ h.1;refine tKe (bVs hn less _ _ _ (by omega)) (by omega) fun l2 h2=>j1 _ _ h2
include hn less in
theorem bM6: ∀(N:Nat) (l:List aC) (a b k:Int),(l.length=n∧0≤a∧a≤b∧b≤n∧b-a<N)→Tot (bZ N l a b k cmp) fun l'=>l'.length=n
 |0,l,a,b,k,h=>by omega
 |N+1,l,a,b,k,h=>by
  have hF:=FUv;show Tot (cO cmp (bZ N) bC l a b k true true) _;exact bG5 hn less (bM6 N) bC _ _ _ _ _ _ (by omega)
end
theorem bOg{l:List Int}(hl:l.length≤1100):Tot (oR l) fun l'=>l'.length=l.length:=by
 have hF:=FUv;unfold oR;refine tB (bVk hl) fun r _=>?_;refine tKe (bNw (n:=l.length) (by omega) bC _ _ _ _ (by omega)) rfl fun x hx=>tS hx
theorem bKh{l:List aC}(hl:l.length≤1100){cmp:aC→aC→Option Int}(hc: ∀x y,Tot (cmp x y) fun _=>True):Tot (nA l cmp) fun l'=>l'.length=l.length:=by
 have hF:=FUv;unfold nA;refine tB (bVk hl) fun r _=>?_;refine tKe (bM6 (n:=l.length) (by omega) hc bC _ _ _ _ (by omega)) rfl fun x hx=>tS hx
end Go.Proofs.YtkdohhmacfoolaaGreat
