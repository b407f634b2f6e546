/- Facts. No condition. -/
import Derived.Test.YtkdohhmacfoolaaGreatDoorPgScQ
set_option linter.unusedVariables false
set_option linter.unusedSimpArgs false
set_option maxRecDepth 20000
set_option maxHeartbeats 1000000
namespace Go.Proofs.YtkdohhmacfoolaaGreatDoor
open Go Go.AM Go.Pl Go.Pt Go.Ix
def U64(n:Int):Prop:=0≤n∧n<18446744073709551616
theorem cM0(n:Int):U64 (IntKind.u64.wrap n):=by unfold U64;rw [wu];omega
theorem bPc(w:ByteArray): ∀(m p:Nat) (n:Int),0<m→w.size<p+m→U64 n→Tot (uN m n w p) fun r=>(r.2=0∨r.2=6)∧U64 r.1
 |0,p,n,h0,h,hn=>by omega
 |m+1,p,n,h0,h,hn=>by
  show Tot (zP (uN m) _ _ _) _;unfold zP;refine tC (fun c=>tC (fun _=>tS ⟨.inr rfl,by unfold U64;omega⟩) fun _=>?_) fun _=>tS ⟨.inl rfl,hn⟩;rw [decide_eq_true_eq] at c;have:=decode_one w p c;exact bPc w m _ _ om om (cM0 _)
theorem bPb(w:ByteArray)(hw:w.size≤1000000): ∀(m p:Nat),0<m→w.size<p+m→Tot (uM m w w p) fun r=>(r.2=0∨r.2=2∨r.2=6)∧U64 r.1
 |0,p,h0,h=>by omega
 |m+1,p,h0,h=>by
  have hFU:=FU';show Tot (zO (uM m) _ _ _) _;unfold zO;refine tC (fun c=>tC (fun _=>tS ⟨.inr (.inl rfl),by unfold U64;omega⟩) fun _=>?_) fun _=>?_
  · rw [decide_eq_true_eq] at c;have:=decode_one w p c;exact bPb w hw m _ om om
  · exact (bPc w aY 0 0 om om (by unfold U64;omega)).imp fun r hr=>⟨hr.1.imp id .inr,hr.2⟩
theorem aYo{s:ByteArray}{i:Int}(h:0≤i∧i<s.size):aBo s i=some ((aLb s i.toNat:Nat):Int):=by unfold aBo;rw [if_pos h]
theorem bUh(w:ByteArray)(hw:w.size≤1000000):Tot (yH w) fun r=>(r.2=0∨r.2=2∨r.2=6)∧U64 r.1:=by
 have hFU:=FU';unfold yH;refine tG (fun c=>?_) fun _=>tC (fun _=>tS ⟨.inr (.inl rfl),by unfold U64;omega⟩) fun _=>bPb w hw aY 0 om om
 have:w.size≠0:=fun h=>by
  have e:w=⟨#[]⟩:=by
   cases w with
   |mk d=>
    have:d.size=0:=h;rw [Array.eq_empty_of_size_eq_zero this]
  rw [e] at c;simp at c
 exact ⟨_,aYo om,trivial⟩
theorem bGi(l:List ByteArray)(hl:l.length≤100)(hw: ∀w,w∈l→w.size≤1000000): ∀(m i:Nat) (out:List Int),l.length<i+m→i≤l.length→out.length=i→(∀x,x∈out→U64 x)→
 Tot (pH m out l (l.length:Int) (i:Int)) fun r=>(r.2=0∧r.1.length=l.length∧ ∀x,x∈r.1→U64 x)∨r.2=2∨r.2=6
 |0,i,out,h,h',_,_=>by omega
 |m+1,i,out,h,h',ho,hu=>by
  show Tot (aAu (pH m) _ _ _ _) _;unfold aAu
  by_cases q:i<l.length
  ·
   rw [bt (oJ q),cN q,aA,wr1 i om];refine tB (bUh _ (hw _ (List.getElem_mem q))) fun r hr=>tC (fun c=>tS ?_) fun _=>?_
   · have c:r.2≠0:=bne_iff_ne.1 c;exact .inr (hr.1.resolve_left c)
   ·
    rw [gG (by simp;omega),aA];refine bGi l hl hw m (i+1) _ om q (by simp;omega) fun x hx=>?_;rcases List.mem_append.1 hx with hx|hx
    · exact hu x hx
    · rw [List.mem_singleton.1 hx];exact hr.2
  · rw [bf (oI q)];exact tS (.inl ⟨rfl,by show out.length=_;omega,hu⟩)
theorem bPd(l:List ByteArray)(hl:l.length≤100)(hw: ∀w,w∈l→w.size≤1000000):Tot (rD l) fun r=>(r.2=0∧r.1.length=l.length∧ ∀x,x∈r.1→U64 x)∨r.2=2∨r.2=6:=by
 have hFU:=FU';exact bGi l hl hw aY 0 [] om (Nat.zero_le _) rfl fun x hx=>by cases hx
theorem mk0{n:Nat}(h:n≤1000000)(z:Int):mkc 0 (n:Int) z=some []:=by
 have:=aH9 (k:=0) (n:=(0:Int)) (c:=(n:Int)) (z:=z) rfl om om
 simpa using this
def DIG:ByteArray:=⟨#[48,49,50,51,52,53,54,55,56,57,97,98,99,100,101,102]⟩
def dgh(n:Int):Int:=((aLb DIG n.toNat:Nat):Int)
def hx2(b:Int):List Int:=[dgh (b/16),dgh (b%16)]
theorem bWz: ∀b:Fin 256,aBo DIG (shr .u8 ((b.val:Nat):Int) 4)=some (dgh (((b.val:Nat):Int)/16))∧aBo DIG (yU .u8 ((b.val:Nat):Int) 15)=some (dgh (((b.val:Nat):Int)%16)):=by decide+kernel
theorem bS8: ∀b:Fin 256,qE DIG (dgh (((b.val:Nat):Int)/16))=some (((b.val:Nat):Int)/16)∧qE DIG (dgh (((b.val:Nat):Int)%16))=some (((b.val:Nat):Int)%16)∧
 IntKind.u8.wrap (bor .i64 (shl .i64 (((b.val:Nat):Int)/16) 4) (((b.val:Nat):Int)%16))=((b.val:Nat):Int):=by decide+kernel
theorem bWo: ∀b:Fin 256,(0≤dgh (((b.val:Nat):Int)/16)∧dgh (((b.val:Nat):Int)/16)<256)∧0≤dgh (((b.val:Nat):Int)%16)∧dgh (((b.val:Nat):Int)%16)<256:=by decide+kernel
theorem bEw{P:Int→Prop}(h: ∀b:Fin 256,P ((b.val:Nat):Int)){b:Int}(hb:0≤b∧b<256):P b:=by
 have:=h ⟨b.toNat,by omega⟩;simp only at this
 rwa [Int.toNat_of_nonneg hb.1] at this
theorem bWy{l:List Int}(h:BB l):BB (l.flatMap hx2):=BB.fm fun b hb x hx=>by
 have:=bEw (P:=fun b=>(0≤dgh (b/16)∧dgh (b/16)<256)∧0≤dgh (b%16)∧dgh (b%16)<256) bWo (h b hb);unfold hx2 at hx;simp only [List.mem_cons,List.not_mem_nil,or_false] at hx;rcases hx with rfl|rfl
 · exact this.1
 · exact this.2
theorem aN0(l:List Int):(l.flatMap hx2).length=2*l.length:=by
 induction l with
 |nil=>rfl
 |cons a l ih=>rw [List.flatMap_cons,List.length_append,ih];simp [hx2];omega
theorem bUu(l:List Int)(i:Nat)(h:i<l.length):(l.take (i+1)).flatMap hx2=(l.take i).flatMap hx2++hx2 l[i]:=by rw [vC h,List.flatMap_append];simp
theorem bO0(l:List Int)(hb:BB l)(hl:l.length≤100000): ∀(m i:Nat),l.length<i+m→i≤l.length→aG4 m (fU l) ((l.take i).flatMap hx2) (i:Int)=some (fU (l.flatMap hx2))
 |0,i,h,h'=>by omega
 |m+1,i,h,h'=>by
  show aOn (aG4 m) _ _ _=_;unfold aOn;rw [rM]
  by_cases q:i<l.length
  ·
   have hx:=bEw (P:=fun b=>aBo DIG (shr .u8 b 4)=some (dgh (b/16))∧aBo DIG (yU .u8 b 15)=some (dgh (b%16))) bWz (hb _ (List.getElem_mem q));have h1:=hx.1;have h2:=hx.2;unfold DIG at h1 h2;have ht:((l.take i).flatMap hx2).length≤200000:=by rw [aN0,List.length_take];omega
   rw [bt (oJ q),aLv hb q,aA,h1,aA,aA,h2,aA,gG (by show _+2≤_;omega),aA,wr1 i om];have:=bO0 l hb hl m (i+1) om q;rw [bUu l i q] at this;exact this
  · rw [bf (oI q),List.take_of_length_le om]
theorem bO1(l:List Int)(hb:BB l)(hl:l.length≤100000):aIx (fU l)=some (fU (l.flatMap hx2)):=by
 have hFU:=FU';unfold aIx;have e:IntKind.i64.wrap (2*((fU l).size:Int))=((2*l.length:Nat):Int):=by rw [rM,wr0 om om];omega
 rw [e,mk0 om,aA];exact bO0 l hb hl aY 0 om (Nat.zero_le _)
theorem bCa(l:List Int)(hb:BB l)(hl:l.length≤100000): ∀(m i:Nat),l.length<i+m→i≤l.length→sY m (fU (l.flatMap hx2)) (l.take i) ((2*i:Nat):Int)=some (fU l,0)
 |0,i,h,h'=>by omega
 |m+1,i,h,h'=>by
  show aBg (sY m) _ _ _=_;unfold aBg;have hl2:=aN0 l;have bb2:=bWy hb;rw [rM,hl2]
  by_cases q:i<l.length
  ·
   have hx:=bEw (P:=fun b=>qE DIG (dgh (b/16))=some (b/16)∧qE DIG (dgh (b%16))=some (b%16)∧IntKind.u8.wrap (bor .i64 (shl .i64 (b/16) 4) (b%16))=b) bS8 (hb _ (List.getElem_mem q));obtain ⟨h1,h2,h3⟩:=hx;have hbi:=hb _ (List.getElem_mem q);unfold DIG at h1 h2
   have eF:l.flatMap hx2=(l.take i).flatMap hx2++(hx2 l[i]++(l.drop (i+1)).flatMap hx2):=by
    conv=>lhs;rw [←List.take_append_drop i l,List.flatMap_append,dZ q,List.flatMap_cons]
   have lt:((l.take i).flatMap hx2).length=2*i:=by rw [aN0,List.length_take];omega
   have g1:aBo (fU (l.flatMap hx2)) ((2*i:Nat):Int)=some (dgh (l[i]/16)):=by
    rw [aLv bb2 (i:=2*i) om];congr 1;have:(l.flatMap hx2)[2*i]? =some (dgh (l[i]/16)):=by rw [eF,List.getElem?_append_right om,lt];simp [hx2]
    exact (List.getElem?_eq_some_iff.1 this).2
   have g2:aBo (fU (l.flatMap hx2)) ((2*i+1:Nat):Int)=some (dgh (l[i]%16)):=by
    rw [aLv bb2 (i:=2*i+1) om];congr 1;have:(l.flatMap hx2)[2*i+1]? =some (dgh (l[i]%16)):=by rw [eF,List.getElem?_append_right om,lt,show 2*i+1-2*i=1 by omega];simp [hx2]
    exact (List.getElem?_eq_some_iff.1 this).2
   have e2:IntKind.i64.wrap (((2*i:Nat):Int)+2)=((2*(i+1):Nat):Int):=by rw [wr0 om om];omega
   rw [bt (oJ om),g1,aA,h1,aA,wr1 (2*i) om,g2,aA,h2,aA,bf (by simp;omega),h3,gG (by simp;omega),aA,e2];have:=bCa l hb hl m (i+1) om q;rw [vC q] at this;exact this
  · rw [bf (oI om),List.take_of_length_le om]
theorem bQo(l:List Int)(hb:BB l)(hl:l.length≤100000):sZ (fU (l.flatMap hx2))=some (fU l,0):=by
 have hFU:=FU';unfold sZ;have hl2:=aN0 l;have e1:Int.tmod (((fU (l.flatMap hx2)).size:Nat):Int) 2=0:=by rw [rM,hl2,Int.tmod_eq_emod_of_nonneg om];omega
 have e2:IntKind.i64.wrap (Int.tdiv (((fU (l.flatMap hx2)).size:Nat):Int) 2)=((l.length:Nat):Int):=by rw [rM,hl2,Int.tdiv_eq_ediv_of_nonneg om,wr0 om om];omega
 rw [e1,bf (by rfl),e2,mk0 om,aA];exact bCa l hb hl aY 0 om (Nat.zero_le _)
theorem bQn(w:ByteArray)(hw:w.size≤100000){k:Nat}(hk:w.size=2*k): ∀(m i:Nat) (out:List Int),k<i+m→i≤k→out.length=i→Tot (sY m w out ((2*i:Nat):Int)) fun r=>r.2=2∨(r.2=0∧r.1.size≤k)
 |0,i,out,h,h',_=>by omega
 |m+1,i,out,h,h',ho=>by
  show Tot (aBg (sY m) _ _ _) _;unfold aBg;rw [hk]
  by_cases q:i<k
  ·
   have e2:IntKind.i64.wrap (((2*i:Nat):Int)+2)=((2*(i+1):Nat):Int):=by rw [wr0 om om];omega
   rw [bt (oJ om),aYo om,aA,wr1 (2*i) om,e2];refine tB (P:=fun _=>True) ⟨_,rfl,trivial⟩ fun a _=>?_;rw [aYo om,aA];refine tB (P:=fun _=>True) ⟨_,rfl,trivial⟩ fun b _=>tC (fun _=>tS (.inl rfl)) fun _=>?_;rw [gG (by simp;omega),aA];exact bQn w hw hk m (i+1) _ om q (by simp;omega)
  · rw [bf (oI om)];exact tS (.inr ⟨rfl,by show (fU out).size≤k;rw [rM];omega⟩)
theorem bLo(w:ByteArray)(hw:w.size≤100000):Tot (sZ w) fun r=>r.2=2∨(r.2=0∧r.1.size≤w.size):=by
 have hFU:=FU';unfold sZ;refine tC (fun _=>tS (.inl rfl)) fun c=>?_;have c:Int.tmod (w.size:Int) 2=0:=by simpa using c
 rw [Int.tmod_eq_emod_of_nonneg om] at c;obtain ⟨k,hk⟩: ∃k,w.size=2*k:=⟨w.size/2,by omega⟩
 have e2:IntKind.i64.wrap (Int.tdiv (w.size:Int) 2)=(k:Int):=by rw [Int.tdiv_eq_ediv_of_nonneg om,wr0 om om];omega
 rw [e2,mk0 om,aA];exact (bQn w hw hk aY 0 [] om (Nat.zero_le _) rfl).imp fun r hr=>hr.imp id fun h=>⟨h.1,by omega⟩
open Go Go.AM Go.Pl Go.Pt Go.Ix Go.Lib
def Ne(t:ByteArray):Prop:=t≠⟨#[]⟩
theorem aSq{t:ByteArray}(h:1≤t.size):Ne t:=fun e=>by rw [e] at h;exact absurd h (by decide)
theorem bFf(l:List UInt8):(ByteArray.mk l.toArray).size=l.length:=rfl
theorem cAr{u:Nat}(h:u<18446744073709551616):nDigits u≤20:=by
 by_cases c:u<10
 · rw [nDigits_small c];omega
 · have:=numDigits_eq u om h;split at this<;>omega
theorem bS0{n:Int}(h:U64 n):Tot (aS6 n 10) fun r=>1≤r.size∧r.size≤20:=by
 unfold U64 at h;unfold aS6;rw [bt (by simp;omega)];refine tS ?_;rw [bFf,decDigits_length];exact ⟨nDigits_pos _,cAr om⟩
theorem bG9{n:Int}(h:0≤n∧n≤9223372036854775807):Tot (aH6 n) fun r=>1≤r.size∧r.size≤21:=by
 unfold aH6;rw [bt (by simp;omega)];refine tS ?_;rw [bFf];unfold itoa;rw [if_neg om,decDigits_length];have:=cAr (u:=n.toNat) om;exact ⟨nDigits_pos _,by omega⟩
theorem aX1{n:Int}(h:U64 n):Tot (mZ n) fun r=>1≤r.size∧r.size≤20:=by
 unfold mZ;exact tB (bS0 h) fun r hr=>tS hr
theorem bQe: ∀(l:List ByteArray),(∀x,x∈l→1≤x.size∧x.size≤41)→l.length≤szs l∧szs l≤41*l.length
 |[],_=>by simp [szs]
 |x::l,h=>by
  have:=h x List.mem_cons_self;have:=bQe l fun y hy=>h y (List.mem_cons_of_mem _ hy);simp only [szs,List.length_cons];omega
theorem aSl{l:List ByteArray}(hl:l.length≤1024)(h: ∀x,x∈l→1≤x.size∧x.size≤41):Tot (pF l) fun r=>Ne r:=by
 unfold pF;refine tC (fun _=>tS (aSq (by decide))) fun c=>?_
 have c:0<l.length:=by
  have:(l.length:Int)≠0:=by simpa using c
  omega
 have hz:=bQe l h;have hj:=aOk c;unfold aKj;rw [bt (by simp only [Bool.and_eq_true,decide_eq_true_eq];exact ⟨trivial,by omega,by omega⟩),aA];refine tS (aSq ?_);rw [bFf];omega
theorem bH5(l:List Int)(hl:l.length≤1024)(hr:AR l): ∀(m i:Nat) (t:List ByteArray),l.length<i+m→i≤l.length→t.length=i→(∀x,x∈t→1≤x.size∧x.size≤41)→Tot (vZ m t l (l.length:Int) (i:Int)) fun r=>Ne r
 |0,i,t,h,h',_,_=>by omega
 |m+1,i,t,h,h',ht,hx=>by
  show Tot (aFl (vZ m) _ _ _ _) _;unfold aFl
  by_cases q:i<l.length
  ·
   rw [bt (oJ q),cN q,aA,wr1 i om];refine tB (aX1 (hr _ (List.getElem_mem q))) fun r hr'=>?_;rw [gG (by simp;omega),aA];refine bH5 l hl hr m (i+1) _ om q (by simp;omega) fun x hx'=>?_;rcases List.mem_append.1 hx' with hx'|hx'
   · exact hx x hx'
   · rw [List.mem_singleton.1 hx'];omega
  · rw [bf (oI q)];exact tB (aSl om hx) fun r hr=>tS hr
theorem bH6(l:List bG)(hl:l.length≤1024)(hr: ∀p,p∈l→U64 p.x0∧U64 p.x1): ∀(m i:Nat) (t:List ByteArray),l.length<i+m→i≤l.length→t.length=i→(∀x,x∈t→1≤x.size∧x.size≤41)→Tot (wA m t l (l.length:Int) (i:Int)) fun r=>Ne r
 |0,i,t,h,h',_,_=>by omega
 |m+1,i,t,h,h',ht,hx=>by
  show Tot (aFm (wA m) _ _ _ _) _;unfold aFm
  by_cases q:i<l.length
  ·
   rw [bt (oJ q),cN q,aA,wr1 i om];have hp:=hr _ (List.getElem_mem q);refine tB (aX1 hp.1) fun r h1=>?_;have s1:(ByteArray.mk #[45]).size=1:=rfl;have ss: ∀a b:ByteArray,a.size+b.size≤100→aUn a b=some (a++b):=fun a b h=>by unfold aUn;rw [if_pos om]
   rw [ss _ _ om,aA];refine tB (aX1 hp.2) fun r' h2=>?_;rw [ss _ _ (by rw [ByteArray.size_append];omega),aA,gG (by simp;omega),aA];refine bH6 l hl hr m (i+1) _ om q (by simp;omega) fun x hx'=>?_;rcases List.mem_append.1 hx' with hx'|hx'
   · exact hx x hx'
   · rw [List.mem_singleton.1 hx',ByteArray.size_append,ByteArray.size_append];omega
  · rw [bf (oI q)];exact tB (aSl om hx) fun r hr=>tS hr
theorem bC3{f:Int}(h:0<f∧f≤100):Tot (bY (GA.i 36 .i64 f)) fun r=>Ne r:=by
 unfold bY;have e:aDj .i64 36 (GA.i 36 .i64 f)=some (f,true):=rfl;rw [e,aA];simp only [];rw [bt rfl,bf (by simp;omega)];refine tB (bG9 om) fun r hr=>?_;have s1:(ByteArray.mk #[101,114,114,111,114,32]).size=6:=rfl;have:aUn ⟨#[101,114,114,111,114,32]⟩ r=some (⟨#[101,114,114,111,114,32]⟩++r):=by unfold aUn;rw [if_pos om]
 rw [this,aA];exact tS (aSq (by rw [ByteArray.size_append];omega))
theorem bQg{r:GA}(h:aZ5 r):Tot (bY r) fun t=>Ne t:=by
 have hFU:=FU'
 cases h with
 |b x=>cases x<;>exact ⟨_,rfl,aSq (by decide)⟩
 |i n hn=>
  unfold bY;have e1:aDj .i64 36 (GA.i 3 .i64 (n:Int))=some (0,false):=rfl;have e2:aIr 4 (GA.i 3 .i64 (n:Int))=some (false,false):=rfl;have e3:aDj .i64 3 (GA.i 3 .i64 (n:Int))=some ((n:Int),true):=rfl;rw [e1,aA,e2];simp only [aA];rw [bf rfl,bf rfl,e3,aA];simp only [];rw [bt rfl];exact tB (bG9 om) fun r hr=>tS (aSq hr.1)
 |lu l hl=>
  unfold bY;have e1:aDj .i64 36 (GA.lu 24 l)=some (0,false):=rfl;have e2:aIr 4 (GA.lu 24 l)=some (false,false):=rfl;have e3:aDj .i64 3 (GA.lu 24 l)=some (0,false):=rfl;have e4:bE8 24 (GA.lu 24 l)=some (l,true):=rfl;simp only [e1,e2,e3,e4,aA];rw [bf rfl,bf rfl,bf rfl,bt rfl];exact bH5 l hl.1 hl.2 aY 0 [] om (Nat.zero_le _) rfl fun x hx=>by cases hx
 |lp l hl=>
  unfold bY;have e1:aDj .i64 36 (GA.lp 157 l)=some (0,false):=rfl;have e2:aIr 4 (GA.lp 157 l)=some (false,false):=rfl;have e3:aDj .i64 3 (GA.lp 157 l)=some (0,false):=rfl;have e4:bE8 24 (GA.lp 157 l)=some ([],false):=rfl;have e5:bKu 157 (GA.lp 157 l)=some (l,true):=rfl;simp only [e1,e2,e3,e4,e5,aA];rw [bf rfl,bf rfl,bf rfl,bf rfl,bt rfl];exact bH6 l hl.1 hl.2 aY 0 [] om (Nat.zero_le _) rfl fun x hx=>by cases hx
 |s l hl=>
  unfold bY;have e1:aDj .i64 36 (GA.s 9 (fU l))=some (0,false):=rfl;have e2:aIr 4 (GA.s 9 (fU l))=some (false,false):=rfl;have e3:aDj .i64 3 (GA.s 9 (fU l))=some (0,false):=rfl;have e4:bE8 24 (GA.s 9 (fU l))=some ([],false):=rfl;have e5:bKu 157 (GA.s 9 (fU l))=some ([],false):=rfl;have e6:bA8 9 (GA.s 9 (fU l))=some (fU l,true):=rfl;simp only [e1,e2,e3,e4,e5,e6,aA];rw [bf rfl,bf rfl,bf rfl,bf rfl,bf rfl,bt rfl,bO1 l hl.1 hl.2.2,aA];exact tS (aSq (by rw [rM,aN0];omega))
def tOK:ByteArray:=⟨#[111,107]⟩
theorem aTi:bY (GA.i 36 .i64 0)=some tOK:=by kernel_rfl
theorem bFi{l:List Int}(hb:BB l)(hl:l.length≤100000):bY (GA.s 9 (fU l))=some (fU (l.flatMap hx2)):=by
 unfold bY;have e1:aDj .i64 36 (GA.s 9 (fU l))=some (0,false):=rfl;have e2:aIr 4 (GA.s 9 (fU l))=some (false,false):=rfl;have e3:aDj .i64 3 (GA.s 9 (fU l))=some (0,false):=rfl;have e4:bE8 24 (GA.s 9 (fU l))=some ([],false):=rfl;have e5:bKu 157 (GA.s 9 (fU l))=some ([],false):=rfl;have e6:bA8 9 (GA.s 9 (fU l))=some (fU l,true):=rfl;simp only [e1,e2,e3,e4,e5,e6,aA];rw [bf rfl,bf rfl,bf rfl,bf rfl,bf rfl,bt rfl,bO1 l hb hl,aA]
open Go Go.AM
theorem aFg:uL=some true:=by decide+kernel
def wN:ByteArray:=⟨#[110,101,119]⟩
def wP:ByteArray:=⟨#[112,108,97,110]⟩
def wR:ByteArray:=⟨#[114,101,115,116,111,114,101]⟩
inductive Wd(x:ByteArray):Int→Int→Int→Prop
  |no:x≠wN→x≠wP→Wd x 0 0 (-1)
  |beg (d v:Int):(d= -1∨d= -2)→v≤1→(x=wN∨x=wP)→Wd x d 3 v
  |chg (d k v:Int):(1≤d∧d≤4)→(k=1∨k=2)→v≤5→x≠wN→x≠wP→Wd x d k v
  |ask (d k v:Int):(5≤d∧d≤14)→(k=0∨k=1∨k=2)→v>5→x≠wN→x≠wP→x≠wR→Wd x d k v
  |res (v:Int):x=wR→Wd x 15 1 v
theorem bQq(x:ByteArray)(l:List ByteArray)(hl:l.length≤1000)(h: ∀y,y∈l→y≠x): ∀(m i:Nat),l.length<i+m→i≤l.length→aCs m x l (i:Int)=some (-1)
 |0,i,h1,h2=>by omega
 |m+1,i,h1,h2=>by
  show aHp (aCs m) _ _ _=_;unfold aHp
  by_cases q:i<l.length
  · rw [bt (oJ q),cN q,aA,bf (decide_eq_false (h _ (List.getElem_mem q))),wr1 i om];exact bQq x l hl h m (i+1) om q
  · rw [bf (oI q)]
theorem bYj(x:ByteArray): ∃d k v,lT x=some (d,k)∧tF x=some v∧Wd x d k v:=by
 have hFU:=FU'
 by_cases h0:x=⟨#[110,101,119]⟩
 · subst h0;exact ⟨_,_,_,by kernel_rfl,by kernel_rfl,.beg (-1) 0 (by decide) (by decide) (.inl rfl)⟩
 by_cases h1:x=⟨#[112,108,97,110]⟩
 · subst h1;exact ⟨_,_,_,by kernel_rfl,by kernel_rfl,.beg (-2) 1 (by decide) (by decide) (.inr rfl)⟩
 by_cases h2:x=⟨#[118,101,114,116,101,120]⟩
 · subst h2;exact ⟨_,_,_,by kernel_rfl,by kernel_rfl,.chg 1 1 2 (by decide) (by decide) (by decide) (by decide) (by decide)⟩
 by_cases h3:x=⟨#[100,114,111,112]⟩
 · subst h3;exact ⟨_,_,_,by kernel_rfl,by kernel_rfl,.chg 2 1 3 (by decide) (by decide) (by decide) (by decide) (by decide)⟩
 by_cases h4:x=⟨#[101,100,103,101]⟩
 · subst h4;exact ⟨_,_,_,by kernel_rfl,by kernel_rfl,.chg 3 2 4 (by decide) (by decide) (by decide) (by decide) (by decide)⟩
 by_cases h5:x=⟨#[99,117,116]⟩
 · subst h5;exact ⟨_,_,_,by kernel_rfl,by kernel_rfl,.chg 4 2 5 (by decide) (by decide) (by decide) (by decide) (by decide)⟩
 by_cases h6:x=⟨#[104,97,115]⟩
 · subst h6;exact ⟨_,_,_,by kernel_rfl,by kernel_rfl,.ask 5 2 6 (by decide) (by decide) (by decide) (by decide) (by decide) (by decide)⟩
 by_cases h7:x=⟨#[100,101,103,114,101,101]⟩
 · subst h7;exact ⟨_,_,_,by kernel_rfl,by kernel_rfl,.ask 6 1 7 (by decide) (by decide) (by decide) (by decide) (by decide) (by decide)⟩
 by_cases h8:x=⟨#[110,101,97,114]⟩
 · subst h8;exact ⟨_,_,_,by kernel_rfl,by kernel_rfl,.ask 7 1 8 (by decide) (by decide) (by decide) (by decide) (by decide) (by decide)⟩
 by_cases h9:x=⟨#[99,111,110,110,101,99,116,101,100]⟩
 · subst h9;exact ⟨_,_,_,by kernel_rfl,by kernel_rfl,.ask 8 2 9 (by decide) (by decide) (by decide) (by decide) (by decide) (by decide)⟩
 by_cases h10:x=⟨#[115,105,122,101]⟩
 · subst h10;exact ⟨_,_,_,by kernel_rfl,by kernel_rfl,.ask 9 1 10 (by decide) (by decide) (by decide) (by decide) (by decide) (by decide)⟩
 by_cases h11:x=⟨#[99,111,117,110,116]⟩
 · subst h11;exact ⟨_,_,_,by kernel_rfl,by kernel_rfl,.ask 10 0 11 (by decide) (by decide) (by decide) (by decide) (by decide) (by decide)⟩
 by_cases h12:x=⟨#[109,101,109,98,101,114,115]⟩
 · subst h12;exact ⟨_,_,_,by kernel_rfl,by kernel_rfl,.ask 11 1 12 (by decide) (by decide) (by decide) (by decide) (by decide) (by decide)⟩
 by_cases h13:x=⟨#[102,111,114,101,115,116]⟩
 · subst h13;exact ⟨_,_,_,by kernel_rfl,by kernel_rfl,.ask 12 0 13 (by decide) (by decide) (by decide) (by decide) (by decide) (by decide)⟩
 by_cases h14:x=⟨#[97,117,100,105,116]⟩
 · subst h14;exact ⟨_,_,_,by kernel_rfl,by kernel_rfl,.ask 13 0 14 (by decide) (by decide) (by decide) (by decide) (by decide) (by decide)⟩
 by_cases h15:x=⟨#[115,97,118,101]⟩
 · subst h15;exact ⟨_,_,_,by kernel_rfl,by kernel_rfl,.ask 14 0 15 (by decide) (by decide) (by decide) (by decide) (by decide) (by decide)⟩
 by_cases h16:x=⟨#[114,101,115,116,111,114,101]⟩
 · subst h16;exact ⟨_,_,_,by kernel_rfl,by kernel_rfl,.res 16 rfl⟩
 refine ⟨0,0,-1,?_,?_,.no h0 h1⟩
 · unfold lT;simp only [h0,h1,h2,h3,h4,h5,h6,h7,h8,h9,h10,h11,h12,h13,h14,h15,h16,decide_false,cond_false]
 · unfold tF aNf;rw [aA];refine bQq x _ (by decide) (fun y hy=>?_) aY 0 (by simp;omega) (Nat.zero_le _);simp only [List.mem_cons,List.not_mem_nil,or_false] at hy;rcases hy with rfl|rfl|rfl|rfl|rfl|rfl|rfl|rfl|rfl|rfl|rfl|rfl|rfl|rfl|rfl|rfl|rfl<;>exact fun e=>by simp_all
def zU:aG:=⟨⟨⟨⟨0,0,0⟩,[],[]⟩,[]⟩,⟨[],0⟩,false⟩
def aJw(s:aG)(f:Int):Option (aG×ByteArray):=(bY (GA.i 36 .i64 f)).bind fun r=>some (s,r)
theorem bWt{α β:Type}(o:Option (α×β)):(o.bind fun ⟨a,b⟩=>some (a,b))=o:=by cases o<;>rfl
inductive Ln(l:List ByteArray):Prop
  |err (f:Int):0<f∧f≤100→(∀s,bP s l=aJw s f)→Ln l
  |beg (x:ByteArray) (t:List ByteArray) (d:Int) (args:List Int):l=x::t→(x=wN∨x=wP)→args.length=3→(∀s,bP s l=rS s d args)→Ln l
  |cmd (x:ByteArray) (t:List ByteArray) (k v:Int) (c:dG):l=x::t→Wd x c.Do k v→tF x=some v→1≤c.Do∧c.Do≤15→U64 c.A→c.Text.size≤1000→(∀s,bP s l=fS s c)→Ln l
theorem bGd{x:ByteArray}{t:List ByteArray}{d k:Int}(hc:lT x=some (d,k))(ht:t.length≤1000)(s:aG):bP s (x::t)=(bif ((d==0)||(((t.length:Nat):Int) !=k)) then aJw s 1 else (bif (d==15) then
 ((idx (x::t) 1).bind fun x11=>((sZ x11).bind fun ⟨r13,r14⟩=>(bif (r14 !=0) then aJw s r14 else fS s ⟨d,0,0,r13⟩)))
 else ((slc (x::t) 1 ((x::t).length:Int)).bind fun l21=>((rD l21).bind fun ⟨r23,r24⟩=>(bif (r24 !=0) then aJw s r24 else
  (bif ((d==(-1))||(d==(-2))) then rS s d r23 else (bif (decide (0<k)) then ((idx r23 0).bind fun x36=>lK s zU k r23 (dG.mk d x36 0 ⟨#[]⟩)) else lK s zU k r23 (dG.mk d 0 0 ⟨#[]⟩)))))))):=by
 have e1:IntKind.i64.wrap (((x::t).length:Int)-1)=(t.length:Int):=by
  have e0:((x::t).length:Int)=(t.length:Int)+1:=by simp
  rw [e0,wr0 om om];omega
 have i0:idx (x::t) 0=some x:=cN (l:=x::t) (k:=0) (by simp);unfold bP;rw [bf (by simp;omega),i0,aA,hc,aA];simp only [bWt];rw [e1];rfl
theorem bXk{l:List ByteArray}(hl:l.length≤6)(hw: ∀z,z∈l→z.size≤1000):Ln l:=by
 cases l with
 |nil=>exact .err 1 (by decide) fun s=>rfl
 |cons x t=>
  obtain ⟨d,k,v,hc,hv,W⟩:=bYj x;have ht:t.length≤5:=by simpa using hl
  have i0:idx (x::t) 0=some x:=cN (l:=x::t) (k:=0) (by simp);have st:=bGd hc (t:=t) om
  by_cases q:d=0∨((t.length:Nat):Int)≠k
  · refine .err 1 (by decide) fun s=>?_;rw [st s,bt (by simpa using q)]
  have q1:d≠0:=fun h=>q (.inl h);have q2:((t.length:Nat):Int)=k:=Classical.byContradiction fun h=>q (.inr h);have q3:((d==0)||(((t.length:Nat):Int) !=k))=false:=by simp [q1,q2]
  by_cases q15:d=15
  ·
   subst q15;have k1:k=1:=by cases W<;>first|rfl|omega
   have t1:t.length=1:=by omega
   obtain ⟨y,rfl⟩: ∃y,t=[y]:=List.length_eq_one_iff.1 t1;have i1:idx [x,y] 1=some y:=cN (l:=[x,y]) (k:=1) (by simp);have hy:=hw y (by simp);obtain ⟨r,e,hr⟩:=bLo y om;rcases hr with hr|hr
   · refine .err 2 (by decide) fun s=>?_;rw [st s,bf q3,bt (by rfl),i1,aA,e,aA];obtain ⟨r1,r2⟩:=r;cases hr;rfl
   · obtain ⟨r1,r2⟩:=r;obtain ⟨hr1,hr2⟩:=hr;cases hr1;refine .cmd x [y] k v ⟨15,0,0,r1⟩ rfl W hv ⟨by show (1:Int)≤15;omega,by show (15:Int)≤15;omega⟩ ⟨by show (0:Int)≤0;omega,by show (0:Int)<_;omega⟩ (by show r1.size≤_;simp only at hr2;omega) fun s=>?_;rw [st s,bf q3,bt (by rfl),i1,aA,e,aA];rfl
  have f15:(d==15)=false:=by simpa using q15
  have sl:slc (x::t) 1 ((x::t).length:Int)=some t:=by
   have:=wF (l:=x::t) (lo:=1) (a:=1) rfl (by simp);rw [this];rfl
  obtain ⟨⟨r1,r2⟩,e,hr⟩:=bPd t om fun z hz=>by have:=hw z (List.mem_cons_of_mem _ hz);omega
  by_cases r0:r2=0
  ·
   subst r0;have hr':=hr.resolve_right fun h=>by simp at h
   obtain ⟨_,hr1,hr2⟩:=hr';simp only at hr1 hr2
   by_cases qb:d= -1∨d= -2
   ·
    have kb:k=3∧(x=wN∨x=wP):=by
     cases W with
     |beg _ _ _ _ h=>exact ⟨rfl,h⟩
     |_=>first|omega|(exfalso;omega)
    refine .beg x t d r1 rfl kb.2 om fun s=>?_;rw [st s,bf q3,bf f15,sl,aA,e,aA];show (bif ((0:Int) !=0) then _ else _)=_;rw [bf (by rfl),bt (by simpa using qb)]
   ·
    have hd:1≤d∧d≤15∧(k=0∨k=1∨k=2):=by
     cases W<;>omega
    obtain ⟨a,b,ha,hs⟩: ∃a b,U64 a∧ ∀s,bP s (x::t)=fS s ⟨d,a,b,⟨#[]⟩⟩:=by
     have st2: ∀s,bP s (x::t)=(bif (decide (0<k)) then ((idx r1 0).bind fun x36=>lK s zU k r1 (dG.mk d x36 0 ⟨#[]⟩)) else lK s zU k r1 (dG.mk d 0 0 ⟨#[]⟩)):=fun s=>by
      rw [st s,bf q3,bf f15,sl,aA,e,aA];show (bif ((0:Int) !=0) then _ else _)=_;rw [bf (by rfl),bf (by simpa using qb)]
     have J2: ∀s c,aB2 s zU c=fS s c:=fun s c=>by unfold aB2;exact bWt _
     rcases hd.2.2 with rfl|rfl|rfl
     · refine ⟨0,0,⟨by decide,by decide⟩,fun s=>?_⟩;rw [st2 s,bf (by decide)];unfold lK;rw [bf (by decide),J2]
     · have i0:idx r1 0=some (r1[0]'(by omega)):=cN (l:=r1) (k:=0) om;refine ⟨r1[0]'(by omega),0,hr2 _ (List.getElem_mem _),fun s=>?_⟩;rw [st2 s,bt (by decide),i0,aA];unfold lK;rw [bf (by decide),J2]
     · have i0:idx r1 0=some (r1[0]'(by omega)):=cN (l:=r1) (k:=0) om;have i1:idx r1 1=some (r1[1]'(by omega)):=cN (l:=r1) (k:=1) om;refine ⟨r1[0]'(by omega),r1[1]'(by omega),hr2 _ (List.getElem_mem _),fun s=>?_⟩;rw [st2 s,bt (by decide),i0,aA];unfold lK;rw [bt (by decide),i1,aA,J2]
    exact .cmd x t k v ⟨d,a,b,⟨#[]⟩⟩ rfl W hv ⟨hd.1,hd.2.1⟩ ha (Nat.zero_le _) hs
  · have hr':r2=2∨r2=6:=hr.resolve_left fun h=>r0 h.1;refine .err r2 om fun s=>?_;rw [st s,bf q3,bf f15,sl,aA,e,aA];show (bif (r2 !=0) then _ else _)=_;rw [bt (by simpa using r0)]
end Go.Proofs.YtkdohhmacfoolaaGreatDoor
