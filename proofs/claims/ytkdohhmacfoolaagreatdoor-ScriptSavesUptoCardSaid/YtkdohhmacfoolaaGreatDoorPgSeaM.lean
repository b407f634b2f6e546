/- Facts. No condition. -/
import Derived.Laws.Bits64b
import Derived.Lib.Mul64
import Derived.Test.YtkdohhmacfoolaaGreatDoorPgAudT
set_option linter.unusedVariables false
set_option linter.unusedSimpArgs false
set_option maxRecDepth 20000
set_option maxHeartbeats 1000000
namespace Go.Proofs.YtkdohhmacfoolaaGreatDoor
open Go Go.AM Go.Pl Go.Pt
theorem wu(n:Int):IntKind.u64.wrap n=n%18446744073709551616:=IntKind.wrap_u64 n
theorem bF7(a k:Nat)(hk:k<64):shr .u64 (a:Int) (k:Int)=((a/2^k:Nat):Int):=by
 unfold shr;have:min ((k:Int).toNat) (IntKind.u64.bits)=k:=by show min k 64=k;omega
 rw [this,Int.fdiv_eq_ediv_of_nonneg _ (by exact Int.le_of_lt (Int.pow_pos (by decide)))];simp
theorem bY3(a k:Nat)(hk:k<64):shl .u64 (a:Int) (k:Int)=((a*2^k%18446744073709551616:Nat):Int):=by
 unfold shl;have:min ((k:Int).toNat) (IntKind.u64.bits)=k:=by show min k 64=k;omega
 rw [this,wu];simp
theorem bFz(a b:Nat)(ha:a<18446744073709551616)(hb:b<18446744073709551616):yU .u64 (a:Int) (b:Int)=((a &&& b:Nat):Int):=bits_and_u64_nat a b ha hb
theorem cI8(a b:Nat)(ha:a<18446744073709551616)(hb:b<18446744073709551616):bor .u64 (a:Int) (b:Int)=((a ||| b:Nat):Int):=bits_or_u64_nat a b ha hb
theorem bYx(a b:Nat)(ha:a<18446744073709551616)(hb:b<18446744073709551616):aAh .u64 (a:Int) (b:Int)=((a ^^^ b:Nat):Int):=bits_xor_u64_nat a b ha hb
theorem bWq{un lo:Int}(h0:0≤un)(h1:un<18446744073709551608)(h2:0≤lo)(h3:lo<4294967296)(s un0:Int): ∀(m:Nat) (q rhat:Int),rhat=un-q*4294967295→0≤rhat→rhat<4294967296→0≤q→
 un*4294967296+lo<(q+1)*18446744073709551608→4294967296≤rhat+((m:Int)-1)*4294967295→1≤m→
 ∃q',uG m 18446744073709551608 s 4294967295 4294967288 un lo un0 q rhat=uE 18446744073709551608 s 4294967295 4294967288 un lo un0 q'∧q'*18446744073709551608≤un*4294967296+lo∧un*4294967296+lo<(q'+1)*18446744073709551608∧0≤q'∧q'<4294967296
 |0,_,_,_,_,_,_,_,_,hm=>by omega
 |m+1,q,rhat,hr,r0,r1,q0,hq,hf,_=>by
  have step:uG (m+1) 18446744073709551608 s 4294967295 4294967288 un lo un0 q rhat=aGr (uG m) 18446744073709551608 s 4294967295 4294967288 un lo un0 q rhat:=rfl;rw [step];unfold aGr;have w1:IntKind.u64.wrap (rhat+4294967295)=rhat+4294967295:=by rw [wu];omega
  have w2:IntKind.u64.wrap (IntKind.u64.wrap (4294967296*rhat)+lo)=4294967296*rhat+lo:=by rw [wu,wu];omega
  by_cases big:4294967296≤q
  ·
   rw [bt (by simp [big]),w1];have w3:IntKind.u64.wrap (q-1)=q-1:=by rw [wu];omega
   rw [w3]
   by_cases e:4294967296≤rhat+4294967295
   · rw [bt (decide_eq_true e)];exact ⟨q-1,rfl,by omega,by omega,by omega,by omega⟩
   · rw [bf (decide_eq_false e)];exact bWq h0 h1 h2 h3 s un0 m (q-1) (rhat+4294967295) om om om om om om om
  ·
   have w4:IntKind.u64.wrap (q*4294967288)=q*4294967288:=by rw [wu];omega
   rw [w2,w4]
   by_cases c:4294967296*rhat+lo<q*4294967288
   ·
    rw [bt (by simp [c]),w1];have w3:IntKind.u64.wrap (q-1)=q-1:=by rw [wu];omega
    rw [w3]
    by_cases e:4294967296≤rhat+4294967295
    · rw [bt (decide_eq_true e)];exact ⟨q-1,rfl,by omega,by omega,by omega,by omega⟩
    · rw [bf (decide_eq_false e)];exact bWq h0 h1 h2 h3 s un0 m (q-1) (rhat+4294967295) om om om om om om om
   · rw [bf (by simp [c];omega)];exact ⟨q,rfl,by omega,by omega,by omega,by omega⟩
theorem bWp{un lo:Int}(h0:0≤un)(h1:un<18446744073709551608)(h2:0≤lo)(h3:lo<4294967296)(s q1:Int): ∀(m:Nat) (q rhat:Int),rhat=un-q*4294967295→0≤rhat→rhat<4294967296→0≤q→
 un*4294967296+lo<(q+1)*18446744073709551608→4294967296≤rhat+((m:Int)-1)*4294967295→1≤m→
 ∃q',uF m 18446744073709551608 s 4294967295 4294967288 lo q1 rhat un q=yV 18446744073709551608 s lo q1 un q'∧q'*18446744073709551608≤un*4294967296+lo∧un*4294967296+lo<(q'+1)*18446744073709551608∧0≤q'∧q'<4294967296
 |0,_,_,_,_,_,_,_,_,hm=>by omega
 |m+1,q,rhat,hr,r0,r1,q0,hq,hf,_=>by
  have step:uF (m+1) 18446744073709551608 s 4294967295 4294967288 lo q1 rhat un q=aGq (uF m) 18446744073709551608 s 4294967295 4294967288 lo q1 rhat un q:=rfl;rw [step];unfold aGq;have w1:IntKind.u64.wrap (rhat+4294967295)=rhat+4294967295:=by rw [wu];omega
  have w2:IntKind.u64.wrap (IntKind.u64.wrap (4294967296*rhat)+lo)=4294967296*rhat+lo:=by rw [wu,wu];omega
  by_cases big:4294967296≤q
  ·
   rw [bt (by simp [big]),w1];have w3:IntKind.u64.wrap (q-1)=q-1:=by rw [wu];omega
   rw [w3]
   by_cases e:4294967296≤rhat+4294967295
   · rw [bt (decide_eq_true e)];exact ⟨q-1,rfl,by omega,by omega,by omega,by omega⟩
   · rw [bf (decide_eq_false e)];exact bWp h0 h1 h2 h3 s q1 m (q-1) (rhat+4294967295) om om om om om om om
  ·
   have w4:IntKind.u64.wrap (q*4294967288)=q*4294967288:=by rw [wu];omega
   rw [w2,w4]
   by_cases c:4294967296*rhat+lo<q*4294967288
   ·
    rw [bt (by simp [c]),w1];have w3:IntKind.u64.wrap (q-1)=q-1:=by rw [wu];omega
    rw [w3]
    by_cases e:4294967296≤rhat+4294967295
    · rw [bt (decide_eq_true e)];exact ⟨q-1,rfl,by omega,by omega,by omega,by omega⟩
    · rw [bf (decide_eq_false e)];exact bWp h0 h1 h2 h3 s q1 m (q-1) (rhat+4294967295) om om om om om om om
   · rw [bf (by simp [c];omega)];exact ⟨q,rfl,by omega,by omega,by omega,by omega⟩
theorem bYt{un un1 un0 q1:Int}(h0:0≤un)(h1:un<18446744073709551608)(h2:0≤un1)(h3:un1<4294967296)(k2:0≤un0)(k3:un0<4294967296)
 (a1:q1*18446744073709551608≤un*4294967296+un1) (a2:un*4294967296+un1<(q1+1)*18446744073709551608) (a3:0≤q1) (a4:q1<4294967296):
 ∃q0 r q,uE 18446744073709551608 3 4294967295 4294967288 un un1 un0 q1=some (q,r)∧0≤q0∧r=((un*4294967296+un1-q1*18446744073709551608)*4294967296+un0-q0*18446744073709551608)/8∧
  0≤(un*4294967296+un1-q1*18446744073709551608)*4294967296+un0-q0*18446744073709551608∧(un*4294967296+un1-q1*18446744073709551608)*4294967296+un0-q0*18446744073709551608<18446744073709551608:=by
 have hFU:=FU;unfold uE
 have e1:IntKind.u64.wrap (IntKind.u64.wrap (IntKind.u64.wrap (un*4294967296)+un1)-IntKind.u64.wrap (q1*18446744073709551608))=un*4294967296+un1-q1*18446744073709551608:=by
  rw [wu,wu,wu,wu];omega
 rw [ck (by decide),aA,e1];generalize hr1:un*4294967296+un1-q1*18446744073709551608=r1 at*;have t1:Int.tdiv r1 4294967295=r1/4294967295:=Int.tdiv_eq_ediv_of_nonneg om;have e2:IntKind.u64.wrap (Int.tdiv r1 4294967295)=r1/4294967295:=by rw [t1,wu];omega
 rw [e2];have e3:IntKind.u64.wrap (r1/4294967295*4294967295)=r1/4294967295*4294967295:=by rw [wu];omega
 have e4:IntKind.u64.wrap (r1-r1/4294967295*4294967295)=r1-r1/4294967295*4294967295:=by rw [wu];omega
 rw [e3,e4];obtain ⟨q0,b1,b2,b3,b4,b5⟩:=bWp (un:=r1) (lo:=un0) om om k2 k3 3 q1 aY (r1/4294967295) (r1-r1/4294967295*4294967295) rfl om om om om (by rw [hFU];omega) om;rw [b1];unfold yV
 have e5:IntKind.u64.wrap (IntKind.u64.wrap (IntKind.u64.wrap (r1*4294967296)+un0)-IntKind.u64.wrap (q0*18446744073709551608))=r1*4294967296+un0-q0*18446744073709551608:=by
  rw [wu,wu,wu,wu];omega
 rw [ck (by decide),aA,e5];obtain ⟨z,hz⟩:=Int.eq_ofNat_of_zero_le (a:=r1*4294967296+un0-q0*18446744073709551608) om;refine ⟨q0,_,_,rfl,b4,?_,by omega,by omega⟩;rw [hz,show (3:Int)=((3:Nat):Int) from rfl,bF7 z 3 (by decide)];omega
theorem cJb:nR 2305843009213693951=some 3:=by decide+kernel
theorem bXw(a b k:Nat)(h:b<2^k):(a*2^k) ||| b=a*2^k+b:=by
 rw [Nat.mul_comm,←Nat.two_pow_add_eq_or_of_lt h]
theorem bS2(un:Nat)(h:un<18446744073709551608):IntKind.u64.wrap (Int.tdiv (un:Int) 4294967295)=((un/4294967295:Nat):Int)∧IntKind.u64.wrap ((un:Int)-IntKind.u64.wrap (((un/4294967295:Nat):Int)*4294967295))=((un%4294967295:Nat):Int):=by
 have e:Int.tdiv (un:Int) 4294967295=((un/4294967295:Nat):Int):=by rw [Int.tdiv_eq_ediv_of_nonneg om];omega
 have hd:un=un/4294967295*4294967295+un%4294967295:=(Nat.div_add_mod' un 4294967295).symm;have hm:un%4294967295<4294967295:=Nat.mod_lt _ (by decide);generalize un/4294967295=a at*;generalize un%4294967295=b at*;refine ⟨?_,?_⟩
 · rw [e,wu];omega
 · rw [wu,wu];omega
theorem bWr(hi lo:Nat)(h1:hi<2305843009213693951)(h2:lo<18446744073709551616): ∃q,aB7 (hi:Int) (lo:Int) 2305843009213693951=some (q,(((hi*18446744073709551616+lo)%2305843009213693951:Nat):Int)):=by
 have hFU:=FU;unfold aB7 aGs;rw [bf (by decide),bf (by simp;omega)];unfold aGt
 by_cases c:hi=0
 ·
  subst c;rw [bt (by rfl),ck (by decide),aA,aA]
  have:Int.tmod (lo:Int) 2305843009213693951=(((0*18446744073709551616+lo)%2305843009213693951:Nat):Int):=by
   rw [Int.tmod_eq_emod_of_nonneg om];omega
  rw [this];exact ⟨_,rfl⟩
 ·
  rw [bf (by simp;omega),cJb,aA];have w3:IntKind.u64.wrap 3=3:=by rw [wu];rfl
  have w61:IntKind.u64.wrap (64-3)=61:=by rw [wu];rfl
  rw [w3,w61,ck (by rfl),aA,aA,ck (by rfl),aA,aA];have eY:shl .u64 2305843009213693951 3=18446744073709551608:=bY3 2305843009213693951 3 (by decide);have e1:shr .u64 18446744073709551608 32=4294967295:=bF7 18446744073709551608 32 (by decide)
  have e0:yU .u64 18446744073709551608 4294967295=4294967288:=by
   have:=bFz 18446744073709551608 4294967295 (by decide) (by decide);exact this.trans (by decide+kernel)
  have eh:shl .u64 (hi:Int) 3=((hi*8:Nat):Int):=by
   have:=bY3 hi 3 (by decide);rw [show ((3:Nat):Int)=3 from rfl] at this;rw [this];omega
  have el:shr .u64 (lo:Int) 61=((lo/2305843009213693952:Nat):Int):=bF7 lo 61 (by decide)
  have eo:bor .u64 ((hi*8:Nat):Int) ((lo/2305843009213693952:Nat):Int)=((hi*8+lo/2305843009213693952:Nat):Int):=by
   rw [cI8 _ _ om om];have:=bXw hi (lo/2305843009213693952) 3 om;exact congrArg (fun n:Nat=>(n:Int)) this
  have em:shl .u64 (lo:Int) 3=((lo*8%18446744073709551616:Nat):Int):=bY3 lo 3 (by decide);have eu1:shr .u64 ((lo*8%18446744073709551616:Nat):Int) 32=((lo*8%18446744073709551616/4294967296:Nat):Int):=bF7 _ 32 (by decide)
  have eu0:yU .u64 ((lo*8%18446744073709551616:Nat):Int) 4294967295=((lo*8%18446744073709551616%4294967296:Nat):Int):=by
   have:=bFz (lo*8%18446744073709551616) 4294967295 om (by decide);rw [show ((4294967295:Nat):Int)=4294967295 from rfl] at this;rw [this];have e:=Nat.and_two_pow_sub_one_eq_mod (lo*8%18446744073709551616) 32;rw [show (2^32-1:Nat)=4294967295 from rfl,show (2^32:Nat)=4294967296 from rfl] at e;rw [e]
  rw [eY,e1,e0,eh,el,eo,em,eu1,eu0];generalize hun:hi*8+lo/2305843009213693952=un;clear eY e1 e0 eh el eo em eu1 eu0 w3 w61;have hub:un<18446744073709551608:=by omega
  obtain ⟨t2,t3⟩:=bS2 un hub;rw [t2,t3,ck (by rfl),aA];obtain ⟨q1,b1,b2,b3,b4,b5⟩:=bWq (un:=(un:Int)) (lo:=((lo*8%18446744073709551616/4294967296:Nat):Int)) om om om om 3 ((lo*8%18446744073709551616%4294967296:Nat):Int) aY ((un/4294967295:Nat):Int) ((un%4294967295:Nat):Int) om om om om om (by rw [hFU];omega) om;obtain ⟨q0,r,q,d1,d2,d3,d4,d5⟩:=bYt (un:=(un:Int)) (un1:=((lo*8%18446744073709551616/4294967296:Nat):Int)) (un0:=((lo*8%18446744073709551616%4294967296:Nat):Int)) (q1:=q1) om om om om om om b2 b3 b4 b5;refine ⟨q,?_⟩;have:r=(((hi*18446744073709551616+lo)%2305843009213693951:Nat):Int):=by omega
  rw [←this,←d1];exact b1
theorem maskN(a:Nat)(ha:a<18446744073709551616):yU .u64 (a:Int) 4294967295=((a%4294967296:Nat):Int):=by
 have:=bFz a 4294967295 ha (by decide);rw [show ((4294967295:Nat):Int)=4294967295 from rfl] at this;rw [this];have e:=Nat.and_two_pow_sub_one_eq_mod a 32;rw [show (2^32-1:Nat)=4294967295 from rfl,show (2^32:Nat)=4294967296 from rfl] at e;rw [e]
theorem bQ5(a:Nat):shr .u64 (a:Int) 32=((a/4294967296:Nat):Int):=bF7 a 32 (by decide)
theorem wuN{a:Nat}(h:a<18446744073709551616):IntKind.u64.wrap (a:Int)=(a:Int):=by rw [wu];omega
theorem bXq(x y:Nat)(hx:x<18446744073709551616)(hy:y<18446744073709551616):
 aB9 (x:Int) (y:Int)=some (((x*y/18446744073709551616:Nat):Int),((x*y%18446744073709551616:Nat):Int)):=by
 obtain ⟨h1,h2,h3,h4⟩:=Go.Lib.mul64_hi x y hx hy
 have b1:x/4294967296*(y/4294967296)<18446744073709551616:=by
  have:x/4294967296*(y/4294967296)≤4294967295*4294967295:=Nat.mul_le_mul om om;omega
 have b2:x/4294967296*(y%4294967296)<18446744073709551616:=by
  have:x/4294967296*(y%4294967296)≤4294967295*4294967295:=Nat.mul_le_mul om om;omega
 have b3:x%4294967296*(y/4294967296)<18446744073709551616:=by
  have:x%4294967296*(y/4294967296)≤4294967295*4294967295:=Nat.mul_le_mul om om;omega
 have hh:x*y/18446744073709551616<18446744073709551616:=by
  have:x*y<18446744073709551616*18446744073709551616:=Nat.mul_lt_mul_of_lt_of_le hx (Nat.le_of_lt hy) om;exact Nat.div_lt_of_lt_mul this
 unfold aB9;rw [bQ5 x,bQ5 y,maskN x hx,maskN y hy];simp only [←Int.natCast_mul,←Int.natCast_add,wuN h1,bQ5,wuN b1,wuN b2,wuN b3,wuN h2,maskN _ h2,wuN h3];congr 2;rw [wuN om,←Int.natCast_add,wuN om,h4]
theorem aWb(a:Nat):Int.tmod (a:Int) 2305843009213693951=((a%2305843009213693951:Nat):Int):=by rw [Int.tmod_eq_emod_of_nonneg om];omega
theorem bGh(a b:Nat):aG7 (a:Int) (b:Int)=some (((a%2305843009213693951)*(b%2305843009213693951)%2305843009213693951:Nat):Int):=by
 unfold aG7 aCn;rw [aA,aA,aWb,aWb];have ha:a%2305843009213693951<2305843009213693951:=Nat.mod_lt _ (by decide);have hb:b%2305843009213693951<2305843009213693951:=Nat.mod_lt _ (by decide);generalize a%2305843009213693951=x at*;generalize b%2305843009213693951=y at*;rw [bXq x y om om,aA];have hlt:x*y<2305843009213693951*2305843009213693951:=Nat.mul_lt_mul_of_lt_of_le ha (Nat.le_of_lt hb) om;generalize x*y=z at*;have hz:z/18446744073709551616<2305843009213693951:=by omega
 unfold aEl;simp only [];rw [ck (by rfl),aA,aWb,Nat.mod_eq_of_lt hz];obtain ⟨q,hq⟩:=bWr (z/18446744073709551616) (z%18446744073709551616) hz om;rw [hq,aA];simp only [aA];congr 3;rw [Nat.div_add_mod' z 18446744073709551616]
end Go.Proofs.YtkdohhmacfoolaaGreatDoor
