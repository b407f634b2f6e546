/- Facts. No condition. -/
import Derived.Test.YtkdohhmacfoolaaGreatDoorPgDsg
import Derived.Shelf.SlSortCmp.NoneTotal
import Derived.Ground.SlsfProg
import Derived.StillTailTactics
set_option linter.unusedVariables false
set_option linter.unusedSimpArgs false
namespace Go.Proofs.YtkdohhmacfoolaaGreatDoor
open Go.Proofs.Tryz Go Go.RowKit Go.Lib Go.AM
def aIu(sep:ByteArray):List ByteArray→List UInt8
  |[]=>[]
  |x::xs=>sep.data.toList++x.data.toList++aIu sep xs
def joinL(sep:ByteArray):List ByteArray→List UInt8
  |[]=>[]
  |x::xs=>x.data.toList++aIu sep xs
theorem bIf(l:List ByteArray):l.flatMap kD=l.map fun s=> .v (.string s):=by
 induction l with
 |nil=>rfl
 |cons x xs ih=>rw [List.flatMap_cons,ih];rfl
theorem bHc{w:World}{M:Nat→Nat→Prop}{O:Nat→OSt}{l:List ByteArray}{Va:Option Addr}{Vc n:Nat}(h:RV w M O (.slice Va n Vc) (.sl (l.flatMap kD) n false)){k:Nat}(hk:k<l.length):
 ∃vb voff,Va=some ⟨vb,voff,none⟩∧n≤Vc∧ ∀(j:Nat) (s:ByteArray),l[j]? =some s→w.cell? ⟨vb,voff+j,none⟩=some (.string s):=by
 rw [bIf] at h;generalize hx:(l.map fun s=>AV.v (.string s))=xs at h;have hxl:xs.length=l.length:=by rw [←hx,List.length_map]
 cases h with
 |sl b off cap _ _ _ cs hc hr hl hf=>
  refine ⟨b,off,rfl,hl,fun j s hj=>?_⟩;have h1:=hr j (.v (.string s)) (by rw [←hx,List.getElem?_map,hj];rfl);rw [←h1.v_inv];exact (hc j (by have:=(List.getElem?_eq_some_iff.1 hj).1;omega)).1
 |slnil a _=>simp at hxl;omega
def szs:List ByteArray→Nat
  |[]=>0
  |x::xs=>x.size+szs xs
theorem aTg(a b:List ByteArray):szs (a++b)=szs a+szs b:=by
 induction a with
 |nil=>simp [szs]
 |cons x a ih=>simp [szs,ih];omega
theorem bBy{l:List ByteArray}{k:Nat}(h:k<l.length):szs (l.take (k+1))=szs (l.take k)+l[k].size:=by
 have e:l.take (k+1)=l.take k++[l[k]]:=by rw [List.take_add_one,List.getElem?_eq_getElem h];rfl
 rw [e,aTg];simp [szs]
theorem bKy(xs:List ByteArray):(aIu ⟨#[32]⟩ xs).length=szs xs+xs.length:=by
 induction xs with
 |nil=>rfl
 |cons x xs ih=>
  have hz:x.size=x.data.toList.length:=rfl;simp only [aIu,szs,List.length_append,List.length_cons,ih,List.length_nil];omega
theorem bY8{l:List ByteArray}(k:Nat):szs (l.take k)≤szs l:=by
 have:=aTg (l.take k) (l.drop k);rw [List.take_append_drop] at this;omega
theorem aXk(sep:ByteArray)(a b:List ByteArray):aIu sep (a++b)=aIu sep a++aIu sep b:=by
 induction a with
 |nil=>rfl
 |cons x a ih=>simp [aIu,ih]
theorem aSd{sep:ByteArray}{l:List ByteArray}{k:Nat}(h:k+1<l.length):joinL sep (l.take (k+1))++sep.data.toList++l[k+1].data.toList=joinL sep (l.take (k+1+1)):=by
 cases l with
 |nil=>simp at h
 |cons x xs=>
  have hk:k<xs.length:=by simpa using h
  have e:xs.take (k+1)=xs.take k++[xs[k]]:=by rw [List.take_add_one,List.getElem?_eq_getElem hk];rfl
  simp only [List.take_succ_cons,joinL,List.getElem_cons_succ,e,aXk,aIu,List.append_assoc,List.append_nil]
theorem Bld.of{B b:Nat}{p:Value}{w:World}{l:List UInt8}(h:Lib.BuilderAt 133 5 B b p (byteCells l) w): ∃g,Bld B b p g l w:=by
 obtain ⟨hB,v,hb,hown,hne⟩:=h;exact ⟨_,v,hB,hb,by rw [byteCells_length] at hown;exact hown,rfl,hne⟩
theorem aOk{l:List ByteArray}(h:0<l.length):(joinL ⟨#[32]⟩ l).length=szs l+(l.length-1):=by
 cases l with
 |nil=>simp at h
 |cons x xs=>
  have hz:x.size=x.data.toList.length:=rfl;simp only [joinL,szs,List.length_append,bKy,List.length_cons];omega
set_option maxRecDepth 100000
set_option maxHeartbeats 2000000
theorem bKz{ls:List ByteArray}(h2:2≤ls.length)(hn:ls.length≤100000)(ht:(joinL ⟨#[32]⟩ ls).length≤1000000)
 {w:World} {X:Nat→Nat→Prop} {V:Value} (hV:RV w X jO V (.sl (ls.flatMap kD) ls.length false)):
 Calls prog 145 #[V,.string ⟨#[32]⟩] w fun e w'=>e= .returned (.string ⟨(joinL ⟨#[32]⟩ ls).toArray⟩)∧Below w.heap.size w w':=by
 have mixed:=Tryz.lays169.mixed;have u3:=run_underlying underlying3;obtain ⟨Va,Vc,rfl⟩:=aHt hV;obtain ⟨vb,voff,rfl,hcap,hc⟩:=bHc hV (k:=0) om;have n0:ls.length≠0:=by omega
 have n1:ls.length≠1:=by omega
 have hq: ¬(9223372036854775807:Int)/((ls.length:Int)-1)≤1:=by
  have:(2:Int)≤9223372036854775807/((ls.length:Int)-1):=Int.le_ediv_of_mul_le om om;omega
 have HC:=sM hc;clear hc
 go_enter func145,ntmps145
 go_wp2
 have hj:=aOk (l:=ls) om;have hsz: ∀k,szs (ls.take k)≤1000000:=fun k=>Nat.le_trans (bY8 k) om;have Hsz:=sM hsz;clear hsz
 go_loop [5,41] (fun n i=> ∃k:Nat,k≤ls.length∧i= .int .i64 k∧n= .int .i64 ((ls.length:Int)-1+szs (ls.take k))) (fun _ i=>ls.length-(Lib.intOf i).toNat)
 case atStart=>exact ⟨0,Nat.zero_le _,rfl,by simp [szs]⟩
 case round=>
  obtain ⟨k,hk,rfl,rfl⟩:=hrel
  by_cases hlt:k<ls.length
  ·
   have hcell:=HC.out k ls[k] (List.getElem?_eq_getElem hlt);have hz:=bBy hlt;have h5:=Hsz.out k;have h6:=Hsz.out (k+1);rw [hz] at h6
   go_wp2
   refine ⟨⟨k+1,hlt,rfl,by rw [hz];simp;omega⟩,by simp [Lib.intOf];omega⟩
  ·
   have hke:k=ls.length:=by omega
   subst hke
   go_wp2_with fail
   have hcells: ∀w',Below w.heap.size w w'→ ∀(j:Nat) (s:ByteArray),ls[j]? =some s→w'.cell? ⟨vb,voff+j,none⟩=some (.string s):=fun w' hb j s hj=>by
    have h1:=HC.out j s hj;rw [hb.cell (p:=⟨vb,voff+j,none⟩) (block_lt_of_cell h1)];exact h1
   have Hcells:=sM hcells;clear hcells;have e:((ls.length:Int)-1+(szs ls:Int))=((ls.length-1+szs ls:Nat):Int):=by omega
   rw [e];refine (Tryz.Builder_Grow_fresh w.heap.size w.heap.size (ls.length-1+szs ls) _ (Nat.le_refl _) (heap_alloc_new w _) (by simp) om).mono ?_;rintro e' w1 ⟨rfl,hA,hb⟩;have hb1:Below w.heap.size w w1:=((Below.refl w.heap.size w).alloc (Nat.le_refl _) _).trans hb;obtain ⟨g,hB⟩:=Bld.of (l:=[]) hA;have HB:=sM hB;have Hb1:=sM hb1;clear hA hb hB hb1;have hc0:=Hcells.out w1 Hb1.out 0 ls[0] (List.getElem?_eq_getElem om);rw [Nat.add_zero] at hc0
   have l0:ls[0].size≤1000000:=by
    have h1:=Hsz.out (0+1);rw [bBy (l:=ls) (k:=0) om] at h1;omega
   go_wp2_with fail
   refine (aMl (.inr rfl) HB.out ls[0] (by simp;omega) Hb1.out.size).mono ?_;rintro e' w2 ⟨rfl,g2,hB2,hb2,_,_⟩
   have hj0:([]:List UInt8)++ls[0].data.toList=joinL ⟨#[32]⟩ (ls.take (0+1)):=by
    cases ls with
    |nil=>simp at h2
    |cons x xs=>simp [joinL,aIu]
   rw [hj0] at hB2;have HB2:=sM hB2;have Hb2:=sM (Hb1.out.trans hb2);clear hB2 hb2
   go_wp2
   go_loopw [65] (fun i wr=> ∃(k:Nat) (g:Option Nat),k+1≤ls.length∧i= .int .i64 k∧Hid (Bld w.heap.size w.heap.size (.pointer (some ⟨w.heap.size,0,none⟩)) g (joinL ⟨#[32]⟩ (ls.take (k+1))) wr)∧Hid (Below w.heap.size w wr)) (fun i _=>ls.length-(Lib.intOf i).toNat)
   case atStart=>exact ⟨0,g2,by omega,rfl,HB2,Hb2⟩
   case round=>
    obtain ⟨k,g,hk,rfl,HB,HW⟩:=hrel
    have hlb: ∀j,j≤ls.length→0<j→(joinL ⟨#[32]⟩ (ls.take j)).length≤1200000:=fun j h1 h2=>by
     have:=aOk (l:=ls.take j) (by rw [List.length_take];omega);rw [List.length_take] at this;have:=Hsz.out j;omega
    by_cases hlt:k+1<ls.length
    ·
     have hcell:=Hcells.out wr HW.out (k+1) ls[k+1] (List.getElem?_eq_getElem hlt);rw [show voff+(k+1)=voff+1+k by omega] at hcell;have b1:=hlb (k+1) hk om;have b2:=hlb (k+1+1) hlt om;rw [←aSd hlt] at b2;simp only [List.length_append] at b2;have hz:ls[k+1].size=ls[k+1].data.toList.length:=rfl;have hlt':(k:Int)<(ls.length:Int)-1:=by omega
     clear hlb
     go_wp2_with fail
     refine (aMl (.inr rfl) HB.out ⟨#[32]⟩ (by show _+1≤_;omega) HW.out.size).mono ?_;rintro e' w3 ⟨rfl,g3,hB3,hb3,_,_⟩;have HB3:=sM hB3;have HW3:=sM (HW.out.trans hb3);clear hB3 hb3
     go_wp2_with fail
     refine (aMl (.inr rfl) HB3.out ls[k+1] (by simp only [List.length_append];omega) HW3.out.size).mono ?_;rintro e' w4 ⟨rfl,g4,hB4,hb4,_,_⟩;have hB4':=hB4;rw [show ([32]:List UInt8)=(⟨#[32]⟩:ByteArray).data.toList from rfl,aSd hlt] at hB4';have HB4:=sM hB4';have HW4:=sM (HW3.out.trans hb4);clear hB4 hB4' hb4
     go_wp2
     refine ⟨⟨k+1,g4,hlt,rfl,HB4,HW4⟩,by simp [Lib.intOf];omega⟩
    ·
     have hke:k=ls.length-1:=by omega
     have hlt': ¬(k:Int)<(ls.length:Int)-1:=by omega
     have et:ls.take (k+1)=ls:=List.take_of_length_le om;rw [et] at HB
     go_wp2_with fail
     refine (Tryz.Builder_String_any w.heap.size w.heap.size (joinL ⟨#[32]⟩ ls) wr (HB.out.is (.inr rfl)) HW.out.size).mono ?_;rintro e' w' ⟨rfl,hb⟩;have Hb:=sM hb;clear hb
     go_wp2
     go_ret
     exact ⟨rfl,HW.out.trans Hb.out⟩
theorem bEl{ls:List ByteArray}(h2:ls.length<2){w:World}{X:Nat→Nat→Prop}{V:Value}(hV:RV w X jO V (.sl (ls.flatMap kD) ls.length false)):
 Calls prog 145 #[V,.string ⟨#[32]⟩] w fun e w'=>e= .returned (.string ⟨(joinL ⟨#[32]⟩ ls).toArray⟩)∧Below w.heap.size w w':=by
 have mixed:=Tryz.lays169.mixed;have u3:=run_underlying underlying3;obtain ⟨Va,Vc,rfl⟩:=aHt hV
 cases ls with
 |nil=>
  go_enter func145,ntmps145
  go_wp2
  go_ret
  exact ⟨rfl,Below.refl _ _⟩
 |cons x xs=>
  have hx:xs=[]:=by
   cases xs with
   |nil=>rfl
   |cons y ys=>simp only [List.length_cons] at h2;omega
  subst hx;obtain ⟨vb,voff,rfl,hcap,hc⟩:=bHc hV (k:=0) (by simp);have c0:=hc 0 x rfl;rw [Nat.add_zero] at c0;clear hc;have e:(⟨(joinL ⟨#[32]⟩ [x]).toArray⟩:ByteArray)=x:=by simp [joinL,aIu]
  rw [e]
  go_enter func145,ntmps145
  go_wp2
  go_ret
  exact ⟨rfl,Below.refl _ _⟩
def aKj(ls:List ByteArray)(sep:ByteArray):Option ByteArray:=bif decide (sep=⟨#[32]⟩)&&(decide (ls.length≤100000)&&decide ((joinL ⟨#[32]⟩ ls).length≤1000000)) then some ⟨(joinL ⟨#[32]⟩ ls).toArray⟩ else none
theorem bLg{ls:List ByteArray}{sep r:ByteArray}(hm:aKj ls sep=some r):cE prog 145 [.sl (ls.flatMap kD) ls.length false,.v (.string sep)] (.v (.string r)):=by
 unfold aKj at hm
 cases h:(decide (sep=⟨#[32]⟩)&&(decide (ls.length≤100000)&&decide ((joinL ⟨#[32]⟩ ls).length≤1000000))) with
 |false=>rw [h] at hm;cases hm
 |true=>
  rw [h] at hm;cases hm;simp only [Bool.and_eq_true,decide_eq_true_eq] at h;obtain ⟨rfl,h1,h2⟩:=h;intro w X vs hX hv;obtain ⟨hsz,hv⟩:=hv;have q0:=hv 0 _ rfl;have q1:=(hv 1 _ rfl).v_inv;obtain ⟨V,W,rfl⟩:=bRg hsz;simp at q0 q1;subst q1
  have fin:Calls prog 145 #[V,.string ⟨#[32]⟩] w fun e w'=>e= .returned (.string ⟨(joinL ⟨#[32]⟩ ls).toArray⟩)∧Below w.heap.size w w':=by
   by_cases c:2≤ls.length
   · exact bKz c h1 h2 q0
   · exact bEl om q0
  refine fin.mono ?_;rintro e w' ⟨rfl,hb⟩;exact ⟨_,rfl,.v _,hb⟩
end Go.Proofs.YtkdohhmacfoolaaGreatDoor
namespace Go.AM
open Go.Proofs.Tryz Go Go.RowKit
theorem bLp{O:Nat→OSt}{i:Nat}{x:OSt}(h:O i=x):oP O i x=O:=by
 funext j;unfold oP;split
 · rename_i e;rw [e,h]
 · rfl
theorem Sim.rewrite{X:Nat→Nat→Prop}{w0 w w':World}{H:aH}{O:Nat→OSt}(hs:Sim X w0 w H O){i sz:Nat}{xs:List AV}{o:Own}(he:H.ent i= .cells sz xs 0)(ho:O i= .live o){ys:List Value}(hl:ys.length=xs.length)
 (hb:Below o.b w w') (hoth: ∀b,b<w.heap.size→b≠o.b→w'.heap[b]? =w.heap[b]?)
 (hc: ∀c e fr,w.heap[o.b]? =some (.cells c e fr)→ ∃c',w'.heap[o.b]? =some (.cells c' e fr)∧c'.size=c.size∧(∀j,j<o.base→c'[j]? =c[j]?)∧ ∀k y,ys[k]? =some y→c'.getD (o.base+k) undef=y):
 Sim X w0 w' (H.put i (.cells sz (ys.map .v) 0)) O∧fQ w (Mut X H O) O w' (Mut X (H.put i (.cells sz (ys.map .v) 0)) O) O:=by
 have hsz:H.ent i= .cells sz xs 0:=he;have h0:=hs.ent i;rw [he] at h0;rcases h0 with ⟨h1,_⟩|⟨o',h1,h2,h3,h4,h5,c,e,fr,h6,h7,h8,h9⟩
 · rw [ho] at h1;cases h1
 rw [ho] at h1;cases h1;obtain ⟨c',k1,k2,k3,k4⟩:=hc c e fr h6;have hlt:o.b<w.heap.size:=(Array.getElem?_eq_some_iff.1 h6).1
 have ht:fQ w (Mut X H O) O w' (Mut X (H.put i (.cells sz (ys.map .v) 0)) O) O:=by
  refine ⟨fun b j v hcell hm=>⟨?_,fun hm'=>?_⟩,fun _ h=>h,fun _ h=> .inl h,fun _ _ h=> .inl h⟩
  ·
   by_cases hbo:b=o.b
   ·
    subst hbo
    have hj:j<o.base:=by
     rcases Nat.lt_or_ge j o.base with h|h
     · exact h
     · exact absurd (.inr ⟨i,o,ho,rfl,by rw [he];exact h⟩) hm
    have hcj:c[j]? =some v:=by simpa [World.cell?,h6] using hcell
    have:=(k3 j hj).trans hcj
    simpa [World.cell?,k1] using this
   ·
    have hbl:b<w.heap.size:=by
     unfold World.cell? at hcell
     cases hh:w.heap[b]? with
     |none=>simp [hh] at hcell
     |some _=>exact (Array.getElem?_eq_some_iff.1 hh).1
    rw [World.cell?_of_block (w:=w) (w':=w') (hoth b hbl hbo)];exact hcell
  ·
   rcases hm' with hm'|⟨id,o2,q1,q2,q3⟩
   · exact hm (.inl hm')
   ·
    refine hm (.inr ⟨id,o2,q1,q2,?_⟩)
    by_cases hid:id=i
    · subst hid;rw [he];simpa [aH.put,upd,Ent.lock] using q3
    · simpa [aH.put,upd,hid] using q3
 have eO:=bLp ho;have hbw:Below w0.heap.size w w':=hb.mono h4
 have:=hs.update (w':=w') i (.cells sz (ys.map .v) 0) (.live o) (hs.below.trans hbw) (by rw [eO];exact ht)
  (fun j o2 hj hl2=>hoth _ (hs.live_lt hl2).2 (fun e=>hj (hs.inj j i _ _ hl2 ho e)))
  (by
   refine .inr ⟨o,dL _ _ _,h2,Nat.zero_le _,h4,by rw [List.length_map,hl];exact h5,c',e,fr,k1,k2.trans h7,fun j hj=>h8 j om,fun k a hk=>?_⟩;rw [List.getElem?_map] at hk
   cases hy:ys[k]? with
   |none=>rw [hy] at hk;cases hk
   |some y=>rw [hy] at hk;cases hk;rw [k4 k y hy];exact .v _)
  (fun o2 ho2 j o3 hj hl3 hb3=>by cases ho2;exact hj (hs.inj j i _ _ hl3 ho hb3))
 rw [eO] at this;exact ⟨this,ht⟩
end Go.AM
namespace Go.Proofs
open Go.Shelf
def Tryz.sortP_ren:Go.Shelf.Ren:=⟨fun|6=>123|15=>160|14=>161|28=>202|29=>203|20=>204|21=>205|22=>206|23=>207|24=>208|25=>209|26=>210|27=>211|46=>243|47=>239|48=>240|49=>244|50=>245|57=>256|n=>n,fun|22=>157|24=>180|25=>203|3=>3|39=>162|0=>0|53=>277|55=>40|4=>4|46=>270|45=>269|50=>86|5=>5|9=>9|66=>300|70=>304|76=>313|77=>115|n=>n,fun|n=>n⟩
theorem Tryz.sortP:Go.Proofs.SlLaysF0.n6 prog Tryz.sortP_ren:= {
 mixed:=by kernel_rfl
 f6:=⟨Tryz.f123.name,by decide,Tryz.func123.trans (congrArg some (by kernel_rfl))⟩
 f14:=⟨Tryz.f161.name,by decide,Tryz.func161.trans (congrArg some (by kernel_rfl))⟩
 f15:=Tryz.func160.trans (congrArg some (by kernel_rfl))
 f20:=⟨Tryz.f204.name,by decide,Tryz.func204.trans (congrArg some (by kernel_rfl))⟩
 f21:=⟨Tryz.f205.name,by decide,Tryz.func205.trans (congrArg some (by kernel_rfl))⟩
 f22:=⟨Tryz.f206.name,by decide,Tryz.func206.trans (congrArg some (by kernel_rfl))⟩
 f23:=⟨Tryz.f207.name,by decide,Tryz.func207.trans (congrArg some (by kernel_rfl))⟩
 f24:=⟨Tryz.f208.name,by decide,Tryz.func208.trans (congrArg some (by kernel_rfl))⟩
 f25:=⟨Tryz.f209.name,by decide,Tryz.func209.trans (congrArg some (by kernel_rfl))⟩
 f26:=⟨Tryz.f210.name,by decide,Tryz.func210.trans (congrArg some (by kernel_rfl))⟩
 f27:=⟨Tryz.f211.name,by decide,Tryz.func211.trans (congrArg some (by kernel_rfl))⟩
 f28:=Tryz.func202.trans (congrArg some (by kernel_rfl))
 f29:=Tryz.func203.trans (congrArg some (by kernel_rfl))
 f46:=⟨Tryz.f243.name,by decide,Tryz.func243.trans (congrArg some (by kernel_rfl))⟩
 f47:=Tryz.func239.trans (congrArg some (by kernel_rfl))
 f48:=Tryz.func240.trans (congrArg some (by kernel_rfl))
 f49:=⟨Tryz.f244.name,by decide,Tryz.func244.trans (congrArg some (by kernel_rfl))⟩
 f50:=⟨Tryz.f245.name,by decide,Tryz.func245.trans (congrArg some (by kernel_rfl))⟩
 f57:=⟨Tryz.f256.name,by decide,Tryz.func256.trans (congrArg some (by kernel_rfl))⟩
 t0:=underlying0
 a0:=Tryz.isAgg0
 z0:=Tryz.sizeOf0
 v0:=Tryz.zeroValue0
 t3:=underlying3
 a3:=Tryz.isAgg3
 z3:=Tryz.sizeOf3
 v3:=Tryz.zeroValue3
 t4:=underlying4
 a4:=Tryz.isAgg4
 z4:=Tryz.sizeOf4
 v4:=Tryz.zeroValue4
 t5:=underlying5
 a5:=Tryz.isAgg5
 z5:=Tryz.sizeOf5
 v5:=Tryz.zeroValue5
 t9:=underlying9
 a9:=Tryz.isAgg9
 z9:=Tryz.sizeOf9
 v9:=Tryz.zeroValue9
 t22:=underlying157
 a22:=Tryz.isAgg157
 z22:=Tryz.sizeOf157
 v22:=Tryz.zeroValue157
 t25:=underlying203
 a25:=Tryz.isAgg203
 z25:=Tryz.sizeOf203
 v25:=Tryz.zeroValue203
 t39:=underlying162
 a39:=Tryz.isAgg162
 z39:=Tryz.sizeOf162
 v39:=Tryz.zeroValue162
 t45:=underlying269
 a45:=Tryz.isAgg269
 z45:=Tryz.sizeOf269
 v45:=Tryz.zeroValue269
 t46:=underlying270
 a46:=Tryz.isAgg270
 z46:=Tryz.sizeOf270
 v46:=Tryz.zeroValue270
 t50:=underlying86
 a50:=Tryz.isAgg86
 z50:=Tryz.sizeOf86
 v50:=Tryz.zeroValue86
 t53:=underlying277
 a53:=Tryz.isAgg277
 z53:=Tryz.sizeOf277
 v53:=Tryz.zeroValue277
 t55:=underlying40
 a55:=Tryz.isAgg40
 z55:=Tryz.sizeOf40
 v55:=Tryz.zeroValue40
 t66:=underlying300
 a66:=Tryz.isAgg300
 z66:=Tryz.sizeOf300
 v66:=Tryz.zeroValue300
 t70:=underlying304
 a70:=Tryz.isAgg304
 z70:=Tryz.sizeOf304
 v70:=Tryz.zeroValue304
 t76:=underlying313
 a76:=Tryz.isAgg313
 z76:=Tryz.sizeOf313
 v76:=Tryz.zeroValue313
 t77:=underlying115
 a77:=Tryz.isAgg115
 z77:=Tryz.sizeOf115
 v77:=Tryz.zeroValue115 }
end Go.Proofs
namespace Go.Proofs.YtkdohhmacfoolaaGreatDoor
open Go.Proofs.Tryz Go Go.RowKit Go.Sort Go.Lib Go.AM
set_option maxRecDepth 100000
set_option maxHeartbeats 1000000
theorem bVl{p:Prop}(h:p):Hid p:=h
theorem bSf(x:Int)(w:World):Calls prog 162 #[.int .u64 x] w fun e w'=>e= .returned (.bool false)∧w'=w:=by
 have u40:=run_underlying underlying40
 go_enter func162,ntmps162
 go_wp2
 go_ret
 exact ⟨by simp,rfl⟩
def aZw(x y:Int):Int:=if x<y then-1 else if y<x then 1 else 0
theorem aVh(x y:Int)(w:World):Calls prog 126 #[.int .u64 x,.int .u64 y] w fun e w'=>e= .returned (.int .i64 (aZw x y))∧w'=w:=by
 have u40:=run_underlying underlying40;have e1: ∀args w,(callFunc 162 args).run prog w= .ok (.enter 162 args) w:=enters_of func162 (by kernel_rfl) rfl
 go_enter func126,ntmps126
 go_wp2_with (go_at_fn 162;refine (bSf _ _).mono ?_;rintro e w' ⟨rfl,rfl⟩)
 all_goals go_ret
 all_goals (refine ⟨?_,rfl⟩;unfold aZw;(repeat' split)<;>first|rfl|(exfalso;omega))
theorem cJj(x y:Int)(b:Nat)(w:World)(h0:w.cell? ⟨b,0,none⟩=some (.int .i64 x))(h1:w.cell? ⟨b,1,none⟩=some (.int .i64 y)):Calls prog 125 #[.slice (some ⟨b,0,none⟩) 2 2] w fun e w'=>e= .returned (.int .i64 (if x=0 then y else x))∧w'=w:=by
 have u3:=run_underlying underlying3;have u56:=run_underlying underlying56;have z3:=Tryz.sizeOf3;have a3:=Tryz.isAgg3;have mixed:=Tryz.lays169.mixed
 by_cases hx:x=0
 ·
  subst hx
  by_cases hy:y=0
  ·
   subst hy
   go_enter func125,ntmps125
   go_wp2
   refine wp_loop_rounds 3 ?_;rw [rounds_succ]
   go_wp2
   rw [rounds_succ]
   go_wp2
   rw [rounds_succ]
   go_wp2
   go_ret
   exact ⟨rfl,rfl⟩
  ·
   go_enter func125,ntmps125
   go_wp2
   refine wp_loop_rounds 2 ?_;rw [rounds_succ]
   go_wp2
   rw [rounds_succ]
   go_wp2
   go_ret
   exact ⟨rfl,rfl⟩
 ·
  rw [if_neg hx]
  go_enter func125,ntmps125
  go_wp2
  refine wp_loop_rounds 1 ?_;rw [rounds_succ]
  go_wp2
  go_ret
  exact ⟨rfl,rfl⟩
instance:Inhabited bG:=⟨⟨0,0⟩⟩
def aLg(x y:bG):Int:=if aZw x.x0 y.x0=0 then aZw x.x1 y.x1 else aZw x.x0 y.x0
def aBc(x:bG):List Value:=[.int .u64 x.x0,.int .u64 x.x1]
theorem bXy(x y:bG)(w:World):Calls prog 124 #[.agg #[.int .u64 x.x0,.int .u64 x.x1],.agg #[.int .u64 y.x0,.int .u64 y.x1]] w fun e w'=>e= .returned (.int .i64 (aLg x y))∧ ∃q os',w'=grow (w.drewN q) os':=by
 unfold aLg;have mixed:=Tryz.lays169.mixed;have u3:=run_underlying underlying3;have u40:=run_underlying underlying40;have u56:=run_underlying underlying56;have u180:=run_underlying underlying180;have z3:=Tryz.sizeOf3;have a3:=Tryz.isAgg3;have v3:=Tryz.zeroValue3;have z40:=Tryz.sizeOf40;have a40:=Tryz.isAgg40;have z180:=Tryz.sizeOf180;have a180:=Tryz.isAgg180;have e1: ∀args w,(callFunc 126 args).run prog w= .ok (.enter 126 args) w:=enters_of func126 (by kernel_rfl) rfl;have e2: ∀args w,(callFunc 125 args).run prog w= .ok (.enter 125 args) w:=enters_of func125 (by kernel_rfl) rfl
 go_enter func124,ntmps124
 go_wp2_with fail
 obtain ⟨W,hW⟩: ∃W,W=(w.alloc (Obj.cells #[Value.int IntKind.u64 x.x0,Value.int IntKind.u64 x.x1] 180)).alloc (Obj.cells #[Value.int IntKind.u64 y.x0,Value.int IntKind.u64 y.x1] 180):=⟨_,rfl⟩
 rw [←hW];have Hg:Hid (W=grow w #[Obj.cells #[Value.int IntKind.u64 x.x0,Value.int IntKind.u64 x.x1] 180,Obj.cells #[Value.int IntKind.u64 y.x0,Value.int IntKind.u64 y.x1] 180]):=bVl (by rw [hW,alloc_eq_grow,alloc_eq_grow,grow_grow];rfl)
 have k0:W.heap[w.heap.size]? =some (Obj.cells #[Value.int IntKind.u64 x.x0,Value.int IntKind.u64 x.x1] 180):=by
  rw [hW];show ((w.heap.push _).push _)[_]? =_;simp [Array.getElem?_push]
 have k1:W.heap[w.heap.size+1]? =some (Obj.cells #[Value.int IntKind.u64 y.x0,Value.int IntKind.u64 y.x1] 180):=by
  rw [hW];show ((w.heap.push (Obj.cells #[Value.int IntKind.u64 x.x0,Value.int IntKind.u64 x.x1] 180)).push _)[_]? =_;rw [show w.heap.size+1=(w.heap.push (Obj.cells #[Value.int IntKind.u64 x.x0,Value.int IntKind.u64 x.x1] 180)).size from (Array.size_push ..).symm,Array.getElem?_push_size]
 have q0:W.cell? ⟨w.heap.size,0,none⟩=some (.int .u64 x.x0):=by rw [Lib.cell_of_heap k0];rfl
 have q1:W.cell? ⟨w.heap.size,1,none⟩=some (.int .u64 x.x1):=by rw [Lib.cell_of_heap k0];rfl
 have q2:W.cell? ⟨w.heap.size+1,0,none⟩=some (.int .u64 y.x0):=by rw [Lib.cell_of_heap k1];rfl
 have q3:W.cell? ⟨w.heap.size+1,1,none⟩=some (.int .u64 y.x1):=by rw [Lib.cell_of_heap k1];rfl
 clear hW k0 k1
 go_still_tail 10,(by kernel_rfl)
 still_call (aVh _ _ _)
 repeat still_step
 still_call (aVh _ _ _)
 repeat still_step
 refine wpStill_nil ?_
 change wpList _ _ _ _ _ W.drew
 have Hd:Hid (W.drew=grow (w.drewN 1) #[Obj.cells #[Value.int IntKind.u64 x.x0,Value.int IntKind.u64 x.x1] 180,Obj.cells #[Value.int IntKind.u64 y.x0,Value.int IntKind.u64 y.x1] 180]):=by
  have:=Hg.out;exact bVl (by rw [this];rfl)
 generalize W.drew=w2 at Hd⊢;clear Hg q0 q1 q2 q3
 go_wp2_with fail
 refine (cJj (aZw x.x0 y.x0) (aZw x.x1 y.x1) w2.heap.size _ ?_ ?_).mono ?_
 · rw [World.cell?_alloc_new];rfl
 · rw [World.cell?_alloc_new];rfl
 rintro e w' ⟨rfl,rfl⟩
 go_wp2
 all_goals go_ret
 all_goals exact ⟨rfl,1,_,by rw [Hd.out,alloc_eq_grow,grow_grow]⟩
theorem bL3(blk off size:Nat)(w:World):CmpLays prog 124 #[] aBc 2 aLg blk off size w:=fun _ _ _ _ x y=>bXy x y _
theorem aRe(x y:bG):ltOf aLg x y=decide (x.x0<y.x0∨(x.x0=y.x0∧x.x1<y.x1)):=by
 unfold ltOf;rw [decide_eq_decide];unfold aLg aZw
 (repeat' split)<;>omega
theorem bQb:SWO (ltOf aLg) where
 irrefl x:=by rw [aRe];simp
 trans x y z h1 h2:=by rw [aRe] at *; simp only [decide_eq_true_eq] at *; omega
 ntrans x y z h1 h2:=by rw [aRe] at *; simp only [decide_eq_false_iff_not] at *; omega
theorem bQi(x y:bG)(h1:ltOf aLg x y=false)(h2:ltOf aLg y x=false):x=y:=by
 rw [aRe] at h1 h2;simp only [decide_eq_false_iff_not] at h1 h2;cases x;cases y;simp only at h1 h2;congr<;>omega
def aBt(x:List bG):Option (List bG):=bif decide (x.length<4611686018427387904) then some (x.mergeSort fun a b=> !(ltOf aLg b a)) else none
theorem aAl: ∀(x:List bG),x.flatMap iY=(x.flatMap aBc).map AV.v
 |[]=>rfl
 |a::x=>by rw [List.flatMap_cons,List.flatMap_cons,List.map_append,←aAl x];rfl
theorem aX3: ∀(x:List bG) (t:Nat),t<x.length*2→(x.flatMap aBc)[t]? =some ((aBc x.toArray[t/2]!)[t%2]!)
 |[],t,h=>by simp at h
 |a::x,0,_=>rfl
 |a::x,1,_=>rfl
 |a::x,t+2,h=>by
  have:=aX3 x t (by simp at h;omega);rw [List.flatMap_cons];show ([Value.int .u64 a.x0,Value.int .u64 a.x1]++x.flatMap aBc)[t+2]? =_;rw [List.getElem?_append_right (by simp)];show (x.flatMap aBc)[t]? =_;rw [this,show (t+2)/2=t/2+1 by omega,show (t+2)%2=t%2 by omega];simp
theorem aIo(x:List bG):(x.flatMap aBc).length=x.length*2:=by
 induction x with
 |nil=>rfl
 |cons a x ih=>rw [List.flatMap_cons,List.length_append,ih];simp [aBc];omega
theorem bBt{x r:List bG}(hm:aBt x=some r){H:aH}{i0:Nat}(he:H.ent i0= .cells 2 (x.flatMap iY) 0):eK prog 123 [.own i0 0 x.length,.clo (.func 124) [] []] H (.tup []) (H.put i0 (.cells 2 (r.flatMap iY) 0)):=by
 intro X w0 w O vs hs hv;obtain ⟨hsz,hv⟩:=hv;have h0:=hv 0 _ rfl;have h1:=hv 1 _ rfl;obtain ⟨l⟩:=vs
 match l,hsz with
 |[V,C],_=>
 simp at h0 h1;unfold aBt at hm
 cases hlen:decide (x.length<4611686018427387904) with
 |false=>rw [hlen] at hm;cases hm
 |true=>
 rw [hlen] at hm;cases hm;rw [decide_eq_true_eq] at hlen;have hrl:(x.mergeSort fun a b=> !(ltOf aLg b a)).length=x.length:=List.length_mergeSort ..;generalize hr:(x.mergeSort fun a b=> !(ltOf aLg b a))=r at hrl
 obtain rfl:C= .func (.func 124) #[] #[]:=by
  cases h1 with
  |clo fn f c fs cs hl hx hl' hx'=>
   rw [Array.eq_empty_of_size_eq_zero hl,Array.eq_empty_of_size_eq_zero hl']
 have bWv: ∀(w':World),x=[]→w'=w→ ∃v O',(Ending.returned (.tuple #[]):Ending)= .returned v∧Sim X w0 w' (H.put i0 (.cells 2 (r.flatMap iY) 0)) O'∧fQ w (Mut X H O) O w' (Mut X (H.put i0 (.cells 2 (r.flatMap iY) 0)) O') O'∧RV w' (Mut X (H.put i0 (.cells 2 (r.flatMap iY) 0)) O') O' v (.tup []):=fun w' hx hw=>by
  subst hx hw;have hr0:r=[]:=List.eq_nil_of_length_eq_zero hrl;subst hr0
  have hH:H.put i0 (.cells 2 (([]:List bG).flatMap iY) 0)=H:=by
   cases H with
   |mk e n=>
    simp only [aH.put];congr 1;funext j;unfold upd;split
    · rename_i h;rw [h];exact he.symm
    · rfl
  rw [hH];exact ⟨_,O,rfl,hs,fQ.refl _ _ _,.tup _ _ rfl fun k a h=>by cases h⟩
 have hent:=hs.ent i0;rw [he] at hent
 by_cases hx0:x=[]
 ·
  obtain ⟨p,cap,rfl⟩: ∃p cap,V= .slice p 0 cap:=by
   subst hx0
   rcases hent with ⟨q,_,_⟩|⟨o,q,_⟩<;>cases h0 with
   |owndead _ _ _ _ hd _=>rw [q] at hd;cases hd
   |own id off len cap o' h hl hss=>exact ⟨_,_,rfl⟩
   |ownvirt a _ _ h=>exact ⟨_,_,rfl⟩
   |ownz a _ _ o' h=>exact ⟨_,_,rfl⟩
  refine (AnyF.slices_SortFunc_none (P:=prog) (ρ:=Tryz.sortP_ren) { Tryz.sortP with } p cap _ w).mono ?_;rintro e w' ⟨rfl,hw⟩;exact bWv w' hx0 hw
 rcases hent with ⟨q,q1,_⟩|⟨o,q,q2,q3,q4,q5,c,el,fr,q6,q7,q8,q9⟩
 ·
  exfalso
  have:=congrArg List.length q1;rw [aAl,List.length_map,aIo] at this;exact hx0 (List.eq_nil_of_length_eq_zero (by simp only [List.length_nil] at this;omega))
 have hxl:x.length≠0:=fun h=>hx0 (List.eq_nil_of_length_eq_zero h)
 obtain ⟨cap,rfl⟩: ∃cap,V= .slice (some ⟨o.b,o.base,none⟩) x.length cap:=by
  generalize hn:x.length=n at h0 hxl
  cases h0 with
  |owndead _ _ _ _ hd _=>rw [q] at hd;cases hd
  |own id off len cap o' h hl hss=>rw [q] at h;cases h;exact ⟨cap,rfl⟩
  |ownvirt a _ _ h=>exact absurd rfl hxl
  |ownz a _ _ o' h=>exact absurd rfl hxl
 have hblk:o.b<w.heap.size:=(Array.getElem?_eq_some_iff.1 q6).1
 have hcell: ∀t,t<x.length*2→c[o.base+t]? =some ((aBc x.toArray[t/2]!)[t%2]!):=fun t ht=>by
  have e1:(x.flatMap iY)[t]? =some (.v ((aBc x.toArray[t/2]!)[t%2]!)):=by rw [aAl,List.getElem?_map,aX3 x t ht];rfl
  have e2:=(q9 t _ e1).v_inv;rw [aAl,List.length_map,aIo] at q5;have hlt:o.base+t<c.size:=by omega
  rw [Array.getElem?_eq_getElem hlt];rw [←e2];simp [Array.getD,hlt]
 have hH:HoldsK aBc 2 w o.b o.base x.toArray:=by
  intro j hj;have hj':j<x.length*2:=by simpa [flatK] using hj
  have e1:=get_flatK aBc 2 x.toArray j (by simpa using hj');refine ⟨?_,?_⟩
  · rw [Lib.cell_of_heap q6];show c[o.base+j]? =_;rw [hcell j hj',e1];rfl
  ·
   have:=q8 (o.base+j) (by have:=(Array.getElem?_eq_some_iff.1 (hcell j hj')).1;omega);unfold World.frozen?;rw [q6]
   simpa using this
 have main:=AnyQ.slices_SortFunc_total (P:=prog) (ρ:=Tryz.sortP_ren) Tryz.sortP 2 Tryz.isAgg180 Tryz.sizeOf180 aBc (fun _=>rfl) (fun y v hv=>by simp [aBc] at hv;rcases hv with rfl|rfl<;>rfl) aLg bQb 124 #[] o.b o.base cap x.toArray w
  (enters_of func124 (by kernel_rfl) rfl) (bL3 _ _ _ _) hH hblk (by simpa using hlen) bQi
 refine main.mono ?_;rintro e w' ⟨rfl,nn,os,hw⟩;rw [List.toList_toArray,hr] at hw;have hflat: ∀t,t<r.length*2→(flatK aBc 2 r.toArray)[t]! =(aBc r.toArray[t/2]!)[t%2]! :=fun t ht=>get_flatK aBc 2 r.toArray t (by simpa using ht);have hfs:(flatK aBc 2 r.toArray).size=r.length*2:=by simp [flatK]
 have heap':w'.heap=(mapBlock w o.b (putCells id o.base (flatK aBc 2 r.toArray))).heap++os:=by rw [hw];rfl
 have hmb: ∀b,(mapBlock w o.b (putCells id o.base (flatK aBc 2 r.toArray))).heap[b]? =if b=o.b then some (.cells (putCells id o.base (flatK aBc 2 r.toArray) c) el fr) else w.heap[b]? :=fun b=>by
  unfold mapBlock;simp only [Array.getElem?_modify]
  by_cases hb:o.b=b
  · subst hb;rw [if_pos rfl,if_pos rfl,q6];rfl
  · rw [if_neg hb,if_neg (fun h=>hb h.symm)]
 have hms:(mapBlock w o.b (putCells id o.base (flatK aBc 2 r.toArray))).heap.size=w.heap.size:=by simp [mapBlock]
 have hold: ∀b,b<w.heap.size→w'.heap[b]? =if b=o.b then some (.cells (putCells id o.base (flatK aBc 2 r.toArray) c) el fr) else w.heap[b]? :=fun b hb=>by
  rw [heap',Array.getElem?_append_left (by rw [hms];exact hb),hmb]
 obtain ⟨k1,k2⟩:=hs.rewrite (w':=w') (ys:=r.flatMap aBc) he q (by rw [aIo,aAl,List.length_map,aIo,hrl])
  ⟨by rw [hw];rfl,by rw [hw];rfl,by rw [hw];rfl,by rw [heap',Array.size_append,hms];omega,fun b hb=>by rw [hold b om,if_neg om]⟩
  (fun b hb hne=>by rw [hold b hb,if_neg hne])
  (fun c2 e2 fr2 hc2=>by
   rw [q6] at hc2;cases hc2;refine ⟨_,by rw [hold o.b hblk,if_pos rfl],by simp [putCells],fun j hj=>?_,fun k y hk=>?_⟩
   ·
    simp only [putCells,Array.getElem?_mapIdx]
    cases c[j]? with
    |none=>rfl
    |some v=>simp;omega
   ·
    have hkl:k<r.length*2:=by have:=(List.getElem?_eq_some_iff.1 hk).1;rw [aIo] at this;exact this
    rw [aX3 r k hkl] at hk;cases hk;have hlt:o.base+k<c.size:=(Array.getElem?_eq_some_iff.1 (hcell k (by rw [←hrl];exact hkl))).1;rw [←hflat k hkl]
    have e3:(putCells id o.base (flatK aBc 2 r.toArray) c)[o.base+k]? =some ((flatK aBc 2 r.toArray)[k]!):=by
     unfold putCells;rw [Array.getElem?_mapIdx,Array.getElem?_eq_getElem hlt,Option.map_some,if_pos ⟨by omega,by rw [hfs];omega⟩,show o.base+k-o.base=k by omega];rfl
    rw [Array.getD_eq_getD_getElem?,e3];rfl)
 rw [←aAl] at k1 k2;exact ⟨_,O,rfl,k1,k2,.tup _ _ rfl fun k a h=>by cases h⟩
end Go.Proofs.YtkdohhmacfoolaaGreatDoor
