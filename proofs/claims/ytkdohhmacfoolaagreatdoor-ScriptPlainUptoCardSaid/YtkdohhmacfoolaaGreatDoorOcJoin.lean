/- Facts. No condition. -/
import Derived.Lib.SlBytesConst
import Derived.Test.YtkdohhmacfoolaaGreatDoorOcAmK
import Derived.Shelf.Strings.Builder2
set_option linter.unusedSimpArgs false
set_option linter.unusedVariables false
set_option maxRecDepth 4000
namespace Go.AM
open Go.Proofs.Tryz Go Go.RowKit
attribute [local semireducible] aV KN aB7 tL AIn AWp cC
variable {P:Program}{B:Nat→Prop}
theorem St.Le.virt{s:St}(id sz:Nat)(hf:s.H.isFresh id=true):s.Le B ⟨s.n,s.f,s.H.put id (.cells sz [] 0)⟩:=by
 intro C ac w _ hr;obtain ⟨hd,O,hs,hv,ht⟩:=hr;obtain ⟨O',h1,h2,h3⟩:=hs.virt id sz (aG.isFresh_eq hf);exact ⟨hd,O',h1,⟨hv.1,fun j=>(hv.2 j).mono h2⟩,ht.trans h2⟩
def bWa:Ent→Prop
  | .cells _ xs l=>l≤xs.length∧ ∀a,a∈xs→Data a
  |_=>True
end Go.AM
set_option maxRecDepth 20000
set_option maxHeartbeats 4000000
namespace Go.Proofs.YtkdohhmacfoolaaGreatDoor
open Go.Proofs.Tryz Go Go.AM
theorem xS.same{B:Nat→Prop}{e:Nat→Ent}{N N':Nat}(hD: ∀id,bWa (e id)):xS B ⟨e,N⟩ ⟨e,N'⟩ id:=by
 refine ⟨fun i=>?_,fun _ _ _ _ h=>h,fun _ _=>⟨rfl,fun h=>h⟩⟩;have hd:=hD i;show jJ _ _ _ i (e i)
 cases he:e i with
 |fresh=>trivial
 |dead=>trivial
 |cells s ys l=>
  rw [he] at hd;exact yO (H:=⟨e,N⟩) he (Nat.le_refl _) hd.1 hd.2
 |iter s p=>exact he
 |hid s p=>exact he
open Go.Proofs.Tryz Go Go.RowKit Go.AM
set_option maxRecDepth 100000
set_option maxHeartbeats 1000000
theorem aXe(n:Nat)(h:n<100)(w:World):Calls prog 177 #[.int .u64 n,.int .i64 10] w fun e w'=>e= .returned (.string ⟨(Lib.decDigits n).toArray⟩)∧w'=w:=by
 have mixed:=Tryz.lays169.mixed;have u3:=run_underlying underlying3;have u40:=run_underlying underlying40;have e1: ∀args w,(callFunc 187 args).run prog w= .ok (.enter 187 args) w:=enters_of func187 (by kernel_rfl) rfl
 go_enter func177,ntmps177
 go_wp2_with fail
 refine (Tryz.internal_strconv_small n h w).mono ?_;rintro e w' ⟨rfl,rfl⟩
 go_wp2
 go_ret
 exact ⟨rfl,rfl⟩
theorem bFd(n:Nat)(h:n<100)(w:World):Calls prog 144 #[.int .u64 n,.int .i64 10] w fun e w'=>e= .returned (.string ⟨(Lib.decDigits n).toArray⟩)∧w'=w:=by
 have mixed:=Tryz.lays169.mixed;have u3:=run_underlying underlying3;have u40:=run_underlying underlying40;have e1: ∀args w,(callFunc 177 args).run prog w= .ok (.enter 177 args) w:=enters_of func177 (by kernel_rfl) rfl
 go_enter func144,ntmps144
 go_wp2_with fail
 refine (aXe n h w).mono ?_;rintro e w' ⟨rfl,rfl⟩
 go_wp2
 go_ret
 exact ⟨rfl,rfl⟩
def aXf(n base:Int):Option ByteArray:=bif decide (0≤n)&&(decide (n<100)&&decide (base=10)) then some ⟨(Lib.decDigits n.toNat).toArray⟩ else none
theorem bMs{n base:Int}{r:ByteArray}(hm:aXf n base=some r):bN prog 144 [.v (.int .u64 n),.v (.int .i64 base)] (.v (.string r)):=by
 unfold aXf at hm
 cases h:(decide (0≤n)&&(decide (n<100)&&decide (base=10))) with
 |false=>rw [h] at hm;cases hm
 |true=>
  rw [h] at hm;cases hm;simp only [Bool.and_eq_true,decide_eq_true_eq] at h;obtain ⟨h0,h1,rfl⟩:=h;obtain ⟨k,rfl⟩:=Int.eq_ofNat_of_zero_le h0;exact bN.of_val fun w=>bFd k om w
end Go.Proofs.YtkdohhmacfoolaaGreatDoor
namespace Go.Proofs
open Go.Shelf
def Tryz.lays165_ren:Go.Shelf.Ren:=⟨fun|165=>178|240=>117|241=>224|276=>152|277=>249|n=>n,fun|70=>131|3=>3|0=>0|4=>4|9=>9|20=>20|72=>133|37=>91|164=>225|5=>5|n=>n,fun|n=>n⟩
theorem Tryz.lays165:Go.Proofs.Lays.n165 prog Tryz.lays165_ren:= {
 mixed:=by kernel_rfl
 f165:=Tryz.func178.trans (congrArg some (by kernel_rfl))
 f240:=Tryz.func117.trans (congrArg some (by kernel_rfl))
 f241:=Tryz.func224.trans (congrArg some (by kernel_rfl))
 f276:=Tryz.func152.trans (congrArg some (by kernel_rfl))
 f277:=Tryz.func249.trans (congrArg some (by kernel_rfl))
 t0:=underlying0
 a0:=Tryz.isAgg0
 z0:=Tryz.sizeOf0
 v0:=Tryz.zeroValue0
 t3:=underlying3
 a3:=Tryz.isAgg3
 z3:=Tryz.sizeOf3
 v3:=Tryz.zeroValue3
 t4:=underlying4
 a4:=Tryz.isAgg4
 z4:=Tryz.sizeOf4
 v4:=Tryz.zeroValue4
 t9:=underlying9
 a9:=Tryz.isAgg9
 z9:=Tryz.sizeOf9
 v9:=Tryz.zeroValue9
 t20:=underlying20
 a20:=Tryz.isAgg20
 z20:=Tryz.sizeOf20
 v20:=Tryz.zeroValue20
 t37:=underlying91
 a37:=Tryz.isAgg91
 z37:=Tryz.sizeOf91
 v37:=Tryz.zeroValue91
 t70:=underlying131
 a70:=Tryz.isAgg131
 z70:=Tryz.sizeOf131
 v70:=Tryz.zeroValue131
 t72:=underlying133
 a72:=Tryz.isAgg133
 z72:=Tryz.sizeOf133
 v72:=Tryz.zeroValue133
 t164:=underlying225
 a164:=Tryz.isAgg225
 z164:=Tryz.sizeOf225
 v164:=Tryz.zeroValue225 }
theorem Tryz.Builder_Extra_165:Builder.Extra prog Tryz.lays165_ren:= {
 sizeBuilder:=by kernel_rfl
 liesBuilder:=by kernel_rfl
 t5:=underlying5
 a5:=Tryz.isAgg5
 z5:=Tryz.sizeOf5
 v5:=Tryz.zeroValue5
 infoByte:=by kernel_rfl
 cellsByte:=by kernel_rfl
 sizeByte:=by kernel_rfl
 neB5:=by decide }
open Go.RowKit in
theorem Tryz.Builder_Grow_fresh(B b n:Nat)(w:World)(hB:B≤b)(hbk:w.heap[b]? =some (.cells #[.pointer none,.slice none 0 0] 133 (0,0)))(hBw:B≤w.heap.size)(hn:n≤281474976710656):
 Calls prog 178 #[.pointer (some ⟨b,0,none⟩),.int .i64 n] w fun e w'=>e= .returned (.tuple #[])∧(Lib.BuilderAt 133 5 B b (.pointer (some ⟨b,0,none⟩)) [] w'∧Below B w w'):=Any.Builder_Grow_fresh Tryz.lays165 Tryz.Builder_Extra_165 B b n w hB hbk hBw hn
end Go.Proofs
namespace Go.Proofs.YtkdohhmacfoolaaGreatDoor
open Go.Proofs.Tryz Go Go.RowKit Go.Lib Go.AM
def aDz(sep:ByteArray):List ByteArray→List UInt8
  |[]=>[]
  |x::xs=>sep.data.toList++x.data.toList++aDz sep xs
def joinL(sep:ByteArray):List ByteArray→List UInt8
  |[]=>[]
  |x::xs=>x.data.toList++aDz sep xs
theorem bB5(l:List ByteArray):l.flatMap lR=l.map fun s=> .v (.string s):=by
 induction l with
 |nil=>rfl
 |cons x xs ih=>rw [List.flatMap_cons,ih];rfl
theorem bA4{w:World}{M:Nat→Nat→Prop}{O:Nat→OSt}{l:List ByteArray}{Va:Option Addr}{Vc n:Nat}(h:RV w M O (.slice Va n Vc) (.sl (l.flatMap lR) n false)){k:Nat}(hk:k<l.length):
 ∃vb voff,Va=some ⟨vb,voff,none⟩∧n≤Vc∧ ∀(j:Nat) (s:ByteArray),l[j]? =some s→w.cell? ⟨vb,voff+j,none⟩=some (.string s):=by
 rw [bB5] at h;generalize hx:(l.map fun s=>AV.v (.string s))=xs at h;have hxl:xs.length=l.length:=by rw [←hx,List.length_map]
 cases h with
 |sl b off cap _ _ _ cs hc hr hl hf=>
  refine ⟨b,off,rfl,hl,fun j s hj=>?_⟩;have h1:=hr j (.v (.string s)) (by rw [←hx,List.getElem?_map,hj];rfl);rw [←h1.v_inv];exact (hc j (by have:=(List.getElem?_eq_some_iff.1 hj).1;omega)).1
 |slnil a _=>simp at hxl;omega
def szs:List ByteArray→Nat
  |[]=>0
  |x::xs=>x.size+szs xs
theorem aNz(a b:List ByteArray):szs (a++b)=szs a+szs b:=by
 induction a with
 |nil=>simp [szs]
 |cons x a ih=>simp [szs,ih];omega
theorem aVe{l:List ByteArray}{k:Nat}(h:k<l.length):szs (l.take (k+1))=szs (l.take k)+l[k].size:=by
 have e:l.take (k+1)=l.take k++[l[k]]:=by rw [List.take_add_one,List.getElem?_eq_getElem h];rfl
 rw [e,aNz];simp [szs]
theorem bCx(xs:List ByteArray):(aDz ⟨#[32]⟩ xs).length=szs xs+xs.length:=by
 induction xs with
 |nil=>rfl
 |cons x xs ih=>
  have hz:x.size=x.data.toList.length:=rfl;simp only [aDz,szs,List.length_append,List.length_cons,ih,List.length_nil];omega
theorem bNx{l:List ByteArray}(k:Nat):szs (l.take k)≤szs l:=by
 have:=aNz (l.take k) (l.drop k);rw [List.take_append_drop] at this;omega
theorem aRz(sep:ByteArray)(a b:List ByteArray):aDz sep (a++b)=aDz sep a++aDz sep b:=by
 induction a with
 |nil=>rfl
 |cons x a ih=>simp [aDz,ih]
theorem aMx{sep:ByteArray}{l:List ByteArray}{k:Nat}(h:k+1<l.length):joinL sep (l.take (k+1))++sep.data.toList++l[k+1].data.toList=joinL sep (l.take (k+1+1)):=by
 cases l with
 |nil=>simp at h
 |cons x xs=>
  have hk:k<xs.length:=by simpa using h
  have e:xs.take (k+1)=xs.take k++[xs[k]]:=by rw [List.take_add_one,List.getElem?_eq_getElem hk];rfl
  simp only [List.take_succ_cons,joinL,List.getElem_cons_succ,e,aRz,aDz,List.append_assoc,List.append_nil]
theorem Bld.of{B b:Nat}{p:Value}{w:World}{l:List UInt8}(h:Lib.BuilderAt 133 5 B b p (byteCells l) w): ∃g,Bld B b p g l w:=by
 obtain ⟨hB,v,hb,hown,hne⟩:=h;exact ⟨_,v,hB,hb,by rw [byteCells_length] at hown;exact hown,rfl,hne⟩
theorem aQ4{l:List ByteArray}(h:0<l.length):(joinL ⟨#[32]⟩ l).length=szs l+(l.length-1):=by
 cases l with
 |nil=>simp at h
 |cons x xs=>
  have hz:x.size=x.data.toList.length:=rfl;simp only [joinL,szs,List.length_append,bCx,List.length_cons];omega
set_option maxRecDepth 100000
set_option maxHeartbeats 2000000
theorem bCy{ls:List ByteArray}(h2:2≤ls.length)(hn:ls.length≤100000)(ht:(joinL ⟨#[32]⟩ ls).length≤1000000)
 {w:World} {X:Nat→Nat→Prop} {V:Value} (hV:RV w X fZ V (.sl (ls.flatMap lR) ls.length false)):
 Calls prog 145 #[V,.string ⟨#[32]⟩] w fun e w'=>e= .returned (.string ⟨(joinL ⟨#[32]⟩ ls).toArray⟩)∧Below w.heap.size w w':=by
 have mixed:=Tryz.lays169.mixed;have u3:=run_underlying underlying3;obtain ⟨Va,Vc,rfl⟩:=aCx hV;obtain ⟨vb,voff,rfl,hcap,hc⟩:=bA4 hV (k:=0) om;have n0:ls.length≠0:=by omega
 have n1:ls.length≠1:=by omega
 have hq: ¬(9223372036854775807:Int)/((ls.length:Int)-1)≤1:=by
  have:(2:Int)≤9223372036854775807/((ls.length:Int)-1):=Int.le_ediv_of_mul_le om om;omega
 have HC:=mR hc;clear hc
 go_enter func145,ntmps145
 go_wp2
 have hj:=aQ4 (l:=ls) om;have hsz: ∀k,szs (ls.take k)≤1000000:=fun k=>Nat.le_trans (bNx k) om;have Hsz:=mR hsz;clear hsz
 go_loop [5,41] (fun n i=> ∃k:Nat,k≤ls.length∧i= .int .i64 k∧n= .int .i64 ((ls.length:Int)-1+szs (ls.take k))) (fun _ i=>ls.length-(Lib.intOf i).toNat)
 case atStart=>exact ⟨0,Nat.zero_le _,rfl,by simp [szs]⟩
 case round=>
  obtain ⟨k,hk,rfl,rfl⟩:=hrel
  by_cases hlt:k<ls.length
  ·
   have hcell:=HC.out k ls[k] (List.getElem?_eq_getElem hlt);have hz:=aVe hlt;have h5:=Hsz.out k;have h6:=Hsz.out (k+1);rw [hz] at h6
   go_wp2
   refine ⟨⟨k+1,hlt,rfl,by rw [hz];simp;omega⟩,by simp [Lib.intOf];omega⟩
  ·
   have hke:k=ls.length:=by omega
   subst hke
   go_wp2_with fail
   have hcells: ∀w',Below w.heap.size w w'→ ∀(j:Nat) (s:ByteArray),ls[j]? =some s→w'.cell? ⟨vb,voff+j,none⟩=some (.string s):=fun w' hb j s hj=>by
    have h1:=HC.out j s hj;rw [hb.cell (p:=⟨vb,voff+j,none⟩) (block_lt_of_cell h1)];exact h1
   have Hcells:=mR hcells;clear hcells;have e:((ls.length:Int)-1+(szs ls:Int))=((ls.length-1+szs ls:Nat):Int):=by omega
   rw [e];refine (Tryz.Builder_Grow_fresh w.heap.size w.heap.size (ls.length-1+szs ls) _ (Nat.le_refl _) (heap_alloc_new w _) (by simp) om).mono ?_;rintro e' w1 ⟨rfl,hA,hb⟩;have hb1:Below w.heap.size w w1:=((Below.refl w.heap.size w).alloc (Nat.le_refl _) _).trans hb;obtain ⟨g,hB⟩:=Bld.of (l:=[]) hA;have HB:=mR hB;have Hb1:=mR hb1;clear hA hb hB hb1;have hc0:=Hcells.out w1 Hb1.out 0 ls[0] (List.getElem?_eq_getElem om);rw [Nat.add_zero] at hc0
   have l0:ls[0].size≤1000000:=by
    have h1:=Hsz.out (0+1);rw [aVe (l:=ls) (k:=0) om] at h1;omega
   go_wp2_with fail
   refine (aHh (.inr rfl) HB.out ls[0] (by simp;omega) Hb1.out.size).mono ?_;rintro e' w2 ⟨rfl,g2,hB2,hb2,_,_⟩
   have hj0:([]:List UInt8)++ls[0].data.toList=joinL ⟨#[32]⟩ (ls.take (0+1)):=by
    cases ls with
    |nil=>simp at h2
    |cons x xs=>simp [joinL,aDz]
   rw [hj0] at hB2;have HB2:=mR hB2;have Hb2:=mR (Hb1.out.trans hb2);clear hB2 hb2
   go_wp2
   go_loopw [65] (fun i wr=> ∃(k:Nat) (g:Option Nat),k+1≤ls.length∧i= .int .i64 k∧Hid (Bld w.heap.size w.heap.size (.pointer (some ⟨w.heap.size,0,none⟩)) g (joinL ⟨#[32]⟩ (ls.take (k+1))) wr)∧Hid (Below w.heap.size w wr)) (fun i _=>ls.length-(Lib.intOf i).toNat)
   case atStart=>exact ⟨0,g2,by omega,rfl,HB2,Hb2⟩
   case round=>
    obtain ⟨k,g,hk,rfl,HB,HW⟩:=hrel
    have hlb: ∀j,j≤ls.length→0<j→(joinL ⟨#[32]⟩ (ls.take j)).length≤1200000:=fun j h1 h2=>by
     have:=aQ4 (l:=ls.take j) (by rw [List.length_take];omega);rw [List.length_take] at this;have:=Hsz.out j;omega
    by_cases hlt:k+1<ls.length
    ·
     have hcell:=Hcells.out wr HW.out (k+1) ls[k+1] (List.getElem?_eq_getElem hlt);rw [show voff+(k+1)=voff+1+k by omega] at hcell;have b1:=hlb (k+1) hk om;have b2:=hlb (k+1+1) hlt om;rw [←aMx hlt] at b2;simp only [List.length_append] at b2;have hz:ls[k+1].size=ls[k+1].data.toList.length:=rfl;have hlt':(k:Int)<(ls.length:Int)-1:=by omega
     clear hlb
     go_wp2_with fail
     refine (aHh (.inr rfl) HB.out ⟨#[32]⟩ (by show _+1≤_;omega) HW.out.size).mono ?_;rintro e' w3 ⟨rfl,g3,hB3,hb3,_,_⟩;have HB3:=mR hB3;have HW3:=mR (HW.out.trans hb3);clear hB3 hb3
     go_wp2_with fail
     refine (aHh (.inr rfl) HB3.out ls[k+1] (by simp only [List.length_append];omega) HW3.out.size).mono ?_;rintro e' w4 ⟨rfl,g4,hB4,hb4,_,_⟩;have hB4':=hB4;rw [show ([32]:List UInt8)=(⟨#[32]⟩:ByteArray).data.toList from rfl,aMx hlt] at hB4';have HB4:=mR hB4';have HW4:=mR (HW3.out.trans hb4);clear hB4 hB4' hb4
     go_wp2
     refine ⟨⟨k+1,g4,hlt,rfl,HB4,HW4⟩,by simp [Lib.intOf];omega⟩
    ·
     have hke:k=ls.length-1:=by omega
     have hlt': ¬(k:Int)<(ls.length:Int)-1:=by omega
     have et:ls.take (k+1)=ls:=List.take_of_length_le om;rw [et] at HB
     go_wp2_with fail
     refine (Tryz.Builder_String_any w.heap.size w.heap.size (joinL ⟨#[32]⟩ ls) wr (HB.out.is (.inr rfl)) HW.out.size).mono ?_;rintro e' w' ⟨rfl,hb⟩;have Hb:=mR hb;clear hb
     go_wp2
     go_ret
     exact ⟨rfl,HW.out.trans Hb.out⟩
theorem aY1{ls:List ByteArray}(h2:ls.length<2){w:World}{X:Nat→Nat→Prop}{V:Value}(hV:RV w X fZ V (.sl (ls.flatMap lR) ls.length false)):
 Calls prog 145 #[V,.string ⟨#[32]⟩] w fun e w'=>e= .returned (.string ⟨(joinL ⟨#[32]⟩ ls).toArray⟩)∧Below w.heap.size w w':=by
 have mixed:=Tryz.lays169.mixed;have u3:=run_underlying underlying3;obtain ⟨Va,Vc,rfl⟩:=aCx hV
 cases ls with
 |nil=>
  go_enter func145,ntmps145
  go_wp2
  go_ret
  exact ⟨rfl,Below.refl _ _⟩
 |cons x xs=>
  have hx:xs=[]:=by
   cases xs with
   |nil=>rfl
   |cons y ys=>simp only [List.length_cons] at h2;omega
  subst hx;obtain ⟨vb,voff,rfl,hcap,hc⟩:=bA4 hV (k:=0) (by simp);have c0:=hc 0 x rfl;rw [Nat.add_zero] at c0;clear hc;have e:(⟨(joinL ⟨#[32]⟩ [x]).toArray⟩:ByteArray)=x:=by simp [joinL,aDz]
  rw [e]
  go_enter func145,ntmps145
  go_wp2
  go_ret
  exact ⟨rfl,Below.refl _ _⟩
def aJy(ls:List ByteArray)(sep:ByteArray):Option ByteArray:=bif decide (sep=⟨#[32]⟩)&&(decide (ls.length≤100000)&&decide ((joinL ⟨#[32]⟩ ls).length≤1000000)) then some ⟨(joinL ⟨#[32]⟩ ls).toArray⟩ else none
theorem bDh{ls:List ByteArray}{sep r:ByteArray}(hm:aJy ls sep=some r):bN prog 145 [.sl (ls.flatMap lR) ls.length false,.v (.string sep)] (.v (.string r)):=by
 unfold aJy at hm
 cases h:(decide (sep=⟨#[32]⟩)&&(decide (ls.length≤100000)&&decide ((joinL ⟨#[32]⟩ ls).length≤1000000))) with
 |false=>rw [h] at hm;cases hm
 |true=>
  rw [h] at hm;cases hm;simp only [Bool.and_eq_true,decide_eq_true_eq] at h;obtain ⟨rfl,h1,h2⟩:=h;intro w X vs hX hv;obtain ⟨hsz,hv⟩:=hv;have q0:=hv 0 _ rfl;have q1:=(hv 1 _ rfl).v_inv;obtain ⟨V,W,rfl⟩:=bIa hsz;simp at q0 q1;subst q1
  have fin:Calls prog 145 #[V,.string ⟨#[32]⟩] w fun e w'=>e= .returned (.string ⟨(joinL ⟨#[32]⟩ ls).toArray⟩)∧Below w.heap.size w w':=by
   by_cases c:2≤ls.length
   · exact bCy c h1 h2 q0
   · exact aY1 om q0
  refine fin.mono ?_;rintro e w' ⟨rfl,hb⟩;exact ⟨_,rfl,.v _,hb⟩
end Go.Proofs.YtkdohhmacfoolaaGreatDoor
