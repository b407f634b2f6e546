/- Facts. No condition. -/
import Derived.Test.YtkdohhmacfoolaaGreatDoorOcIxR
set_option linter.unusedVariables false
set_option linter.unusedSimpArgs false
set_option maxRecDepth 20000
set_option maxHeartbeats 1000000
namespace Go.Proofs.YtkdohhmacfoolaaGreatDoor
open Go Go.AM Go.Pl Go.Pt Go.Ix
theorem aUh{x:Int} : ∀ {A:List Int},(∀z,z∈A→z<x)→tK x A=A++[x]
 |[],_=>rfl
 |y::A,h=>by
  unfold tK;rw [if_pos (h y (List.mem_cons_self ..)),aUh fun z hz=>h z (List.mem_cons_of_mem _ hz)];rfl
theorem aQ3{x y:Int}(hxy:x<y): ∀ {A:List Int},tK x (A++[y])=tK x A++[y]
 |[]=>by
  show (if y<x then y::tK x [] else x::y::[])=_;rw [if_neg om];rfl
 |z::A=>by
  show tK x (z::(A++[y]))=_;unfold tK;split
  · rw [aQ3 hxy];rfl
  · rfl
theorem aWs(x y:Int):lQ x y=some (decide (x<y)):=by
 have h: ∀z:Int,gD z=some false:=fun z=>by unfold gD;simp
 unfold lQ;rw [h x,aA,gf' (by rfl),aA];simp
theorem set_mid(A B:List Int)(x y:Int):(A++x::B).set A.length y=A++y::B:=by
 rw [List.set_append_right _ _ (Nat.le_refl _),Nat.sub_self];rfl
theorem aRm(A B:List Int)(x:Int):(A++x::B)[A.length]? =some x:=by
 rw [List.getElem?_append_right (Nat.le_refl _),Nat.sub_self];rfl
theorem aZu(rec1:List Int→Int→Int→Int→Option (List Int))(b i x:Int): ∀(m:Nat) (A B:List Int),A.length<m→A.length<1000000→A.Pairwise (· < ·)→x∉A→
 cL rec1 m (A++x::B) 0 b i (A.length:Int)=rec1 (tK x A++B) 0 b (IntKind.i64.wrap (i+1))
 |0,A,B,hm,_,_,_=>by omega
 |m+1,A,B,hm,hA,hp,hx=>by
  show dH rec1 (cL rec1 m) _ _ _ _ _=_;unfold dH;rcases List.eq_nil_or_concat A with rfl|⟨A',y,eA⟩
  · rw [gf' (by rfl),aA,gf' (by rfl),aA,gf' (by rfl),aA,bf (by rfl)];rfl
  ·
   rw [List.concat_eq_append] at eA;subst eA;have hl:(A'++[y]).length=A'.length+1:=by simp
   rw [hl] at hm hA⊢;have c0:(decide ((0:Int)<((A'.length+1:Nat):Int))==true)=true:=by simp
   have ew:IntKind.i64.wrap (((A'.length+1:Nat):Int)-1)=(A'.length:Int):=by rw [wr0 om om];omega
   have g1:(A'++[y]++x::B)[A'.length+1]? =some x:=by have:=aRm (A'++[y]) B x;rwa [hl] at this
   have e0:A'++[y]++x::B=A'++y::x::B:=by simp
   have g2:(A'++[y]++x::B)[A'.length]? =some y:=by rw [e0];exact aRm A' _ y
   have s1:(A'++[y]++x::B).set (A'.length+1) y=A'++y::y::B:=by have:=set_mid (A'++[y]) B x y;rw [hl] at this;rw [this];simp
   have s2:(A'++y::y::B).set A'.length x=A'++x::y::B:=set_mid A' _ y x;have g3:(A'++y::y::B)[A'.length]? =some y:=aRm A' _ y;obtain ⟨p1,p2,p3⟩:=List.pairwise_append.1 hp;rw [ew,gt' c0,iI,g1,aA,gt' c0,iI,g2,aA,gt' c0,aWs,aA]
   by_cases c:x<y
   · rw [bt (by simp [c]),aA,aA,aA,lM (by simp),s1,aA,iI,g3,aA,lM (by simp),s2,aA];rw [aZu rec1 b i x m A' (y::B) om om p1 (fun h=>hx (List.mem_append_left _ h)),aQ3 c];simp
   ·
    rw [bf (by simp [c])]
    have hxy:y<x:=by
     have:x≠y:=fun e=>hx (by rw [e];simp);omega
    rw [aUh fun z hz=>?_]
    · simp
    ·
     rcases List.mem_append.1 hz with q|q
     · have:=p3 z q y (by simp);omega
     ·
      have:z=y:=by simpa using q
      omega
theorem aZt(b:Int): ∀(m:Nat) (R S:List Int),R.length<m→(b:Int)=((S.length+R.length:Nat):Int)→S.length+R.length<1000000→S.Pairwise (· < ·)→(∀x,x∈R→x∉S)→R.Nodup→
 bK m (S++R) 0 b (S.length:Int)=some (R.foldl (fun out x=>tK x out) S)
 |0,R,S,hm,_,_,_,_,_=>by omega
 |m+1,R,S,hm,hb,hl,hp,hd,hn=>by
  have hFU:=FU';show bZ (bK m) _ _ _ _=_;unfold bZ
  cases R with
  |nil=>rw [bf (by simp at hb;simp;omega)];simp
  |cons x R=>
   obtain ⟨n1,n2⟩:=List.nodup_cons.1 hn;rw [List.length_cons] at hm hb hl;have hx:=hd x (List.mem_cons_self ..);rw [bt (by simp;omega),aZu _ b _ x bF S R om om hp hx,wr1 _ om]
   have:=aZt b m R (tK x S) om (by rw [aBj];omega) (by rw [aBj];omega) (aRy hp hx) (fun z hz q=>by
    rcases aE6.1 q with rfl|q
    · exact n1 hz
    · exact hd z (List.mem_cons_of_mem _ hz) q) n2
   rw [aBj] at this;exact this
theorem aWm: ∀n:Fin 13,(xJ (IntKind.u64.wrap ((n.val:Nat):Int))).isSome=true:=by decide+kernel
theorem bKs{l:List Int}(hl:l.length≤12)(hn:l.Nodup):iG l=some (aSn l):=by
 have hFU:=FU';obtain ⟨r,hr⟩:=Option.isSome_iff_exists.1 (aWm ⟨l.length,by omega⟩);unfold iG;rw [hr,aA];obtain ⟨F,hF⟩: ∃F,bF=F+1:=⟨bF-1,by omega⟩
 have e:dL l 0 (l.length:Int)=some (aSn l):=by
  unfold dL;rw [show IntKind.i64.wrap ((0:Int)+1)=1 from by decide]
  cases l with
  |nil=>
   rw [hF];show bZ _ _ _ _ _=_;unfold bZ;rw [bf (by rfl)];rfl
  |cons x l=>
   obtain ⟨n1,n2⟩:=List.nodup_cons.1 hn;rw [List.length_cons] at hl
   exact aZt _ bF l [x] om (by simp;omega) (by simp;omega) (by simp) (fun z hz q=>by
    have:z=x:=by simpa using q
    exact n1 (this▸hz)) n2
 have e2:fU l 0 (l.length:Int) r=some (aSn l):=by
  unfold fU;rw [hF];show eT (cI F) bF l 0 (l.length:Int) r true true=_;rw [hF];show eR _ _ _ _ _ _ _ _=_;unfold eR;rw [wr0 om om,bt (by simp;omega),e];simp [aI3,aIh]
 rw [e2];simp [aI3,aIh]
def usd(l:List aM)(v:Int):Bool:=((l[v.toNat]?).map (·.Used)).getD false
theorem aFj{l:List aM}{v:Int} :usd l v=true↔Usd l v:=by
 unfold usd Usd At
 cases h:l[v.toNat]? with
 |none=>simp
 |some s=>
  cases s with
  |mk u k=>cases u<;>simp
theorem aY4(s:aD)(l:List Int)(hl:l.length≤1024)(hr: ∀v,v∈l→0≤v∧v<s.Slots.length): ∀(m i:Nat) (out:List Int),l.length<i+m→i≤l.length→out.length≤i→
 oH m s out l (l.length:Int) (i:Int)=(let r:=out++((l.drop i).filter (usd s.Slots)).map (kv s.Slots);(aI3 (fun x=>x.length) r.length (iG r)).bind fun l10=>some l10)
 |0,i,out,hm,hi,_=>by omega
 |m+1,i,out,hm,hi,ho=>by
  show aCb (oH m) _ _ _ _ _=_;unfold aCb wN
  by_cases c:i<l.length
  ·
   obtain ⟨r0,r1⟩:=hr _ (List.getElem_mem c);have hj:l[i].toNat<s.Slots.length:=by omega
   have ei:idx s.Slots l[i]=some s.Slots[l[i].toNat]:=by
    have:=dD hj
    rwa [Int.toNat_of_nonneg r0] at this
   have eu:usd s.Slots l[i]=s.Slots[l[i].toNat].Used:=by unfold usd;rw [List.getElem?_eq_getElem hj];rfl
   have ek:kv s.Slots l[i]=s.Slots[l[i].toNat].Key:=by unfold kv;rw [List.getElem?_eq_getElem hj];rfl
   rw [bt (by simpa using c),dD c,aA,ei,aA,eC c,List.filter_cons,eu,wr1 i om]
   cases q:s.Slots[l[i].toNat].Used with
   |true=>
    rw [bt rfl,aA,fV (by simp;omega),aA,if_pos rfl,aY4 s l hl hr m (i+1) _ om c (by simp;omega),List.map_cons,ek];simp
   |false=>
    rw [bf rfl,if_neg (by simp),aY4 s l hl hr m (i+1) _ om c om]
  · rw [bf (by simpa using c),List.drop_eq_nil_of_le om];simp
theorem aRv{s:aD}{l:List Int}(hl:l.length≤12)(hr: ∀v,v∈l→0≤v∧v<s.Slots.length)(hn:((l.filter (usd s.Slots)).map (kv s.Slots)).Nodup):kZ s l=some (aSn ((l.filter (usd s.Slots)).map (kv s.Slots))):=by
 have hFU:=FU';unfold kZ;have:=aY4 s l om hr bF 0 [] om (Nat.zero_le _) (Nat.le_refl _);rw [show ((0:Nat):Int)=0 from rfl] at this;have hf:=List.length_filter_le (usd s.Slots) l;rw [this,List.drop_zero,List.nil_append];simp only [];rw [bKs (by rw [List.length_map];omega) hn];simp [aI3,aIh]
section
variable {c:aY}{s:aD}{m:aW}(R:Rel c s m)
include R
theorem Rel.kv_nodup{l:List Int}(hl: ∀v,v∈l→0≤v)(hn:l.Nodup):((l.filter (usd s.Slots)).map (kv s.Slots)).Nodup:=by
 refine List.pairwise_map.2 ((hn.filter _).imp_of_mem fun {a b} ha hb h e=>h ?_);obtain ⟨a1,a2⟩:=List.mem_filter.1 ha;obtain ⟨b1,b2⟩:=List.mem_filter.1 hb;have:=R.ok.v.inj _ _ _ (aGi (aFj.1 a2)) (by rw [e];exact aGi (aFj.1 b2));have:=hl a a1;have:=hl b b1;omega
end
section
variable {c:aY}{s:aD}{m:aW}(R:Rel c s m)(hS:s.Slots.length≤12)(hE:s.Graph.Edges.length<10000)
include R hS hE
omit hE in
theorem ans{d a b:Int}{text:ByteArray}{vA vB:Int}{bA bB:Bool}(h5:5≤d)(h15:d≤13)(fA:Fd s a vA bA)(fB:Fd s b vB bB){rA rB:Bool}(eA:sI d=some rA)(eB:sJ d=some rB)(ok:((rA&& !bA)||(rB&& !bB))=false){r:GA}(h:gP s d vA vB=some r):
 fG s ⟨d,a,b,text⟩=some (s,r):=by
 rw [aPu R om (by simp;omega) fA fB eA eB,ok,bf (by rfl),bt (by simp;omega),h,aA]
omit hE in
theorem aPz{a:Int}{i:Nat}(h:At s.Slots i a):Fd s a (i:Int) true:=by
 obtain ⟨v,b,f⟩:=fd R om a;rcases f.c with ⟨rfl,j,rfl,hj⟩|⟨_,_,no⟩
 · have:=R.ok.v.inj _ _ _ hj h;subst this;exact f
 · exact absurd h (no i)
omit hS hE in
theorem kept: ∃k,lC s.Graph=some k:=⟨_,aD4 R.gd.e R.gd.h⟩
end
open Go Go.AM Go.Pl Go.Pt Go.Ix
theorem bKn{c:aY}(hc:aH5 c){r:List bQ}(h2:(r.length:Int)=c.L*c.R)(h3:hsB r=true)(h4: ∀x,x∈r→0≤x.A∧0≤x.B)(h5:r.length≤128):Rel c ⟨⟨c,r,[]⟩,List.replicate c.N.toNat ⟨false,0⟩⟩ ⟨c.N,[],[]⟩:=by
 have ok:=bHt hc h2 h3;refine ⟨ok,⟨ok.g,fun x hx=>h4 x hx,by simp,by show r.length<_;omega⟩,rfl,rfl,?_,List.Perm.refl _⟩;have:uk (List.replicate c.N.toNat (⟨false,0⟩:aM))=[]:=by unfold uk;simp
 show List.Perm [] (uk (List.replicate c.N.toNat ⟨false,0⟩));rw [this]
theorem Rel.knodup{c:aY}{s:aD}{m:aW}(R:Rel c s m):m.Keys.Nodup:=by
 refine R.keys.nodup_iff.2 ?_;unfold uk;rw [List.Nodup,List.pairwise_map]
 have: ∀(l:List aM),(∀i j k,At l i k→At l j k→i=j)→(l.filter (·.Used)).Pairwise fun a b=>a.Key≠b.Key:=by
  intro l
  induction l with
  |nil=>intro _;simp
  |cons x l ih=>
   intro h
   have ih:=ih fun i j k a b=>by
    have:=h (i+1) (j+1) k a b;omega
   rw [List.filter_cons];split
   ·
    rename_i hx;refine List.pairwise_cons.2 ⟨fun y hy e=>?_,ih⟩;obtain ⟨y1,y2⟩:=List.mem_filter.1 hy;obtain ⟨j,hj⟩:=List.getElem?_of_mem y1
    have:=h 0 (j+1) x.Key (by show (x::l)[0]? =_;cases x;cases hx;rfl) (by
     show (x::l)[j+1]? =_;rw [List.getElem?_cons_succ,hj,e];cases y;cases y2;rfl)
    omega
   · exact ih
 exact this s.Slots R.ok.v.inj
end Go.Proofs.YtkdohhmacfoolaaGreatDoor
