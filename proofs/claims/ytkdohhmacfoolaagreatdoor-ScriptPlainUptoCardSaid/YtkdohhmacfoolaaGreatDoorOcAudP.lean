/- Facts. No condition. -/
import Derived.Test.YtkdohhmacfoolaaGreatDoorOcGA2
set_option linter.unusedSimpArgs false
set_option linter.unusedVariables false
namespace Go.Ix
open Go.Pt
structure Srt(L:List Int)(S:Int→Prop):Prop where
  up:L.Pairwise (· < ·)
  mem: ∀x,x∈L↔S x
theorem bA2: ∀ {a b:List Int},a.Pairwise (· < ·)→b.Pairwise (· < ·)→(∀x,x∈a↔x∈b)→a=b
 |[],[],_,_,_=>rfl
 |[],y::b,_,_,h=>absurd ((h y).2 (List.mem_cons_self ..)) (by simp)
 |x::a,[],_,_,h=>absurd ((h x).1 (List.mem_cons_self ..)) (by simp)
 |x::a,y::b,ha,hb,h=>by
  obtain ⟨a1,a2⟩:=List.pairwise_cons.1 ha;obtain ⟨b1,b2⟩:=List.pairwise_cons.1 hb
  have e:x=y:=by
   have h1:=(h x).1 (List.mem_cons_self ..);have h2:=(h y).2 (List.mem_cons_self ..);rcases List.mem_cons.1 h1 with q|q
   · exact q
   ·
    rcases List.mem_cons.1 h2 with w|w
    · exact w.symm
    · have:=b1 x q;have:=a1 y w;omega
  subst e;rw [bA2 a2 b2 fun z=>?_];constructor
  ·
   intro q;rcases List.mem_cons.1 ((h z).1 (List.mem_cons_of_mem _ q)) with w|w
   · subst w;exact absurd (a1 z q) (by omega)
   · exact w
  ·
   intro q;rcases List.mem_cons.1 ((h z).2 (List.mem_cons_of_mem _ q)) with w|w
   · subst w;exact absurd (b1 z q) (by omega)
   · exact w
theorem Srt.uniq{a b:List Int}{S S':Int→Prop}(h:Srt a S)(k:Srt b S')(e: ∀x,S x↔S' x):a=b:=
 bA2 h.up k.up fun x=>(h.mem x).trans ((e x).trans (k.mem x).symm)
theorem Srt.nodup{a:List Int}{S:Int→Prop}(h:Srt a S):a.Nodup:=h.up.imp fun q=>by omega
theorem aN9: ∀ {a b:List Int},a.Nodup→(∀x,x∈a→x∈b)→a.length≤b.length
 |[],_,_,_=>Nat.zero_le _
 |x::a,b,ha,h=>by
  obtain ⟨n1,n2⟩:=List.nodup_cons.1 ha;have hx:=h x (List.mem_cons_self ..);have:=aN9 (a:=a) (b:=b.erase x) n2 fun y hy=>(List.mem_erase_of_ne (fun e:y=x=>n1 (by rw [←e];exact hy))).2 (h y (List.mem_cons_of_mem _ hy));rw [List.length_erase_of_mem hx] at this;have:=List.length_pos_of_mem hx;rw [List.length_cons];omega
theorem bD4{a b:List Int}(ha:a.Nodup)(hb:b.Nodup)(h: ∀x,x∈a↔x∈b):a.length=b.length:=
 Nat.le_antisymm (aN9 ha fun x=>(h x).1) (aN9 hb fun x=>(h x).2)
def tK(x:Int):List Int→List Int
  |[]=>[x]
  |y::l=>if y<x then y::tK x l else x::y::l
theorem aE6{x z:Int} : ∀ {l:List Int},z∈tK x l↔z=x∨z∈l
 |[]=>by simp [tK]
 |y::l=>by
  unfold tK;split
  ·
   rw [List.mem_cons,aE6,List.mem_cons];constructor
   ·
    rintro (h|h|h)
    · exact .inr (.inl h)
    · exact .inl h
    · exact .inr (.inr h)
   ·
    rintro (h|h|h)
    · exact .inr (.inl h)
    · exact .inl h
    · exact .inr (.inr h)
  · rw [List.mem_cons]
theorem aRy{x:Int} : ∀ {l:List Int},l.Pairwise (· < ·)→x∉l→(tK x l).Pairwise (· < ·)
 |[],_,_=>by simp [tK]
 |y::l,h,hx=>by
  obtain ⟨h1,h2⟩:=List.pairwise_cons.1 h;have hne:x≠y:=fun e=>hx (e▸List.mem_cons_self ..);unfold tK;split
  ·
   rename_i c;refine List.pairwise_cons.2 ⟨fun z hz=>?_,aRy h2 fun q=>hx (List.mem_cons_of_mem _ q)⟩;rcases aE6.1 hz with rfl|hz
   · exact c
   · exact h1 z hz
  ·
   rename_i c;refine List.pairwise_cons.2 ⟨fun z hz=>?_,h⟩;rcases List.mem_cons.1 hz with rfl|hz
   · omega
   · have:=h1 z hz;omega
theorem aRx{x:Int} : ∀ {l:List Int} {k:Nat},k≤l.length→(∀j y,j<k→l[j]? =some y→y<x)→(∀y,l[k]? =some y→ ¬y<x)→tK x l=l.take k++x::l.drop k
 |[],0,_,_,_=>rfl
 |[],k+1,h,_,_=>by simp at h
 |y::l,0,_,_,h=>by
  unfold tK;rw [if_neg (h y rfl)];rfl
 |y::l,k+1,hk,h1,h2=>by
  unfold tK;rw [if_pos (h1 0 y (by omega) rfl),aRx (k:=k) (by simpa using hk) (fun j z hj hz=>h1 (j+1) z (by omega) hz) h2];rfl
theorem aBj{x:Int} : ∀ {l:List Int},(tK x l).length=l.length+1
 |[]=>rfl
 |y::l=>by
  unfold tK;split
  · simp [aBj]
  · simp
def aSn(l:List Int):List Int:=l.foldl (fun out x=>tK x out) []
theorem aMp: ∀ {l out:List Int},out.Pairwise (· < ·)→(∀x,x∈l→x∉out)→l.Nodup→Srt (l.foldl (fun out x=>tK x out) out) (fun z=>z∈out∨z∈l)
 |[],out,h,_,_=>⟨h,fun x=>by simp⟩
 |x::l,out,h,hx,hn=>by
  obtain ⟨n1,n2⟩:=List.nodup_cons.1 hn
  have:=aMp (l:=l) (out:=tK x out) (aRy h (hx x (List.mem_cons_self ..))) (fun z hz q=>by
   rcases aE6.1 q with rfl|q
   · exact n1 hz
   · exact hx z (List.mem_cons_of_mem _ hz) q) n2
  refine ⟨this.up,fun z=>(this.mem z).trans ?_⟩;rw [aE6,List.mem_cons];constructor
  ·
   rintro ((h|h)|h)
   · exact .inr (.inl h)
   · exact .inl h
   · exact .inr (.inr h)
  ·
   rintro (h|h|h)
   · exact .inl (.inr h)
   · exact .inl (.inl h)
   · exact .inr h
theorem bGv{l:List Int}(h:l.Nodup):Srt (aSn l) (· ∈l):=by
 have:=aMp (l:=l) (out:=[]) List.Pairwise.nil (fun _ _=>by simp) h;exact ⟨this.up,fun x=>(this.mem x).trans (by simp)⟩
end Go.Ix
set_option maxRecDepth 20000
set_option maxHeartbeats 1000000
namespace Go.Proofs.YtkdohhmacfoolaaGreatDoor
open Go Go.AM Go.Pl Go.Pt
theorem gF{α:Type}(b:Bool)(d x:α):gO b d (some x)=some (bif b then x else d):=by cases b<;>rfl
theorem tZ{i m:Nat}(h:i<m):decide (((i:Nat):Int)<((m:Nat):Int))=true:=by simp;omega
theorem tY{i m:Nat}(h: ¬i<m):decide (((i:Nat):Int)<((m:Nat):Int))=false:=by simp;omega
section
variable {α:Type}{d:α}{o:Option α}
theorem gtt:gO (true==true) d o=o:=gt' rfl
theorem gft:gO (false==true) d o=some d:=gf' rfl
end
theorem bQ8(k:Nat):decide (0<((k+1:Nat):Int))=true:=by simp<;>omega
theorem FU:bF=1000000000000:=rfl
def okE(n:Int)(e:aC):Bool:=decide (0≤e.U∧e.U<e.V∧e.V<n∧0≤e.Tier∧e.Tier≤16)
def aA3(a b:aC):Bool:=decide (a.U<b.U∨a.U=b.U∧a.V<b.V)
def trL(n:Int):Option aC→List aC→Bool
  |_,[]=>true
  |none,e::l=>okE n e&&trL n (some e) l
  |some q,e::l=>okE n e&&(aA3 q e&&trL n (some e) l)
def prv(l:List aC):Nat→Option aC
  |0=>none
  |k+1=>l[k]?
theorem aEa(a b:aC):rC a b=some (aA3 a b):=by
 unfold rC aA3;congr 1
 by_cases h1:a.U<b.U<;>by_cases h2:a.U=b.U<;>by_cases h3:a.V<b.V<;>simp [h1,h2,h3]
theorem oJ{n:Int}{e:aC} :okE n e=true↔0≤e.U∧e.U<e.V∧e.V<n∧0≤e.Tier∧e.Tier≤16:=by unfold okE;exact decide_eq_true_iff
theorem aV2{l:List aC}{i:Nat}(c:i<l.length):prv l (i+1)=some l[i]:=List.getElem?_eq_getElem c
def stE(n:Int)(p:Option aC)(e:aC):Bool:=okE n e&&(match p with|none=>true|some q=>aA3 q e)
theorem aO5(n:Int)(p:Option aC)(e:aC)(l:List aC):trL n p (e::l)=(stE n p e&&trL n (some e) l):=by
 cases p<;>simp [trL,stE,Bool.and_assoc]
theorem aIw{n:Int}(l:List aC): ∀(m i:Nat),l.length<i+m→i+m≤bF→i≤l.length→qM m n l l (l.length:Int) (i:Int)=some (trL n (prv l i) (l.drop i))
 |0,i,h,_,hi=>by omega
 |m+1,i,h,hF,hi=>by
  have hFU:=FU;show aB4 (qM m) n l l _ _=_;unfold aB4
  by_cases c:i<l.length
  ·
   have ih:=aIw (n:=n) l m (i+1) om om c;rw [aV2 c] at ih;rw [bt (tZ c),dD c,aA,eC c,aO5];unfold mG;rw [gF,aA,wr1 i om,ih];generalize l[i]=e
   cases ok:okE n e with
   |false=>
    rw [bt]
    · simp [stE,ok]
    ·
     have: ¬(0≤e.U∧e.U<e.V∧e.V<n∧0≤e.Tier∧e.Tier≤16):=fun q=>by rw [oJ.2 q] at ok;cases ok
     by_cases h1:e.U<0<;>by_cases h2:e.V≤e.U<;>by_cases h3:n≤e.V<;>simp [h1,h2,h3]<;>omega
   |true=>
    obtain ⟨h1,h2,h3,h4,h5⟩:=oJ.1 ok;rw [bf (by simp;omega)]
    cases i with
    |zero=>
     rw [gf' (by simp),aA,gf' (by simp),aA,bf (by simp)];simp [stE,ok,prv]
    |succ k=>
     have ck:k<l.length:=by omega
     have e0:IntKind.i64.wrap (((k+1:Nat):Int)-1)=((k:Nat):Int):=by rw [wr0 om om];omega
     rw [bQ8,gtt,e0,dD ck,aA,gtt,aEa,aA,aV2 ck]
     cases hl:aA3 l[k] e with
     |false=>rw [bt (by simp)];simp [stE,ok,hl]
     |true=>rw [bf (by simp [hl])];simp [stE,ok,hl]
  · rw [bf (tY c),List.drop_eq_nil_of_le om];cases prv l i<;>rfl
def trB(n:Int)(l:List aC):Bool:=decide (0≤n∧n≤1024)&&trL n none l
theorem kJ{n:Int}{l:List aC}(hl:l.length<1000000000):gX n l=some (trB n l):=by
 have hFU:=FU;unfold gX trB
 by_cases c:0≤n∧n≤1024
 · rw [bf (by simp;omega)];have:=aIw (n:=n) l bF 0 om om (Nat.zero_le _);rw [show (0:Int)=((0:Nat):Int) from rfl,this];simp [prv,c]
 · rw [bt (by simp;omega)];simp [c]
theorem bA0{n:Int} : ∀ {l:List aC} {p:Option aC},trL n p l=true→ ∀e,e∈l→okE n e=true
 |[],_,_,_,h=>by cases h
 |a::l,p,h,e,he=>by
  rw [aO5] at h;simp only [Bool.and_eq_true] at h;rcases List.mem_cons.1 he with q|q
  · subst q;have:=h.1;unfold stE at this;simp only [Bool.and_eq_true] at this;exact this.1
  · exact bA0 h.2 e q
def inT(t:Int)(e:aC):Bool:=decide (1≤e.Tier)&&decide (e.Tier≤t)
def fo(l:List aC)(t:Int):List aC:=l.filter (inT t)
theorem aRi(l:List aC)(t:Int):(fo l t).length≤l.length:=List.length_filter_le _ _
theorem aQ0{p:aC→Bool}{l:List aC}{i:Nat}(c:i<l.length):(l.drop i).filter p=(if p l[i] then [l[i]] else [])++(l.drop (i+1)).filter p:=by
 rw [eC c,List.filter_cons];split<;>rfl
theorem aB3{t:Int}(l:List aC)(hl:l.length<1000000000): ∀(m i:Nat) (out:List aC),l.length<i+m→i+m≤bF→i≤l.length→out.length≤i→nS m t out l (l.length:Int) (i:Int)=some (out++(l.drop i).filter (inT t))
 |0,i,_,h,_,hi,_=>by omega
 |m+1,i,out,h,hF,hi,ho=>by
  have hFU:=FU;show zI (nS m) t out l _ _=_;unfold zI
  by_cases c:i<l.length
  ·
   rw [bt (tZ c),dD c,aA,aQ0 c];unfold zJ;rw [wr1 i om]
   cases hp:inT t l[i] with
   |true=>
    unfold inT at hp;rw [bt hp,fV (by simp;omega),aA,aB3 l hl m (i+1) _ om om c (by simp;omega)];simp
   |false=>
    unfold inT at hp;rw [bf hp,aB3 l hl m (i+1) _ om om c om];simp
  · rw [bf (tY c),List.drop_eq_nil_of_le om];simp
theorem tC{n t:Int}{l:List aC}(hl:l.length<1000000000):iN n l t=some (if trB n l then fo l t else []):=by
 have hFU:=FU;unfold iN;rw [kJ hl,aA]
 cases trB n l with
 |false=>rfl
 |true=>
  rw [show (!true)=false from rfl,bf rfl];have:=aB3 (t:=t) l hl bF 0 [] om om (Nat.zero_le _) (by simp);rw [show (0:Int)=((0:Nat):Int) from rfl,this];rfl
end Go.Proofs.YtkdohhmacfoolaaGreatDoor
