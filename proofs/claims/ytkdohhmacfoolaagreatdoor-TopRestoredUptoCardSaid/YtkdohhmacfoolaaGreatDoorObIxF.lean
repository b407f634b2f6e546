/- Facts. No condition. -/
import Derived.Test.YtkdohhmacfoolaaGreatDoorObIxW
set_option linter.unusedVariables false
set_option linter.unusedSimpArgs false
set_option maxRecDepth 20000
set_option maxHeartbeats 1000000
namespace Go.Proofs.YtkdohhmacfoolaaGreatDoor
open Go Go.AM Go.Pl Go.Pt Go.Ix
def ltP(p q:aG):Prop:=p.x0<q.x0∨p.x0=q.x0∧p.x1<q.x1
instance (p q:aG):Decidable (ltP p q):=inferInstanceAs (Decidable (_∨_))
theorem aN5{a b c:aG}(h:ltP a b)(k:ltP b c):ltP a c:=by unfold ltP at *; omega
theorem bPm{a:aG} : ¬ltP a a:=by unfold ltP;omega
theorem bDv{a b:aG}(h: ¬ltP a b)(hne:a≠b):ltP b a:=by
 unfold ltP at*
 cases a with
 |mk a0 a1=>
  cases b with
  |mk b0 b1=>
   simp only at h⊢
   by_cases e:a0=b0
   · subst e;have:a1≠b1:=fun e=>hne (by rw [e]);omega
   · omega
def aCw(x:aG):List aG→List aG
  |[]=>[x]
  |y::l=>if ltP y x then y::aCw x l else x::y::l
theorem aQy{x z:aG} : ∀ {l:List aG},z∈aCw x l↔z=x∨z∈l
 |[]=>by simp [aCw]
 |y::l=>by
  unfold aCw;split
  ·
   rw [List.mem_cons,aQy,List.mem_cons];constructor
   ·
    rintro (h|h|h)
    · exact .inr (.inl h)
    · exact .inl h
    · exact .inr (.inr h)
   ·
    rintro (h|h|h)
    · exact .inr (.inl h)
    · exact .inl h
    · exact .inr (.inr h)
  · rw [List.mem_cons]
theorem bDp{x:aG} : ∀ {l:List aG},l.Pairwise ltP→x∉l→(aCw x l).Pairwise ltP
 |[],_,_=>by simp [aCw]
 |y::l,h,hx=>by
  obtain ⟨h1,h2⟩:=List.pairwise_cons.1 h;have hne:x≠y:=fun e=>hx (e▸List.mem_cons_self ..);unfold aCw;split
  ·
   rename_i c;refine List.pairwise_cons.2 ⟨fun z hz=>?_,bDp h2 fun q=>hx (List.mem_cons_of_mem _ q)⟩;rcases aQy.1 hz with rfl|hz
   · exact c
   · exact h1 z hz
  ·
   rename_i c;have q:=bDv c hne.symm;refine List.pairwise_cons.2 ⟨fun z hz=>?_,h⟩;rcases List.mem_cons.1 hz with rfl|hz
   · exact q
   · exact aN5 q (h1 z hz)
theorem aGw{x:aG} : ∀ {l:List aG},(aCw x l).length=l.length+1
 |[]=>rfl
 |y::l=>by
  unfold aCw;split
  · simp [aGw]
  · simp
theorem aYo{x:aG} : ∀ {A:List aG},(∀z,z∈A→ltP z x)→aCw x A=A++[x]
 |[],_=>rfl
 |y::A,h=>by
  unfold aCw;rw [if_pos (h y (List.mem_cons_self ..)),aYo fun z hz=>h z (List.mem_cons_of_mem _ hz)];rfl
theorem aTz{x y:aG}(hxy:ltP x y): ∀ {A:List aG},aCw x (A++[y])=aCw x A++[y]
 |[]=>by
  show (if ltP y x then y::aCw x [] else x::y::[])=_;rw [if_neg fun h=>bPm (aN5 h hxy)];rfl
 |z::A=>by
  show aCw x (z::(A++[y]))=_;unfold aCw;split
  · rw [aTz hxy];rfl
  · rfl
def aUb(l:List aG):List aG:=l.foldl (fun out x=>aCw x out) []
theorem aQk: ∀(l out:List aG),(l.foldl (fun out x=>aCw x out) out).length=l.length+out.length
 |[],out=>by simp
 |x::l,out=>by rw [List.foldl_cons,aQk l,aGw,List.length_cons];omega
theorem aNb(l:List aG):(aUb l).length=l.length:=by unfold aUb;rw [aQk];simp
theorem bDf(x y:Int):iW x y=some (if x<y then-1 else if y<x then 1 else 0):=by
 have h: ∀z:Int,fS z=some false:=fun z=>by unfold fS;simp
 unfold iW;rw [h x,aA,h y,aA,bf (by rfl),bf (by rfl)]
 by_cases c:x<y
 · rw [bt (by simpa using c),if_pos c]
 ·
  rw [bf (by simpa using c),if_neg c]
  by_cases d:y<x
  · rw [bt (by simpa using d),if_pos d]
  · rw [bf (by simpa using d),if_neg d]
theorem bJn(a b:Int):aAs [a,b]=some (if a=0 then b else a):=by
 unfold aAs;obtain ⟨F,hF⟩: ∃F,bC=F+3:=⟨bC-3,by have:=FU';omega⟩
 rw [hF];show oT (tV (F+2)) _ _ _ _=_;unfold oT;have i0:idx [a,b] 0=some a:=rfl;have i1:idx [a,b] 1=some b:=rfl;rw [bt (by rfl),i0,aA]
 by_cases e:a=0
 ·
  rw [bf (by simp [e]),if_pos e,show IntKind.i64.wrap ((0:Int)+1)=1 from by decide];show oT (tV (F+1)) _ _ _ _=_;unfold oT;rw [bt (by rfl),i1,aA]
  by_cases f:b=0
  · rw [bf (by simp [f]),show IntKind.i64.wrap ((1:Int)+1)=2 from by decide];show oT (tV F) _ _ _ _=_;unfold oT;rw [bf (by rfl),f]
  · rw [bt (by simp [f])]
 · rw [bt (by simp [e]),if_neg e]
theorem bNc(p q:aG): ∃c,kM p q=some c∧(c<0↔ltP p q):=by
 unfold kM;rw [bDf,aA,bDf,aA,bJn,aA];refine ⟨_,rfl,?_⟩;unfold ltP
 by_cases c:p.x0<q.x0
 · rw [if_pos c,if_neg (by decide)];exact ⟨fun _=> .inl c,fun _=>by decide⟩
 ·
  rw [if_neg c]
  by_cases d:q.x0<p.x0
  · rw [if_pos d,if_neg (by decide)];omega
  ·
   rw [if_neg d,if_pos rfl]
   by_cases e:p.x1<q.x1
   · rw [if_pos e];omega
   · rw [if_neg e];split<;>omega
theorem aZj(A B:List aG)(x y:aG):(A++x::B).set A.length y=A++y::B:=by
 rw [List.set_append_right _ _ (Nat.le_refl _),Nat.sub_self];rfl
theorem aQl(A B:List aG)(x:aG):(A++x::B)[A.length]? =some x:=by
 rw [List.getElem?_append_right (Nat.le_refl _),Nat.sub_self];rfl
section
variable {cmp:aG→aG→Option Int}(hc: ∀p q,∃c,cmp p q=some c∧(c<0↔ltP p q))
include hc
theorem aZm(rec1:List aG→Int→Int→Int→Option (List aG))(b i:Int)(x:aG): ∀(m:Nat) (A B:List aG),A.length<m→A.length<1000000→A.Pairwise ltP→x∉A→
 dB cmp rec1 m (A++x::B) 0 b i (A.length:Int)=rec1 (aCw x A++B) 0 b (IntKind.i64.wrap (i+1))
 |0,A,B,hm,_,_,_=>by omega
 |m+1,A,B,hm,hA,hp,hx=>by
  show dR cmp rec1 (dB cmp rec1 m) _ _ _ _ _=_;unfold dR;rcases List.eq_nil_or_concat A with rfl|⟨A',y,eA⟩
  · rw [gf' (by rfl),aA,gf' (by rfl),aA,gf' (by rfl),aA,bf (by rfl)];rfl
  ·
   rw [List.concat_eq_append] at eA;subst eA;have hl:(A'++[y]).length=A'.length+1:=by simp
   rw [hl] at hm hA⊢;have c0:(decide ((0:Int)<((A'.length+1:Nat):Int))==true)=true:=by simp
   have ew:IntKind.i64.wrap (((A'.length+1:Nat):Int)-1)=(A'.length:Int):=by rw [wr0 om om];omega
   have g1:(A'++[y]++x::B)[A'.length+1]? =some x:=by have:=aQl (A'++[y]) B x;rwa [hl] at this
   have e0:A'++[y]++x::B=A'++y::x::B:=by simp
   have g2:(A'++[y]++x::B)[A'.length]? =some y:=by rw [e0];exact aQl A' _ y
   have s1:(A'++[y]++x::B).set (A'.length+1) y=A'++y::y::B:=by have:=aZj (A'++[y]) B x y;rw [hl] at this;rw [this];simp
   have s2:(A'++y::y::B).set A'.length x=A'++x::y::B:=aZj A' _ y x;have g3:(A'++y::y::B)[A'.length]? =some y:=aQl A' _ y;obtain ⟨p1,p2,p3⟩:=List.pairwise_append.1 hp;obtain ⟨k,hk,hk2⟩:=hc x y;rw [ew,gt' c0,fP,g1,aA,gt' c0,fP,g2,aA,gt' c0,hk,aA]
   by_cases c:ltP x y
   · rw [bt (by simp [hk2.2 c]),aA,aA,aA,jX (by simp),s1,aA,fP,g3,aA,jX (by simp),s2,aA];rw [aZm rec1 b i x m A' (y::B) om om p1 (fun h=>hx (List.mem_append_left _ h)),aTz c];simp
   ·
    have nk: ¬k<0:=fun h=>c (hk2.1 h);rw [bf (by simp [nk])];have hxy:ltP y x:=bDv c fun e=>hx (by rw [e];simp);rw [aYo fun z hz=>?_]
    · simp
    ·
     rcases List.mem_append.1 hz with q|q
     · exact aN5 (p3 z q y (by simp)) hxy
     ·
      have:z=y:=by simpa using q
      rw [this];exact hxy
theorem aZl(b:Int): ∀(m:Nat) (R S:List aG),R.length<m→(b:Int)=((S.length+R.length:Nat):Int)→S.length+R.length<1000000→S.Pairwise ltP→(∀x,x∈R→x∉S)→R.Nodup→
 bP cmp m (S++R) 0 b (S.length:Int)=some (R.foldl (fun out x=>aCw x out) S)
 |0,R,S,hm,_,_,_,_,_=>by omega
 |m+1,R,S,hm,hb,hl,hp,hd,hn=>by
  have hFU:=FU';show cN cmp (bP cmp m) _ _ _ _=_;unfold cN
  cases R with
  |nil=>rw [bf (by simp at hb;simp;omega)];simp
  |cons x R=>
   obtain ⟨n1,n2⟩:=List.nodup_cons.1 hn;rw [List.length_cons] at hm hb hl;have hx:=hd x (List.mem_cons_self ..);rw [bt (by simp;omega),aZm hc _ b _ x bC S R om om hp hx,wr1 _ om]
   have:=aZl b m R (aCw x S) om (by rw [aGw];omega) (by rw [aGw];omega) (bDp hp hx) (fun z hz q=>by
    rcases aQy.1 q with rfl|q
    · exact n1 hz
    · exact hd z (List.mem_cons_of_mem _ hz) q) n2
   rw [aGw] at this;exact this
theorem bM4{l:List aG}(hl:l.length≤12)(hn:l.Nodup):gO l cmp=some (aUb l):=by
 have hFU:=FU';obtain ⟨r,hr⟩:=Option.isSome_iff_exists.1 (aQ3 ⟨l.length,by omega⟩);unfold gO;rw [hr,aA];obtain ⟨F,hF⟩: ∃F,bC=F+1:=⟨bC-1,by omega⟩
 have e:dV l 0 (l.length:Int) cmp=some (aUb l):=by
  unfold dV;rw [show IntKind.i64.wrap ((0:Int)+1)=1 from by decide]
  cases l with
  |nil=>
   rw [hF];show cN cmp _ _ _ _ _=_;unfold cN;rw [bf (by rfl)];rfl
  |cons x l=>
   obtain ⟨n1,n2⟩:=List.nodup_cons.1 hn;rw [List.length_cons] at hl
   exact aZl hc _ bC l [x] om (by simp;omega) (by simp;omega) (by simp) (fun z hz q=>by
    have:z=x:=by simpa using q
    exact n1 (this▸hz)) n2
 have e2:gV l 0 (l.length:Int) r cmp=some (aUb l):=by
  unfold gV;rw [hF];show fK cmp (cZ F) bC l 0 (l.length:Int) r true true=_;rw [hF];show fJ cmp _ _ _ _ _ _ _ _=_;unfold fJ;rw [wr0 om om,bt (by simp;omega),e];simp [aGd,aNb]
 rw [e2];simp [aGd,aNb]
end
def fps(s:aC):List aG:=(en (kf s.Graph)).map (aD0 s.Slots)
section
variable {c:aU}{s:aC}{m:aJ}(R:Rel c s m)
include R
theorem bHy:(fps s).Nodup:=by
 have nd:(en (kf s.Graph)).Nodup:=(gok R.gd.ok).gc.ti.tb.fo_nodup _;refine List.pairwise_map.2 (nd.imp_of_mem fun {a b} ha hb h e=>h ?_);obtain ⟨x,x1,x2⟩:=jU.1 ha;obtain ⟨y,y1,y2⟩:=jU.1 hb;obtain ⟨a1,a2,a3,a4,a5⟩:=R.edge (aQx x1);obtain ⟨b1,b2,b3,b4,b5⟩:=R.edge (aQx y1);subst x2 y2
 have inj: ∀ {u v:Int},0≤u→0≤v→Usd s.Slots u→Usd s.Slots v→kv s.Slots u=kv s.Slots v→u=v:=fun h0 h1 hu hv e=>by
  have:=R.ok.v.inj _ _ _ (aJn hu) (by rw [e];exact aJn hv);omega
 rcases bE0 e with ⟨e1,e2⟩|⟨e1,e2⟩
 · rw [inj a1 b1 a4 b4 e1,inj a2 b2 a5 b5 e2]
 · have q1:=inj a1 b2 a4 b5 e1;have q2:=inj a2 b1 a5 b4 e2;omega
omit R in
theorem bNn:(fps s).length=(kf s.Graph).length:=by unfold fps;rw [List.length_map,uS]
theorem bKx:(kf s.Graph).length+cl s.Graph.Config.N.toNat (en (kf s.Graph))=s.Slots.length:=by
 have h:=(gok R.gd.ok).fr;unfold foB at h;have h:=of_decide_eq_true h;have e:=R.ok.len;have e2:(kf s.Graph).length=(fo s.Graph.Edges s.Graph.Config.L).length:=rfl;have e3:cl s.Graph.Config.N.toNat (en (kf s.Graph))=cl s.Graph.Config.N.toNat (en (fo s.Graph.Edges s.Graph.Config.L)):=rfl;omega
theorem aYf(hS:s.Slots.length≤1024): ∀(n i:Nat) (out:List aG),(kf s.Graph).length<i+n→i≤(kf s.Graph).length→out.length≤i→
 oY n s out (kf s.Graph) ((kf s.Graph).length:Int) (i:Int)=(let r:=out++((en (kf s.Graph)).drop i).map (aD0 s.Slots);(aGd (fun x=>x.length) r.length (gO r (fun x0 x1=>kM x0 x1))).bind fun l12=>some l12)
 |0,i,out,hm,hi,_=>by omega
 |n+1,i,out,hm,hi,ho=>by
  have kl:=bKx R;show aB5 (oY n) _ _ _ _ _=_;unfold aB5
  by_cases c:i<(kf s.Graph).length
  ·
   obtain ⟨h1,h2,h3,u1,u2⟩:=R.edge (aQx (List.getElem_mem c));have k1:=aJn u1;have k2:=aJn u2;have i1:idx s.Slots (kf s.Graph)[i].U=some ⟨true,kv s.Slots (kf s.Graph)[i].U⟩:=by rw [tJ (k:=(kf s.Graph)[i].U.toNat) om];exact k1
   have i2:idx s.Slots (kf s.Graph)[i].V=some ⟨true,kv s.Slots (kf s.Graph)[i].V⟩:=by rw [tJ (k:=(kf s.Graph)[i].V.toNat) om];exact k2
   have ec:i<(en (kf s.Graph)).length:=by rw [uS];exact c
   have ee:(en (kf s.Graph))[i]=((kf s.Graph)[i].U,(kf s.Graph)[i].V):=List.getElem_map (fun e:aD=>(e.U,e.V))
   have ep:(⟨if kv s.Slots (kf s.Graph)[i].V<kv s.Slots (kf s.Graph)[i].U then kv s.Slots (kf s.Graph)[i].V else kv s.Slots (kf s.Graph)[i].U,if kv s.Slots (kf s.Graph)[i].U<kv s.Slots (kf s.Graph)[i].V then kv s.Slots (kf s.Graph)[i].V else kv s.Slots (kf s.Graph)[i].U⟩:aG)=aD0 s.Slots ((kf s.Graph)[i].U,(kf s.Graph)[i].V):=by
    unfold aD0 pr2;simp only []
    by_cases q:kv s.Slots (kf s.Graph)[i].V<kv s.Slots (kf s.Graph)[i].U
    · rw [if_pos q,if_pos q,if_neg om]
    ·
     rw [if_neg q,if_neg q]
     by_cases q':kv s.Slots (kf s.Graph)[i].U<kv s.Slots (kf s.Graph)[i].V
     · rw [if_pos q']
     ·
      rw [if_neg q'];have:kv s.Slots (kf s.Graph)[i].U=kv s.Slots (kf s.Graph)[i].V:=by omega
      rw [this]
   rw [bt (oE c),cE c,aA,i1,aA,i2,aA];simp only [];rw [ep,fI (by simp;omega),aA,wr1 i om,aYf hS n (i+1) _ om c (by simp;omega),cW ec,List.map_cons,ee];simp
  · rw [bf (oD c),List.drop_eq_nil_of_le (by rw [uS];omega)];simp
theorem bHx(hS:s.Slots.length≤12)(a b:Int)(text:ByteArray):eG s ⟨12,a,b,text⟩=some (s,GA.lp 157 (aUb (fps s))):=by
 have hFU:=FU';obtain ⟨vA,bA,fA⟩:=fd R om a;obtain ⟨vB,bB,fB⟩:=fd R om b;have kl:=bKx R;refine ans R hS (by decide) (by decide) fA fB rfl rfl (by rfl) ?_;unfold eK xL
 have tf:gU s.Graph.Config.N s.Graph.Edges s.Graph.Config.L=some (kf s.Graph):=by
  rw [mE R.gd.e,if_pos (gok R.gd.ok).tr];rfl
 have:=aYf R om bC 0 [] om (Nat.zero_le _) (Nat.le_refl _);rw [aEz R,aA,bf (by rfl),bf (by rfl),bf (by rfl),bf (by rfl),bf (by rfl),bf (by rfl),bf (by rfl),bt (by rfl),tf,aA,show (0:Int)=((0:Nat):Int) from rfl,this,List.drop_zero,List.nil_append];simp only [];have e:(en (kf s.Graph)).map (aD0 s.Slots)=fps s:=rfl;rw [e,bM4 bNc (by rw [bNn];omega) (bHy R)];simp [aGd,aNb]
end
end Go.Proofs.YtkdohhmacfoolaaGreatDoor
