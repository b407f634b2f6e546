/- Facts. No condition. -/
import Derived.Test.YtkdohhmacfoolaaGreatDoorPgDi
set_option linter.unusedVariables false
set_option linter.unusedSimpArgs false
namespace Go.Proofs.YtkdohhmacfoolaaGreatDoor
open Go.Proofs.Tryz Go Go.RowKit Go.Lib Go.AM
theorem bHa{w:World}{M:Nat→Nat→Prop}{O:Nat→OSt}{v:Value}{xs:List AV}(h:RV w M O v (.tup xs)): ∃cs:Array Value,v= .tuple cs∧cs.size=xs.length∧ ∀k a,xs[k]? =some a→RV w M O (cs.getD k undef) a:=by
 cases h with
 |tup cs _ hl hx=>exact ⟨cs,rfl,hl,hx⟩
theorem bR2{w:World}{M:Nat→Nat→Prop}{O:Nat→OSt}{v:Value}{xs:List AV}(h:RV w M O v (.agg xs)): ∃cs:Array Value,v= .agg cs∧cs.size=xs.length∧ ∀k a,xs[k]? =some a→RV w M O (cs.getD k undef) a:=by
 cases h with
 |agg cs _ hl hx=>exact ⟨cs,rfl,hl,hx⟩
theorem bRg{α:Type}{cs:Array α}(h:cs.size=2): ∃a b,cs= #[a,b]:=by
 obtain ⟨l⟩:=cs
 match l,h with
 |[a,b],_=>exact ⟨a,b,rfl⟩
theorem cI4{α:Type}{cs:Array α}(h:cs.size=3): ∃a b c,cs= #[a,b,c]:=by
 obtain ⟨l⟩:=cs
 match l,h with
 |[a,b,c],_=>exact ⟨a,b,c,rfl⟩
theorem cI5{α:Type}{cs:Array α}(h:cs.size=9): ∃a b c d e f g i j,cs= #[a,b,c,d,e,f,g,i,j]:=by
 obtain ⟨l⟩:=cs
 match l,h with
 |[a,b,c,d,e,f,g,i,j],_=>exact ⟨a,b,c,d,e,f,g,i,j,rfl⟩
theorem aHt{w:World}{M:Nat→Nat→Prop}{O:Nat→OSt}{v:Value}{xs:List AV}{n:Nat}{f:Bool}(h:RV w M O v (.sl xs n f)): ∃a c,v= .slice a n c:=by
 cases h with
 |sl b off cap _ _ _ cs hc hx hl hf=>exact ⟨_,_,rfl⟩
 |slnil a _=>exact ⟨_,_,rfl⟩
theorem aW6{P:Program}{f:FuncId}{text:ByteArray}{xs:List AV}{ln:Nat}{x y:Int}(h:cE P f [.v (.string text)] (.tup [.sl xs ln false,.v (.int .i64 x),.v (.int .i64 y)])){w:World}{X:Nat→Nat→Prop}(hX:XL X w):
 Calls P f #[.string text] w fun e w'=> ∃V,e= .returned (.tuple #[V,.int .i64 x,.int .i64 y])∧RV w' X jO V (.sl xs ln false)∧Below w.heap.size w w':=by
 refine (h w X #[.string text] hX ⟨rfl,fun k a hk=>?_⟩).mono ?_
 ·
  match k,hk with
  |0,hk=>simp at hk;subst hk;exact .v _
  |k+1,hk=>simp at hk
 · rintro e w' ⟨v,rfl,hv,hb⟩;obtain ⟨cs,rfl,hl,hx⟩:=bHa hv;obtain ⟨a,b,c,rfl⟩:=cI4 hl;have h1:=(hx 1 _ rfl).v_inv;have h2:=(hx 2 _ rfl).v_inv;have h0:=hx 0 _ rfl;simp only [Array.getD,List.size_toArray,List.length_cons,List.length_nil] at h0 h1 h2;simp at h0 h1 h2;subst h1 h2;exact ⟨a,rfl,h0,hb⟩
structure SV where
  n0:Int
  n1:Int
  n2:Int
  x3:List AV
  l3:Nat
  x4:List AV
  l4:Nat
  x5:List AV
  l5:Nat
  x6:List AV
  l6:Nat
  n7:Int
  b8:Bool
def SV.av(s:SV):List AV:=[.v (.int .i64 s.n0),.v (.int .i64 s.n1),.v (.int .i64 s.n2),.sl s.x3 s.l3 false,.sl s.x4 s.l4 false,.sl s.x5 s.l5 false,.sl s.x6 s.l6 false,.v (.int .i64 s.n7),.v (.bool s.b8)]
def SV.cs(s:SV)(a3 a4 a5 a6:Option Addr)(c3 c4 c5 c6:Nat):Array Value:= #[.int .i64 s.n0,.int .i64 s.n1,.int .i64 s.n2,.slice a3 s.l3 c3,.slice a4 s.l4 c4,.slice a5 s.l5 c5,.slice a6 s.l6 c6,.int .i64 s.n7,.bool s.b8]
theorem bPv{P:Program}{f:FuncId}{sa:List AV}{sb:SV}{la:List AV}{ln:Nat}{told:ByteArray}(h:cE P f [.agg sa,.sl la ln false] (.tup [.agg sb.av,.v (.string told)])){w:World}{X:Nat→Nat→Prop}(hX:XL X w)
 {s l:Value} (hs:RV w X jO s (.agg sa)) (hl:RV w X jO l (.sl la ln false)):
 Calls P f #[s,l] w fun e w'=> ∃a3 a4 a5 a6 c3 c4 c5 c6,e= .returned (.tuple #[.agg #[.int .i64 sb.n0,.int .i64 sb.n1,.int .i64 sb.n2,.slice a3 sb.l3 c3,.slice a4 sb.l4 c4,.slice a5 sb.l5 c5,.slice a6 sb.l6 c6,.int .i64 sb.n7,.bool sb.b8],.string told])∧RV w' X jO (.agg (sb.cs a3 a4 a5 a6 c3 c4 c5 c6)) (.agg sb.av)∧Below w.heap.size w w':=by
 refine (h w X #[s,l] hX ⟨rfl,fun k a hk=>?_⟩).mono ?_
 ·
  match k,hk with
  |0,hk=>simp at hk;subst hk;exact hs
  |1,hk=>simp at hk;subst hk;exact hl
  |k+2,hk=>simp at hk
 · rintro e w' ⟨v,rfl,hv,hb⟩;obtain ⟨cs,rfl,hl,hx⟩:=bHa hv;obtain ⟨a,b,rfl⟩:=bRg hl;have h0:=hx 0 _ rfl;have h1:=(hx 1 _ rfl).v_inv;simp at h0 h1;subst h1;obtain ⟨ds,rfl,hl',hx'⟩:=bR2 h0;obtain ⟨c0,c1,c2,c3,c4,c5,c6,c7,c8,rfl⟩:=cI5 hl';have q0:=(hx' 0 _ rfl).v_inv;have q1:=(hx' 1 _ rfl).v_inv;have q2:=(hx' 2 _ rfl).v_inv;have q3:=hx' 3 _ rfl;have q4:=hx' 4 _ rfl;have q5:=hx' 5 _ rfl;have q6:=hx' 6 _ rfl;have q7:=(hx' 7 _ rfl).v_inv;have q8:=(hx' 8 _ rfl).v_inv;simp at q0 q1 q2 q3 q4 q5 q6 q7 q8;obtain ⟨a3,d3,rfl⟩:=aHt q3;obtain ⟨a4,d4,rfl⟩:=aHt q4;obtain ⟨a5,d5,rfl⟩:=aHt q5;obtain ⟨a6,d6,rfl⟩:=aHt q6;subst q0 q1 q2 q7 q8;exact ⟨a3,a4,a5,a6,d3,d4,d5,d6,rfl,h0,hb⟩
def Mx(X:Nat→Nat→Prop)(s b:Nat)(g:Option Nat):Nat→Nat→Prop:=fun k i=>X k i∨k=s∨k=b∨g=some k
theorem aY0{X:Nat→Nat→Prop}{s b:Nat}{g g':Option Nat}{w w':World}(h: ∀k,k<w.heap.size→k≠s→k≠b→some k≠g→w'.heap[k]? =w.heap[k]?)(hg:g'=g∨ ∃k,g'=some k∧w.heap.size≤k):fQ w (Mx X s b g) jO w' (Mx X s b g') jO:=by
 refine ⟨fun k i v hc hm=>?_,fun _ h=>h,fun _ h=> .inl h,fun _ _ h=> .inl h⟩;have hk:=block_lt_of_cell hc;have h1:k≠s:=fun e=>hm (.inr (.inl e));have h2:k≠b:=fun e=>hm (.inr (.inr (.inl e)));have h3:some k≠g:=fun e=>hm (.inr (.inr (.inr e.symm)));refine ⟨by rw [World.cell?_of_block (w:=w) (w':=w') (h k hk h1 h2 h3)];exact hc,?_⟩;rintro (q|q|q|q)
 · exact hm (.inl q)
 · exact h1 q
 · exact h2 q
 ·
  rcases hg with rfl|⟨j,rfl,hj⟩
  · exact h3 q.symm
  · cases q;simp only at hk;omega
set_option maxRecDepth 100000
set_option maxHeartbeats 2000000
theorem bNl(lines:List (List ByteArray)):lines.flatMap (csl kD)=lines.map fun l=> .sl (l.flatMap kD) l.length false:=by
 induction lines with
 |nil=>rfl
 |cons l ls ih=>rw [List.flatMap_cons,ih];rfl
theorem bU6{w:World}{M:Nat→Nat→Prop}{O:Nat→OSt}{lines:List (List ByteArray)}{Va:Option Addr}{Vc:Nat}(h:RV w M O (.slice Va lines.length Vc) (.sl (lines.flatMap (csl kD)) lines.length false)){k:Nat}(hk:k<lines.length):
 ∃vb voff la lc,Va=some ⟨vb,voff,none⟩∧w.cell? ⟨vb,voff+k,none⟩=some (.slice la lines[k].length lc)∧RV w M O (.slice la lines[k].length lc) (.sl (lines[k].flatMap kD) lines[k].length false):=by
 rw [bNl] at h;generalize hn:lines.length=n at h;generalize hx:(lines.map fun l=>AV.sl (l.flatMap kD) l.length false)=xs at h;have hxl:xs.length=lines.length:=by rw [←hx,List.length_map]
 have hxk:xs[k]? =some (.sl (lines[k].flatMap kD) lines[k].length false):=by rw [←hx,List.getElem?_map,List.getElem?_eq_getElem hk];rfl
 cases h with
 |sl b off cap _ _ _ cs hc hr hl hf=>
  have h1:=hr k _ hxk;obtain ⟨la,lc,e⟩:=aHt h1;refine ⟨b,off,la,lc,rfl,?_,?_⟩
  · rw [←e];exact (hc k om).1
  · rw [←e];exact h1
 |slnil a _=>simp at hxl;omega
theorem Bld.keep{B b:Nat}{p:Value}{g:Option Nat}{l:List UInt8}{w w':World}(h:Bld B b p g l w)(hb:w'.heap[b]? =w.heap[b]?)(hg: ∀j,g=some j→w'.heap[j]? =w.heap[j]?):Bld B b p g l w':=by
 obtain ⟨v,hB,hbk,hown,hv,hne⟩:=h;refine ⟨v,hB,hb.trans hbk,⟨hown.1,?_⟩,hv,hne⟩;rcases hown.2 with h1|⟨j,cap,cur,rfl,h2,h3,r⟩
 · exact .inl h1
 · exact .inr ⟨j,cap,cur,rfl,h2,(hg j hv.symm).trans h3,r⟩
theorem Bld.is{B b:Nat}{p:Value}(hp:p= .pointer none∨p= .pointer (some ⟨b,0,none⟩)){g:Option Nat}{l:List UInt8}{w:World}(h:Bld B b p g l w):Lib.IsBuilder 133 5 B b (byteCells l) w:=by
 obtain ⟨v,hB,hbk,hown,hv,hne⟩:=h;have:Lib.BuilderAt 133 5 B b p (byteCells l) w:=⟨hB,v,hbk,by rw [byteCells_length];exact hown,by rw [hv];exact hne⟩
 rcases hp with rfl|rfl
 · exact .inl this
 · exact .inr this
structure Sto(w:World)(s:Nat)(c:Array Value)(T:TypeId)(w':World):Prop where
  at_:w'.heap[s]? =some (.cells c T (0,0))
  ne: ∀k,k≠s→w'.heap[k]? =w.heap[k]?
  size:w'.heap.size=w.heap.size
  below: ∀B a,Below B a w→B≤s→Below B a w'
theorem cM1{Pr:Program}{f:FuncId}{args:Array Value}{w:World}{Q:Ending→World→Prop}{s:Nat}{T:TypeId}{o0 o1 o2 o3 o4 o5 o6 o7 o8 v0 v1 v2 v3 v4 v5 v6 v7 v8:Value}(h:w.heap[s]? =some (.cells #[o0,o1,o2,o3,o4,o5,o6,o7,o8] T (0,0)))
 (k: ∀w',Sto w s #[v0,v1,v2,v3,v4,v5,v6,v7,v8] T w'→Calls Pr f args w' Q):Calls Pr f args (((((((((w.setCell ⟨s,0,none⟩ v0).setCell ⟨s,1,none⟩ v1).setCell ⟨s,2,none⟩ v2).setCell ⟨s,3,none⟩ v3).setCell ⟨s,4,none⟩ v4).setCell ⟨s,5,none⟩ v5).setCell ⟨s,6,none⟩ v6).setCell ⟨s,7,none⟩ v7).setCell ⟨s,8,none⟩ v8) Q:=by
 refine k _ ⟨?_,fun j hj=>?_,by simp [World.setCell],fun B a hb hB=>?_⟩
 · simp [World.setCell,Array.getElem?_modify,h]
 · iterate 9 rw [Below.heap_setCell _ _ _ _ (by exact hj)]
 · exact ((((((((hb.setCell (p:=⟨s,0,none⟩) hB _).setCell (p:=⟨s,1,none⟩) hB _).setCell (p:=⟨s,2,none⟩) hB _).setCell (p:=⟨s,3,none⟩) hB _).setCell (p:=⟨s,4,none⟩) hB _).setCell (p:=⟨s,5,none⟩) hB _).setCell (p:=⟨s,6,none⟩) hB _).setCell (p:=⟨s,7,none⟩) hB _).setCell (p:=⟨s,8,none⟩) hB _
theorem sM{p:Prop}(h:p):Hid p:=h
def Inv(X:Nat→Nat→Prop)(B:Nat)(w:World)(bs b:Nat)(V:Value)(xs:List AV)(n:Nat)(sv:SV)(out:List UInt8)(wr:World):Prop:=
  ∃(p:Value) (g:Option Nat) (a3 a4 a5 a6:Option Addr) (c3 c4 c5 c6:Nat),(p= .pointer none∨p= .pointer (some ⟨b,0,none⟩))∧Bld B b p g out wr∧g≠some bs∧bs≠b∧B≤bs∧
    wr.heap[bs]? =some (.cells (sv.cs a3 a4 a5 a6 c3 c4 c5 c6) 68 (0,0))∧RV wr (Mx X bs b g) jO (.agg (sv.cs a3 a4 a5 a6 c3 c4 c5 c6)) (.agg sv.av)∧RV wr (Mx X bs b g) jO V (.sl xs n false)∧Below B w wr
theorem bPw{text:ByteArray}{lines:List (List ByteArray)}{x:Int}(hL:cE prog 68 [.v (.string text)] (.tup [.sl (lines.flatMap (csl kD)) lines.length false,.v (.int .i64 x),.v (.int .i64 0)]))
 {words:List Int} {S:Nat→SV} (hS0:S 0=⟨0,0,0,[],0,[],0,[],0,words.flatMap (ci .u64),words.length,0,false⟩) {told:Nat→ByteArray} {outs:Nat→List UInt8} (h0:outs 0=[]) (hlen: ∀k,k≤lines.length→(outs k).length≤1000000)
 (hstep: ∀(k:Nat) (h:k<lines.length),(lines[k]=[]∧S (k+1)=S k∧outs (k+1)=outs k)∨(lines[k]≠[]∧outs (k+1)=outs k++(told k).data.toList++[10]∧cE prog 28 [.agg (S k).av,.sl (lines[k].flatMap kD) lines[k].length false] (.tup [.agg (S (k+1)).av,.v (.string (told k))])))
 (hn:lines.length≤1000000)
 {w:World} {X:Nat→Nat→Prop} (hX:XL X w) {W:Value} (hW:RV w X jO W (.sl (words.flatMap (ci .u64)) words.length false)):
 Calls prog 32 #[.string text,W] w fun e w'=>e= .returned (.string ⟨(outs lines.length).toArray⟩)∧Below w.heap.size w w':=by
 have mixed:=Tryz.lays169.mixed;have u36:=run_underlying underlying36;have u3:=run_underlying underlying3;have e0: ∀args w,(callFunc 68 args).run prog w= .ok (.enter 68 args) w:=enters_of func68 (by kernel_rfl) rfl;have e1: ∀args w,(callFunc 28 args).run prog w= .ok (.enter 28 args) w:=enters_of func28 (by kernel_rfl) rfl;have e2: ∀args w,(callFunc 70 args).run prog w= .ok (.enter 70 args) w:=enters_of func70 (by kernel_rfl) rfl;have e3: ∀args w,(callFunc 71 args).run prog w= .ok (.enter 71 args) w:=enters_of func71 (by kernel_rfl) rfl;have e4: ∀args w,(callFunc 72 args).run prog w= .ok (.enter 72 args) w:=enters_of func72 (by kernel_rfl) rfl
 go_enter func32,ntmps32
 go_wp2_with (go_at_fn 68;refine (aW6 hL hX).mono ?_)
 rintro e w1 ⟨V,rfl,hV,hb1⟩;have hW1:RV w1 X jO W (.sl (words.flatMap (ci .u64)) words.length false):=hW.mono ⟨fun b i v hc hm=>⟨by rw [World.cell?_of_block (w:=w) (w':=w1) (hb1.block b (block_lt_of_cell hc))];exact hc,hm⟩,fun _ h=>h,fun _ h=> .inl h,fun _ _ h=> .inl h⟩;obtain ⟨Wa,Wc,rfl⟩:=aHt hW;obtain ⟨Va,Vc,rfl⟩:=aHt hV;have hsz:=hb1.size
 go_wp2
 have I0:Inv X w.heap.size w w1.heap.size (w1.heap.size+1) (.slice Va lines.length Vc) (lines.flatMap (csl kD)) lines.length (S 0) (outs 0) ((w1.alloc (.cells #[.int .i64 0,.int .i64 0,.int .i64 0,.slice none 0 0,.slice none 0 0,.slice none 0 0,.slice Wa words.length Wc,.int .i64 0,.bool false] 68)).alloc (.cells #[.pointer none,.slice none 0 0] 133)):=by
  have n0:(w1.alloc (.cells #[.int .i64 0,.int .i64 0,.int .i64 0,.slice none 0 0,.slice none 0 0,.slice none 0 0,.slice Wa words.length Wc,.int .i64 0,.bool false] 68)).heap.size=w1.heap.size+1:=by simp
  have fr: ∀j,j<w1.heap.size→j≠w1.heap.size→j≠w1.heap.size+1→some j≠(none:Option Nat)→((w1.alloc (.cells #[.int .i64 0,.int .i64 0,.int .i64 0,.slice none 0 0,.slice none 0 0,.slice none 0 0,.slice Wa words.length Wc,.int .i64 0,.bool false] 68)).alloc (.cells #[.pointer none,.slice none 0 0] 133)).heap[j]? =w1.heap[j]? :=fun j h1 _ _ _=>by
   rw [Lib.alloc_old _ _ j (by rw [n0];omega),Lib.alloc_old _ _ j h1]
  have hm:fQ w1 X jO _ (Mx X w1.heap.size (w1.heap.size+1) none) jO:=⟨fun j i v hc hm=>⟨by rw [World.cell?_of_block (w:=w1) (fr j (block_lt_of_cell hc) (by have:=block_lt_of_cell hc;simp only at this ⊢; omega) (by have:=block_lt_of_cell hc;simp only at this ⊢; omega) (by simp))];exact hc,by
   have:=block_lt_of_cell hc;simp only at this;rintro (q|q|q|q)
   · exact hm q
   · omega
   · omega
   · cases q⟩,fun _ h=>h,fun _ h=> .inl h,fun _ _ h=> .inl h⟩
  refine ⟨.pointer none,none,none,none,none,Wa,0,0,0,Wc,.inl rfl,⟨.slice none 0 0,by omega,by rw [←n0];exact heap_alloc_new _ _,⟨by rw [h0];rfl,.inl ⟨rfl,by rw [h0];rfl⟩⟩,rfl,by simp⟩,by simp,by omega,by omega,?_,?_,hV.mono hm,(hb1.alloc om _).alloc (by rw [n0];omega) _⟩
  · rw [Lib.alloc_old _ _ _ (by rw [n0];omega),heap_alloc_new,hS0];rfl
  ·
   rw [hS0];refine .agg _ _ rfl fun j a hj=>?_
   match j,hj with
   |0,hj=>cases hj;exact .v _
   |1,hj=>cases hj;exact .v _
   |2,hj=>cases hj;exact .v _
   |3,hj=>cases hj;exact .slnil _ _
   |4,hj=>cases hj;exact .slnil _ _
   |5,hj=>cases hj;exact .slnil _ _
   |6,hj=>cases hj;exact hW1.mono hm
   |7,hj=>cases hj;exact .v _
   |8,hj=>cases hj;exact .v _
   |j+9,hj=>simp [SV.av] at hj
 have HI:=sM I0;clear I0 hW hW1 hV
 go_loopw [34] (fun i wr=> ∃k:Nat,k≤lines.length∧i= .int .i64 k∧Hid (Inv X w.heap.size w w1.heap.size (w1.heap.size+1) (.slice Va lines.length Vc) (lines.flatMap (csl kD)) lines.length (S k) (outs k) wr)) (fun i _=>lines.length-(Lib.intOf i).toNat)
 case atStart=>exact ⟨0,Nat.zero_le _,rfl,HI⟩
 case round=>
  obtain ⟨k,hk,rfl,HI⟩:=hrel;obtain ⟨p,g,a3,a4,a5,a6,c3,c4,c5,c6,hp,hB,hg,hsb,hbs,hses,hrs,hrv,hbw⟩:=HI.out;have Hp:=sM hp;have HB:=sM hB;have Hg:=sM hg;have Hses:=sM hses;have Hrs:=sM hrs;have Hrv:=sM hrv;have Hbw:=sM hbw;clear hp hB hg hsb hbs hses hrs hrv hbw
  by_cases hlt:k<lines.length
  ·
   obtain ⟨vb,voff,la,lc,rfl,hcell,hl⟩:=bU6 Hrv.out hlt;have Hl:=sM hl;clear hl;rcases hstep k hlt with ⟨he,hS,ho⟩|⟨hne,ho,hP⟩
   ·
    have hl0:lines[k].length=0:=by rw [he];rfl
    rw [hl0] at hcell
    go_wp2
    refine ⟨⟨k+1,hlt,rfl,?_⟩,by simp [Lib.intOf];omega⟩;rw [hS,ho];exact HI
   ·
    have hl1:lines[k].length≠0:=fun h=>hne (List.eq_nil_of_length_eq_zero h);have hblt:=HB.out.lt;have hbslt:w1.heap.size<wr.heap.size:=(Array.getElem?_eq_some_iff.1 Hses.out).1
    have hM: ∀k i,Mx X w1.heap.size (w1.heap.size+1) g k i→k<wr.heap.size:=by
     rintro j i (q|rfl|rfl|q)
     · have:=hX.lt _ _ q;have:=Hbw.out.size;omega
     · exact hbslt
     · exact hblt
     · obtain ⟨v,_,_,hown,hv,_⟩:=HB.out;exact (hown.lt j (hv.trans q)).2
    have q0:wr.cell? ⟨w1.heap.size,0,none⟩=some (.int .i64 (S k).n0):=by rw [Lib.cell_of_heap Hses.out];rfl
    have q1:wr.cell? ⟨w1.heap.size,1,none⟩=some (.int .i64 (S k).n1):=by rw [Lib.cell_of_heap Hses.out];rfl
    have q2:wr.cell? ⟨w1.heap.size,2,none⟩=some (.int .i64 (S k).n2):=by rw [Lib.cell_of_heap Hses.out];rfl
    have q3:wr.cell? ⟨w1.heap.size,3,none⟩=some (.slice a3 (S k).l3 c3):=by rw [Lib.cell_of_heap Hses.out];rfl
    have q4:wr.cell? ⟨w1.heap.size,4,none⟩=some (.slice a4 (S k).l4 c4):=by rw [Lib.cell_of_heap Hses.out];rfl
    have q5:wr.cell? ⟨w1.heap.size,5,none⟩=some (.slice a5 (S k).l5 c5):=by rw [Lib.cell_of_heap Hses.out];rfl
    have q6:wr.cell? ⟨w1.heap.size,6,none⟩=some (.slice a6 (S k).l6 c6):=by rw [Lib.cell_of_heap Hses.out];rfl
    have q7:wr.cell? ⟨w1.heap.size,7,none⟩=some (.int .i64 (S k).n7):=by rw [Lib.cell_of_heap Hses.out];rfl
    have q8:wr.cell? ⟨w1.heap.size,8,none⟩=some (.bool (S k).b8):=by rw [Lib.cell_of_heap Hses.out];rfl
    go_wp2_with (go_at_fn 28;refine (bPv hP ⟨hM,hX.tab.keep Hbw.out⟩ Hrs.out Hl.out).mono ?_)
    rintro e w2 ⟨b3,b4,b5,b6,d3,d4,d5,d6,rfl,hr2,hb2⟩;have h2s:=(hb2.block _ hbslt).trans Hses.out;have r0:w2.cell? ⟨w1.heap.size,0,none⟩=some (.int .i64 (S k).n0):=by rw [Lib.cell_of_heap h2s];rfl
    have f0:w2.frozen? ⟨w1.heap.size,0,none⟩=false:=Lib.frozen_of_heap h2s 0;have r1:w2.cell? ⟨w1.heap.size,1,none⟩=some (.int .i64 (S k).n1):=by rw [Lib.cell_of_heap h2s];rfl
    have f1:w2.frozen? ⟨w1.heap.size,1,none⟩=false:=Lib.frozen_of_heap h2s 1;have r2:w2.cell? ⟨w1.heap.size,2,none⟩=some (.int .i64 (S k).n2):=by rw [Lib.cell_of_heap h2s];rfl
    have f2:w2.frozen? ⟨w1.heap.size,2,none⟩=false:=Lib.frozen_of_heap h2s 2;have r3:w2.cell? ⟨w1.heap.size,3,none⟩=some (.slice a3 (S k).l3 c3):=by rw [Lib.cell_of_heap h2s];rfl
    have f3:w2.frozen? ⟨w1.heap.size,3,none⟩=false:=Lib.frozen_of_heap h2s 3;have r4:w2.cell? ⟨w1.heap.size,4,none⟩=some (.slice a4 (S k).l4 c4):=by rw [Lib.cell_of_heap h2s];rfl
    have f4:w2.frozen? ⟨w1.heap.size,4,none⟩=false:=Lib.frozen_of_heap h2s 4;have r5:w2.cell? ⟨w1.heap.size,5,none⟩=some (.slice a5 (S k).l5 c5):=by rw [Lib.cell_of_heap h2s];rfl
    have f5:w2.frozen? ⟨w1.heap.size,5,none⟩=false:=Lib.frozen_of_heap h2s 5;have r6:w2.cell? ⟨w1.heap.size,6,none⟩=some (.slice a6 (S k).l6 c6):=by rw [Lib.cell_of_heap h2s];rfl
    have f6:w2.frozen? ⟨w1.heap.size,6,none⟩=false:=Lib.frozen_of_heap h2s 6;have r7:w2.cell? ⟨w1.heap.size,7,none⟩=some (.int .i64 (S k).n7):=by rw [Lib.cell_of_heap h2s];rfl
    have f7:w2.frozen? ⟨w1.heap.size,7,none⟩=false:=Lib.frozen_of_heap h2s 7;have r8:w2.cell? ⟨w1.heap.size,8,none⟩=some (.bool (S k).b8):=by rw [Lib.cell_of_heap h2s];rfl
    have f8:w2.frozen? ⟨w1.heap.size,8,none⟩=false:=Lib.frozen_of_heap h2s 8;clear q0 q1 q2 q3 q4 q5 q6 q7 q8;have Hr2:=sM hr2;have Hb2:=sM hb2;have H2s:=sM h2s;clear hr2 hb2 h2s
    go_wp2_with fail
    refine cM1 H2s.out fun w3 h3=>?_
    have hb3:Bld w.heap.size (w1.heap.size+1) p g (outs k) w3:=HB.out.keep (by rw [h3.ne _ om,Hb2.out.block _ hblt]) (fun j hj=>by
     have hjl:=hM j 0 (.inr (.inr (.inr hj)));rw [h3.ne j (fun e=>Hg.out (by rw [hj,e])),Hb2.out.block j hjl])
    have hsz2:=Hb2.out.size;have hsz3:=h3.size;have hlk:=hlen (k+1) hlt;rw [ho] at hlk;simp only [List.length_append,List.length_cons,List.length_nil] at hlk;have hst:(told k).size=(told k).data.toList.length:=rfl;refine (aMl Hp.out hb3 (told k) om om).mono ?_;rintro e w4 ⟨rfl,g4,hb4,hw4,hfr4,hg4⟩;have Hb4:=sM hb4;have Hw4:=sM hw4;have Hf4:=sM hfr4;have Hg4:=sM hg4;have H3:=sM h3;clear hb4 hw4 hfr4 hg4 h3 hb3
    go_wp2_with fail
    refine (bHo (.inr rfl) Hb4.out 10 (by simp only [List.length_append];omega) (by have:=Hw4.out.size;omega)).mono ?_;rintro e w5 ⟨rfl,g5,hb5,hw5,hfr5,hg5⟩;have Hb5:=sM hb5;have Hw5:=sM hw5;have Hf5:=sM hfr5;have Hg5:=sM hg5;clear hb5 hw5 hfr5 hg5
    go_wp2
    have hz4:=Hw4.out.size;have hz5:=Hw5.out.size;refine ⟨⟨k+1,hlt,rfl,sM ?_⟩,by simp [Lib.intOf];omega⟩
    have hgb:some (w1.heap.size+1)≠g:=by
     obtain ⟨_,_,_,_,_,hx⟩:=HB.out;exact fun e=>hx e.symm
    have hgs:some w1.heap.size≠g:=fun e=>Hg.out e.symm
    have h4s:some w1.heap.size≠g4:=by
     rcases Hg4.out with e|⟨j,e,hj⟩
     · rw [e];exact hgs
     · rw [e];intro e';cases e';omega
    have h5s:some w1.heap.size≠g5:=by
     rcases Hg5.out with e|⟨j,e,hj⟩
     · rw [e];exact h4s
     · rw [e];intro e';cases e';omega
    have fr: ∀j,j<w2.heap.size→j≠w1.heap.size→j≠w1.heap.size+1→some j≠g→w5.heap[j]? =w2.heap[j]? :=fun j h1 h2 h3 h4=>by
     have h5:some j≠g4:=by
      rcases Hg4.out with e|⟨i,e,hi⟩
      · rw [e];exact h4
      · rw [e];intro e';cases e';omega
     rw [Hf5.out j om h3 h5,Hf4.out j om h3 h4,H3.out.ne j h2]
    have hg5:g5=g∨ ∃j,g5=some j∧w2.heap.size≤j:=by
     rcases Hg5.out with e|⟨j,e,hj⟩
     ·
      rcases Hg4.out with e'|⟨j,e',hj⟩
      · exact .inl (e.trans e')
      · exact .inr ⟨j,e.trans e',by omega⟩
     · exact .inr ⟨j,e,by omega⟩
    have hbs:=Hbw.out.size;refine ⟨_,g5,b3,b4,b5,b6,d3,d4,d5,d6,.inr rfl,by rw [ho];exact Hb5.out,fun e=>h5s e.symm,by omega,by omega,?_,Hr2.out.mono (aY0 fr hg5),?_,?_⟩
    · rw [Hf5.out _ om om h4s,Hf4.out _ om om hgs];exact H3.out.at_
    · exact (Hrv.out.mono (aY0 (g':=g) (fun j h1 _ _ _=>Hb2.out.block j h1) (.inl rfl))).mono (aY0 fr hg5)
    · have q2:Below w.heap.size w w2:=Hbw.out.trans (Hb2.out.mono om);exact ((H3.out.below _ _ q2 om).trans Hw4.out).trans Hw5.out
  ·
   have hke:k=lines.length:=by omega
   subst hke
   go_wp2_with fail
   refine (Tryz.Builder_String_any w.heap.size (w1.heap.size+1) (outs lines.length) wr (HB.out.is Hp.out) Hbw.out.size).mono ?_;rintro e w' ⟨rfl,hb⟩;have Hb:=sM hb;clear hb
   go_wp2
   go_ret
   exact ⟨rfl,Hbw.out.trans Hb.out⟩
end Go.Proofs.YtkdohhmacfoolaaGreatDoor
