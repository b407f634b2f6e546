/- Facts. No condition. -/
import Derived.WalkKit
set_option linter.unusedSimpArgs false
set_option linter.unusedVariables false
set_option maxRecDepth 4000
namespace Go
theorem om{p:Prop}(h:p:=by omega):p:=h
end Go
namespace Go.AM
section
open Go.RowKit
inductive AV where
  |any
  |v (x:Value)
  |sl (xs:List AV) (len:Nat) (full:Bool)
  |ptr (xs:List AV)
  |agg (xs:List AV)
  |tup (xs:List AV)
  |ifc (t:TypeId) (x:AV)
  |clo (fn:Fn) (first captured:List AV)
  |own (id off len:Nat)
  |adr (id off:Nat)
instance:Inhabited AV:=⟨.any⟩
structure Own where
  b:Nat
  base:Nat
  size:Nat
  sz:Nat
inductive OSt where
  |fresh
  |dead
  |virt
  |live (o:Own)
inductive Ent where
  |fresh
  |dead
  |cells (sz:Nat) (xs:List AV) (lock:Nat)
  |iter (s:ByteArray) (pos:Nat)
  |hid (sz:Nat) (I:List AV→Prop)
def Ent.lock:Ent→Nat
  | .cells _ _ l=>l
  |_=>0
structure aH where
  ent:Nat→Ent
  nxt:Nat
def upd(f:Nat→Ent)(i:Nat)(e:Ent):Nat→Ent:=fun j=>if j=i then e else f j
theorem upd_same(f:Nat→Ent)(i:Nat)(e:Ent):upd f i e i=e:=by simp [upd]
theorem upd_ne(f:Nat→Ent)(i j:Nat)(e:Ent)(h:j≠i):upd f i e j=f j:=by simp [upd,h]
inductive RV(w:World)(M:Nat→Nat→Prop)(O:Nat→OSt):Value→AV→Prop where
  |any (x:Value):RV w M O x .any
  |v (x:Value):RV w M O x (.v x)
  |sl (b off cap:Nat) (xs:List AV) (len:Nat) (full:Bool) (cs:Nat→Value)
      (hc: ∀k,k<xs.length→w.cell? ⟨b,off+k,none⟩=some (cs k)∧ ¬M b (off+k))
      (hx: ∀k a,xs[k]? =some a→RV w M O (cs k) a) (hl:len≤cap) (hf:full=true→cap=len):
      RV w M O (.slice (some ⟨b,off,none⟩) len cap) (.sl xs len full)
  |slnil (a:Option Addr) (full:Bool):RV w M O (.slice a 0 0) (.sl [] 0 full)
  |ptr (b off:Nat) (xs:List AV) (cs:Nat→Value)
      (hc: ∀k,k<xs.length→w.cell? ⟨b,off+k,none⟩=some (cs k)∧ ¬M b (off+k))
      (hx: ∀k a,xs[k]? =some a→RV w M O (cs k) a):
      RV w M O (.pointer (some ⟨b,off,none⟩)) (.ptr xs)
  |agg (cs:Array Value) (xs:List AV) (hl:cs.size=xs.length) (hx: ∀k a,xs[k]? =some a→RV w M O (cs.getD k undef) a):
      RV w M O (.agg cs) (.agg xs)
  |tup (cs:Array Value) (xs:List AV) (hl:cs.size=xs.length) (hx: ∀k a,xs[k]? =some a→RV w M O (cs.getD k undef) a):
      RV w M O (.tuple cs) (.tup xs)
  |ifc (t:TypeId) (x:Value) (a:AV) (h:RV w M O x a):RV w M O (.iface t x) (.ifc t a)
  |clo (fn:Fn) (f c:Array Value) (fs cs:List AV) (hl:f.size=fs.length) (hx: ∀k a,fs[k]? =some a→RV w M O (f.getD k undef) a)
      (hl':c.size=cs.length) (hx': ∀k a,cs[k]? =some a→RV w M O (c.getD k undef) a):RV w M O (.func fn f c) (.clo fn fs cs)
  |owndead (x:Value) (id off len:Nat) (h:O id= .dead) (h1:x.oneCell'=true):RV w M O x (.own id off len)
  |own (id off len cap:Nat) (o:Own) (h:O id= .live o) (hl:len≤cap) (hs:o.base+off+cap*o.sz≤o.size):
      RV w M O (.slice (some ⟨o.b,o.base+off,none⟩) len cap) (.own id off len)
  |ownvirt (a:Option Addr) (id off:Nat) (h:O id= .virt):RV w M O (.slice a 0 0) (.own id off 0)
  |ownz (a:Option Addr) (id off:Nat) (o:Own) (h:O id= .live o):RV w M O (.slice a 0 0) (.own id off 0)
  |adrdead (x:Value) (id off:Nat) (h:O id= .dead) (h1:x.oneCell'=true):RV w M O x (.adr id off)
  |adr (id off:Nat) (o:Own) (h:O id= .live o):RV w M O (.pointer (some ⟨o.b,o.base+off,none⟩)) (.adr id off)
structure fQ(w:World)(M:Nat→Nat→Prop)(O:Nat→OSt)(w':World)(M':Nat→Nat→Prop)(O':Nat→OSt):Prop where
  cell: ∀b i v,w.cell? ⟨b,i,none⟩=some v→ ¬M b i→w'.cell? ⟨b,i,none⟩=some v∧ ¬M' b i
  dead: ∀id,O id= .dead→O' id= .dead
  virt: ∀id,O id= .virt→O' id= .virt∨O' id= .dead
  live: ∀id o,O id= .live o→O' id= .live o∨O' id= .dead
theorem fQ.refl(w:World)(M:Nat→Nat→Prop)(O:Nat→OSt):fQ w M O w M O:=
 ⟨fun _ _ _ h k=>⟨h,k⟩,fun _ h=>h,fun _ h=> .inl h,fun _ _ h=> .inl h⟩
theorem fQ.trans{w w' w'':World}{M M' M'':Nat→Nat→Prop}{O O' O'':Nat→OSt}(h:fQ w M O w' M' O')(k:fQ w' M' O' w'' M'' O''):
 fQ w M O w'' M'' O'':=by
 refine ⟨fun b i v hc hm=>?_,fun id hd=>k.dead id (h.dead id hd),fun id hv=>?_,fun id o hl=>?_⟩
 · obtain ⟨h1,h2⟩:=h.cell b i v hc hm;exact k.cell b i v h1 h2
 ·
  rcases h.virt id hv with h1|h1
  · exact k.virt id h1
  · exact .inr (k.dead id h1)
 ·
  rcases h.live id o hl with h1|h1
  · exact k.live id o h1
  · exact .inr (k.dead id h1)
theorem RV.mono{w w':World}{M M':Nat→Nat→Prop}{O O':Nat→OSt}(ht:fQ w M O w' M' O'){x:Value}{a:AV}(h:RV w M O x a):
 RV w' M' O' x a:=by
 induction h with
 |any x=>exact .any x
 |v x=>exact .v x
 |sl b off cap xs len full cs hc _ hl hf ih=>
  exact .sl b off cap xs len full cs (fun k hk=>ht.cell _ _ _ (hc k hk).1 (hc k hk).2) ih hl hf
 |slnil a full=>exact .slnil a full
 |ptr b off xs cs hc _ ih=>exact .ptr b off xs cs (fun k hk=>ht.cell _ _ _ (hc k hk).1 (hc k hk).2) ih
 |agg cs xs hl _ ih=>exact .agg cs xs hl ih
 |tup cs xs hl _ ih=>exact .tup cs xs hl ih
 |ifc t x a _ ih=>exact .ifc t x a ih
 |clo fn f c fs cs hl _ hl' _ ih ih'=>exact .clo fn f c fs cs hl ih hl' ih'
 |owndead x id off len h h1=>exact .owndead x id off len (ht.dead id h) h1
 |own id off len cap o h hl hs=>
  rcases ht.live id o h with h1|h1
  · exact .own id off len cap o h1 hl hs
  · exact .owndead _ id off len h1 rfl
 |ownvirt a id off h=>
  rcases ht.virt id h with h1|h1
  · exact .ownvirt a id off h1
  · exact .owndead _ id off 0 h1 rfl
 |ownz a id off o h=>
  rcases ht.live id o h with h1|h1
  · exact .ownz a id off o h1
  · exact .owndead _ id off 0 h1 rfl
 |adrdead x id off h h1=>exact .adrdead x id off (ht.dead id h) h1
 |adr id off o h=>
  rcases ht.live id o h with h1|h1
  · exact .adr id off o h1
  · exact .adrdead _ id off h1 rfl
def Mut(X:Nat→Nat→Prop)(H:aH)(O:Nat→OSt)(b i:Nat):Prop:=
  X b i∨ ∃id o,O id= .live o∧o.b=b∧o.base+(H.ent id).lock≤i
def aB3(n:Nat)(w:World)(M:Nat→Nat→Prop)(O:Nat→OSt)(id:Nat):Ent→Prop
  | .fresh=>O id= .fresh
  | .dead=>O id= .dead
  | .cells sz xs lock=>(O id= .virt∧xs=[]∧lock=0)∨ ∃o,O id= .live o∧o.sz=sz∧lock≤xs.length∧n≤o.b∧o.base+xs.length≤o.size∧
      ∃c elem fr,w.heap[o.b]? =some (.cells c elem fr)∧c.size=o.size∧(∀i,i<c.size→ ¬(fr.1≤i∧i<fr.2))∧
        ∀k a,xs[k]? =some a→RV w M O (c.getD (o.base+k) undef) a
  | .iter s pos=> ∃o,O id= .live o∧o.base=0∧n≤o.b∧w.heap[o.b]? =some (.stringIter s pos)
  | .hid sz I=> ∃xs,I xs∧((O id= .virt∧xs=[])∨ ∃o,O id= .live o∧o.sz=sz∧n≤o.b∧o.base+xs.length≤o.size∧
      ∃c elem fr,w.heap[o.b]? =some (.cells c elem fr)∧c.size=o.size∧(∀i,i<c.size→ ¬(fr.1≤i∧i<fr.2))∧
        ∀k a,xs[k]? =some a→RV w M (fun _=> .fresh) (c.getD (o.base+k) undef) a)
def Tab(w:World):Prop:= ∃e fr,w.heap[(3:Nat)]? =some (.cells ((List.range 20).map fun (i:Nat)=>Value.int .u64 ((10^i:Nat):Int)).toArray e fr)
theorem Tab.keep{w w':World}(h:Tab w)(hb:Below w.heap.size w w'):Tab w':=by
 obtain ⟨e,fr,hk⟩:=h;exact ⟨e,fr,(hb.block _ (Array.getElem?_eq_some_iff.1 hk).1).trans hk⟩
structure XL(X:Nat→Nat→Prop)(w:World):Prop where
  lt: ∀b i,X b i→b<w.heap.size
  tab:Tab w
structure Sim(X:Nat→Nat→Prop)(w0 w:World)(H:aH)(O:Nat→OSt):Prop where
  below:Below w0.heap.size w0 w
  xlt:XL X w0
  ent: ∀id,aB3 w0.heap.size w (Mut X H O) O id (H.ent id)
  inj: ∀i j o o',O i= .live o→O j= .live o'→o.b=o'.b→i=j
def RVs(w:World)(M:Nat→Nat→Prop)(O:Nat→OSt)(vs:Array Value)(ts:List AV):Prop:=
  vs.size=ts.length∧ ∀k a,ts[k]? =some a→RV w M O (vs.getD k undef) a
theorem RVs.mono{w w':World}{M M':Nat→Nat→Prop}{O O':Nat→OSt}(ht:fQ w M O w' M' O'){vs:Array Value}{ts:List AV}(h:RVs w M O vs ts):
 RVs w' M' O' vs ts:=⟨h.1,fun k a hk=>(h.2 k a hk).mono ht⟩
theorem RVs.getD{w:World}{M:Nat→Nat→Prop}{O:Nat→OSt}{vs:Array Value}{ts:List AV}(h:RVs w M O vs ts)(k:Nat):RV w M O (vs.getD k undef) (ts.getD k .any):=by
 rcases Nat.lt_or_ge k ts.length with hk|hk
 ·
  have:=h.2 k ts[k] (by simp [hk])
  simpa [List.getD,hk] using this
 ·
  have:ts.getD k .any= .any:=by simp [List.getD,hk]
  rw [this];exact .any _
end
section
open Go.RowKit
def oP(f:Nat→OSt)(i:Nat)(e:OSt):Nat→OSt:=fun j=>if j=i then e else f j
theorem dL(f:Nat→OSt)(i:Nat)(e:OSt):oP f i e i=e:=by simp [oP]
theorem fF(f:Nat→OSt)(i j:Nat)(e:OSt)(h:j≠i):oP f i e j=f j:=by simp [oP,h]
def aH.put(H:aH)(i:Nat)(e:Ent):aH:=⟨upd H.ent i e,H.nxt⟩
theorem uC{X:Nat→Nat→Prop}{H:aH}{O:Nat→OSt}{id:Nat}{e:Ent}{st:OSt}{b i:Nat}(h:Mut X (H.put id e) (oP O id st) b i):
 (∃o,st= .live o∧o.b=b∧o.base+e.lock≤i)∨Mut X H O b i:=by
 rcases h with h|⟨j,o,hj,hb,hi⟩
 · exact .inr (.inl h)
 ·
  by_cases hji:j=id
  · subst hji;rw [dL] at hj;simp only [aH.put,upd_same] at hi;exact .inl ⟨o,hj,hb,hi⟩
  · rw [fF _ _ _ _ hji] at hj;simp only [aH.put,upd_ne _ _ _ _ hji] at hi;exact .inr (.inr ⟨j,o,hj,hb,hi⟩)
theorem aB3.mono{n:Nat}{w w':World}{M M':Nat→Nat→Prop}{O O':Nat→OSt}{id:Nat}{e:Ent}(h:aB3 n w M O id e)(ht:fQ w M O w' M' O')
 (hO:O' id=O id) (hb: ∀o,O id= .live o→w'.heap[o.b]? =w.heap[o.b]?):aB3 n w' M' O' id e:=by
 cases e with
 |fresh=>simpa [aB3,hO] using h
 |dead=>simpa [aB3,hO] using h
 |cells sz xs lock=>
  rcases h with ⟨h1,h2⟩|⟨o,h1,h2,h3,h4,h5,c,elem,fr,h6,h7,h8,h9⟩
  · exact .inl ⟨hO.trans h1,h2⟩
  exact .inr ⟨o,hO.trans h1,h2,h3,h4,h5,c,elem,fr,(hb o h1).trans h6,h7,h8,fun k a hk=>(h9 k a hk).mono ht⟩
 |iter s pos=>
  obtain ⟨o,h1,h2,h3,h4⟩:=h;exact ⟨o,hO.trans h1,h2,h3,(hb o h1).trans h4⟩
 |hid sz I=>
  obtain ⟨xs,hI,h⟩:=h;refine ⟨xs,hI,?_⟩;rcases h with ⟨h1,h2⟩|⟨o,h1,h2,h4,h5,c,elem,fr,h6,h7,h8,h9⟩
  · exact .inl ⟨hO.trans h1,h2⟩
  exact .inr ⟨o,hO.trans h1,h2,h4,h5,c,elem,fr,(hb o h1).trans h6,h7,h8,fun k a hk=>(h9 k a hk).mono ⟨ht.cell,fun _ h=>h,fun _ h=> .inl h,fun _ _ h=> .inl h⟩⟩
theorem Sim.update{X:Nat→Nat→Prop}{w0 w w':World}{H:aH}{O:Nat→OSt}(hs:Sim X w0 w H O)(id:Nat)(e:Ent)(st:OSt)
 (hb:Below w0.heap.size w0 w') (ht:fQ w (Mut X H O) O w' (Mut X (H.put id e) (oP O id st)) (oP O id st))
 (hother: ∀j o,j≠id→O j= .live o→w'.heap[o.b]? =w.heap[o.b]?)
 (he:aB3 w0.heap.size w' (Mut X (H.put id e) (oP O id st)) (oP O id st) id e)
 (hinj: ∀o,st= .live o→ ∀j o',j≠id→O j= .live o'→o'.b≠o.b):Sim X w0 w' (H.put id e) (oP O id st):=by
 refine ⟨hb,hs.xlt,fun j=>?_,fun i j o o' hi hj hbb=>?_⟩
 ·
  by_cases hj:j=id
  ·
   subst hj
   simpa only [aH.put,upd_same] using he
  ·
   have:(H.put id e).ent j=H.ent j:=by simp only [aH.put,upd_ne _ _ _ _ hj]
   rw [this];exact (hs.ent j).mono ht (fF _ _ _ _ hj) (fun o ho=>hother j o hj ho)
 ·
  by_cases h1:i=id
  ·
   by_cases h2:j=id
   · rw [h1,h2]
   · rw [h1,dL] at hi;rw [fF _ _ _ _ h2] at hj;exact absurd hbb.symm (hinj o hi j o' h2 hj)
  ·
   by_cases h2:j=id
   · rw [h2,dL] at hj;rw [fF _ _ _ _ h1] at hi;exact absurd hbb (hinj o' hj i o h1 hi)
   · rw [fF _ _ _ _ h1] at hi;rw [fF _ _ _ _ h2] at hj;exact hs.inj i j o o' hi hj hbb
theorem Sim.live_lt{X:Nat→Nat→Prop}{w0 w:World}{H:aH}{O:Nat→OSt}(hs:Sim X w0 w H O){id:Nat}{o:Own}(h:O id= .live o):
 w0.heap.size≤o.b∧o.b<w.heap.size:=by
 have:=hs.ent id
 cases he:H.ent id with
 |fresh=>rw [he] at this;simp [aB3,h] at this
 |dead=>rw [he] at this;simp [aB3,h] at this
 |cells sz xs lock=>
  rw [he] at this;rcases this with ⟨h1,_⟩|⟨o',h1,_,_,h4,_,c,elem,fr,h6,_⟩
  · rw [h] at h1;cases h1
  rw [h] at h1;cases h1;exact ⟨h4,(Array.getElem?_eq_some_iff.1 h6).1⟩
 |iter s pos=>
  rw [he] at this;obtain ⟨o',h1,_,h3,h4⟩:=this;rw [h] at h1;cases h1;exact ⟨h3,(Array.getElem?_eq_some_iff.1 h4).1⟩
 |hid sz I=>
  rw [he] at this;obtain ⟨xs,_,⟨h1,_⟩|⟨o',h1,_,h4,_,c,elem,fr,h6,_⟩⟩:=this
  · rw [h] at h1;cases h1
  rw [h] at h1;cases h1;exact ⟨h4,(Array.getElem?_eq_some_iff.1 h6).1⟩
theorem Sim.fresh{X:Nat→Nat→Prop}{w0 w:World}{H:aH}{O:Nat→OSt}(hs:Sim X w0 w H O){id:Nat}(h:H.ent id= .fresh):O id= .fresh:=by
 have:=hs.ent id;rw [h] at this;exact this
theorem Sim.new{X:Nat→Nat→Prop}{w0 w w':World}{H:aH}{O:Nat→OSt}(hs:Sim X w0 w H O)(id:Nat)(hf:H.ent id= .fresh)
 (c:Array Value) (elem:TypeId) (sz:Nat) (xs:List AV) (obj:Obj) (hw:w'.heap=w.heap.push obj) (ho:w'.os=w.os) (htp:w'.tape=w.tape) (hout:w'.output=w.output)
 (fr:Nat×Nat) (hobj:obj= .cells c elem fr) (hfr: ∀i,i<c.size→ ¬(fr.1≤i∧i<fr.2)) (hlen:xs.length≤c.size)
 (hx: ∀k a,xs[k]? =some a→RV w (Mut X H O) O (c.getD k undef) a):
 ∃O',Sim X w0 w' (H.put id (.cells sz xs 0)) O'∧fQ w (Mut X H O) O w' (Mut X (H.put id (.cells sz xs 0)) O') O'∧
  O' id= .live ⟨w.heap.size,0,c.size,sz⟩:=by
 have hO:=hs.fresh hf;have hnew:w'.heap[w.heap.size]? =some obj:=by rw [hw];simp
 have hold: ∀k,k<w.heap.size→w'.heap[k]? =w.heap[k]? :=fun k hk=>by rw [hw,Array.getElem?_push,if_neg om]
 have ht:fQ w (Mut X H O) O w' (Mut X (H.put id (.cells sz xs 0)) (oP O id (.live ⟨w.heap.size,0,c.size,sz⟩))) (oP O id (.live ⟨w.heap.size,0,c.size,sz⟩)):=by
  refine ⟨fun b i v hc hm=>?_,fun j hd=>?_,fun j hv=>?_,fun j o hl=>?_⟩
  ·
   have hlt:=block_lt_of_cell hc;refine ⟨?_,fun hm'=>?_⟩
   · rw [World.cell?_of_block (w:=w) (w':=w') (hold b hlt)];exact hc
   ·
    rcases uC hm' with ⟨o,h1,h2,_⟩|h
    · cases h1;simp at h2;simp at hlt;omega
    · exact hm h
  ·
   have:j≠id:=fun e=>by rw [e,hO] at hd;cases hd
   rw [fF _ _ _ _ this];exact hd
  ·
   have:j≠id:=fun e=>by rw [e,hO] at hv;cases hv
   rw [fF _ _ _ _ this];exact .inl hv
  ·
   have:j≠id:=fun e=>by rw [e,hO] at hl;cases hl
   rw [fF _ _ _ _ this];exact .inl hl
 refine ⟨_,hs.update id _ _ ?_ ht ?_ ?_ ?_,ht,dL _ _ _⟩
 · refine hs.below.trans ⟨ho,htp,hout,by rw [hw];simp,fun k hk=>hold k (by have:=hs.below.size;omega)⟩
 · intro j o hj hl;exact hold _ (hs.live_lt hl).2
 ·
  refine .inr ⟨_,dL _ _ _,rfl,Nat.zero_le _,hs.below.size,by simpa using hlen,c,elem,fr,by rw [hnew,hobj],rfl,hfr,fun k a hk=>?_⟩;have:=(hx k a hk).mono ht
  simpa using this
 · intro o ho' j o' hj hl;cases ho';have:=(hs.live_lt hl).2;simp;omega
theorem Sim.newIter{X:Nat→Nat→Prop}{w0 w w':World}{H:aH}{O:Nat→OSt}(hs:Sim X w0 w H O)(id:Nat)(hf:H.ent id= .fresh)
 (s:ByteArray) (pos:Nat) (hw:w'.heap=w.heap.push (.stringIter s pos)) (ho:w'.os=w.os) (htp:w'.tape=w.tape) (hout:w'.output=w.output):
 ∃O',Sim X w0 w' (H.put id (.iter s pos)) O'∧fQ w (Mut X H O) O w' (Mut X (H.put id (.iter s pos)) O') O'∧
  O' id= .live ⟨w.heap.size,0,0,0⟩:=by
 have hO:=hs.fresh hf;have hnew:w'.heap[w.heap.size]? =some (.stringIter s pos):=by rw [hw];simp
 have hold: ∀k,k<w.heap.size→w'.heap[k]? =w.heap[k]? :=fun k hk=>by rw [hw,Array.getElem?_push,if_neg om]
 have ht:fQ w (Mut X H O) O w' (Mut X (H.put id (.iter s pos)) (oP O id (.live ⟨w.heap.size,0,0,0⟩))) (oP O id (.live ⟨w.heap.size,0,0,0⟩)):=by
  refine ⟨fun b i v hc hm=>?_,fun j hd=>?_,fun j hv=>?_,fun j o hl=>?_⟩
  ·
   have hlt:=block_lt_of_cell hc;refine ⟨?_,fun hm'=>?_⟩
   · rw [World.cell?_of_block (w:=w) (w':=w') (hold b hlt)];exact hc
   ·
    rcases uC hm' with ⟨o,h1,h2,_⟩|h
    · cases h1;simp at h2;simp at hlt;omega
    · exact hm h
  ·
   have:j≠id:=fun e=>by rw [e,hO] at hd;cases hd
   rw [fF _ _ _ _ this];exact hd
  ·
   have:j≠id:=fun e=>by rw [e,hO] at hv;cases hv
   rw [fF _ _ _ _ this];exact .inl hv
  ·
   have:j≠id:=fun e=>by rw [e,hO] at hl;cases hl
   rw [fF _ _ _ _ this];exact .inl hl
 refine ⟨_,hs.update id _ _ ?_ ht ?_ ?_ ?_,ht,dL _ _ _⟩
 · refine hs.below.trans ⟨ho,htp,hout,by rw [hw];simp,fun k hk=>hold k (by have:=hs.below.size;omega)⟩
 · intro j o hj hl;exact hold _ (hs.live_lt hl).2
 · exact ⟨_,dL _ _ _,rfl,hs.below.size,hnew⟩
 · intro o ho' j o' hj hl;cases ho';have:=(hs.live_lt hl).2;simp;omega
theorem Sim.same{X:Nat→Nat→Prop}{w0 w w':World}{H:aH}{O:Nat→OSt}(hs:Sim X w0 w H O)(hw:w'.heap=w.heap)(ho:w'.os=w.os)(htp:w'.tape=w.tape)(hout:w'.output=w.output):
 Sim X w0 w' H O∧fQ w (Mut X H O) O w' (Mut X H O) O:=by
 have ht:fQ w (Mut X H O) O w' (Mut X H O) O:=⟨fun b i v hc hm=>⟨by simpa [World.cell?,hw] using hc,hm⟩,fun _ h=>h,fun _ h=> .inl h,fun _ _ h=> .inl h⟩
 refine ⟨⟨hs.below.trans ⟨ho,htp,hout,by rw [hw];exact Nat.le_refl _,fun k _=>by rw [hw]⟩,hs.xlt,fun id=>(hs.ent id).mono ht rfl (fun _ _=>by rw [hw]),hs.inj⟩,ht⟩
theorem Sim.grow{X:Nat→Nat→Prop}{w0 w w':World}{H:aH}{O:Nat→OSt}(hs:Sim X w0 w H O)(hb:Below w.heap.size w w'):
 Sim X w0 w' H O∧fQ w (Mut X H O) O w' (Mut X H O) O:=by
 have ht:fQ w (Mut X H O) O w' (Mut X H O) O:=by
  refine ⟨fun b i v hc hm=>⟨?_,hm⟩,fun _ h=>h,fun _ h=> .inl h,fun _ _ h=> .inl h⟩;rw [World.cell?_of_block (w:=w) (w':=w') (hb.block b (block_lt_of_cell hc))];exact hc
 exact ⟨⟨hs.below.trans (hb.mono hs.below.size),hs.xlt,fun id=>(hs.ent id).mono ht rfl (fun o ho=>hb.block _ (hs.live_lt ho).2),hs.inj⟩,ht⟩
theorem Sim.kill{X:Nat→Nat→Prop}{w0 w:World}{H:aH}{O:Nat→OSt}(hs:Sim X w0 w H O)(id:Nat):
 ∃O',Sim X w0 w (H.put id .dead) O'∧fQ w (Mut X H O) O w (Mut X (H.put id .dead) O') O'∧(∀j,j≠id→O' j=O j)∧O' id= .dead:=by
 by_cases hO:O id= .fresh
 ·
  
  have ht:fQ w (Mut X H O) O w (Mut X (H.put id .dead) (oP O id .dead)) (oP O id .dead):=by
   refine ⟨fun b i v hc hm=>⟨hc,fun hm'=>?_⟩,fun j hd=>?_,fun j hv=>?_,fun j o hl=>?_⟩
   ·
    rcases uC hm' with ⟨o,h1,_⟩|h
    · cases h1
    · exact hm h
   ·
    have:j≠id:=fun e=>by rw [e,hO] at hd;cases hd
    rw [fF _ _ _ _ this];exact hd
   ·
    have:j≠id:=fun e=>by rw [e,hO] at hv;cases hv
    rw [fF _ _ _ _ this];exact .inl hv
   ·
    have:j≠id:=fun e=>by rw [e,hO] at hl;cases hl
    rw [fF _ _ _ _ this];exact .inl hl
  exact ⟨_,hs.update id _ _ hs.below ht (fun _ _ _ _=>rfl) (dL _ _ _) (fun o h=>by cases h),ht,fun j hj=>fF _ _ _ _ hj,dL _ _ _⟩
 ·
  have ht:fQ w (Mut X H O) O w (Mut X (H.put id .dead) (oP O id .dead)) (oP O id .dead):=by
   refine ⟨fun b i v hc hm=>⟨hc,fun hm'=>?_⟩,fun j hd=>?_,fun j hv=>?_,fun j o hl=>?_⟩
   ·
    rcases uC hm' with ⟨o,h1,_⟩|h
    · cases h1
    · exact hm h
   ·
    by_cases hj:j=id
    · subst hj;exact dL _ _ _
    · rw [fF _ _ _ _ hj];exact hd
   ·
    by_cases hj:j=id
    · subst hj;exact .inr (dL _ _ _)
    · rw [fF _ _ _ _ hj];exact .inl hv
   ·
    by_cases hj:j=id
    · subst hj;exact .inr (dL _ _ _)
    · rw [fF _ _ _ _ hj];exact .inl hl
  exact ⟨_,hs.update id _ _ hs.below ht (fun _ _ _ _=>rfl) (dL _ _ _) (fun o h=>by cases h),ht,fun j hj=>fF _ _ _ _ hj,dL _ _ _⟩
theorem Sim.lockUp{X:Nat→Nat→Prop}{w0 w:World}{H:aH}{O:Nat→OSt}(hs:Sim X w0 w H O)(id sz:Nat)(xs:List AV)(l l':Nat)
 (he:H.ent id= .cells sz xs l) (hl:l≤l') (hl':l'≤xs.length):
 Sim X w0 w (H.put id (.cells sz xs l')) O∧fQ w (Mut X H O) O w (Mut X (H.put id (.cells sz xs l')) O) O:=by
 have h0:=hs.ent id;rw [he] at h0;have eO:oP O id (O id)=O:=by funext j;by_cases hj:j=id<;>simp [oP,hj]
 have ht:fQ w (Mut X H O) O w (Mut X (H.put id (.cells sz xs l')) O) O:=by
  refine ⟨fun b i v hc hm=>⟨hc,fun hm'=>?_⟩,fun _ h=>h,fun _ h=> .inl h,fun _ _ h=> .inl h⟩;rw [←eO] at hm';rcases uC hm' with ⟨o',h1',h2',h3'⟩|h
  · simp only [Ent.lock] at h3';exact hm (.inr ⟨id,o',h1',h2',by rw [he];simp only [Ent.lock];omega⟩)
  · exact hm h
 have:=hs.update (w':=w) id (.cells sz xs l') (O id) hs.below (by rw [eO];exact ht) (fun _ _ _ _=>rfl)
  (by
   rw [eO];rcases h0 with ⟨h1,h2,h3⟩|⟨o,h1,h2,h3,h4,h5,c,elem,fr,h6,h7,h8,h9⟩
   · exact .inl ⟨h1,h2,by simp [h2] at hl';exact hl'⟩
   · exact .inr ⟨o,h1,h2,hl',h4,h5,c,elem,fr,h6,h7,h8,fun k a hk=>(h9 k a hk).mono ⟨ht.cell,fun _ h=>h,fun _ h=> .inl h,fun _ _ h=> .inl h⟩⟩)
  (fun o' ho' j o'' hj hl'' hb=>hj (hs.inj j id _ _ hl'' ho' hb))
 rw [eO] at this;exact ⟨this,ht⟩
theorem Sim.virt{X:Nat→Nat→Prop}{w0 w:World}{H:aH}{O:Nat→OSt}(hs:Sim X w0 w H O)(id sz:Nat)(hf:H.ent id= .fresh):
 ∃O',Sim X w0 w (H.put id (.cells sz [] 0)) O'∧fQ w (Mut X H O) O w (Mut X (H.put id (.cells sz [] 0)) O') O'∧O' id= .virt:=by
 have hO:=hs.fresh hf
 have ht:fQ w (Mut X H O) O w (Mut X (H.put id (.cells sz [] 0)) (oP O id .virt)) (oP O id .virt):=by
  refine ⟨fun b i v hc hm=>⟨hc,fun hm'=>?_⟩,fun j hd=>?_,fun j hv=>?_,fun j o hl=>?_⟩
  ·
   rcases uC hm' with ⟨o,h1,_⟩|h
   · cases h1
   · exact hm h
  ·
   have:j≠id:=fun e=>by rw [e,hO] at hd;cases hd
   rw [fF _ _ _ _ this];exact hd
  ·
   have:j≠id:=fun e=>by rw [e,hO] at hv;cases hv
   rw [fF _ _ _ _ this];exact .inl hv
  ·
   have:j≠id:=fun e=>by rw [e,hO] at hl;cases hl
   rw [fF _ _ _ _ this];exact .inl hl
 exact ⟨_,hs.update id _ _ hs.below ht (fun _ _ _ _=>rfl) (.inl ⟨dL _ _ _,rfl,rfl⟩) (fun o h=>by cases h),ht,dL _ _ _⟩
theorem Sim.store1{X:Nat→Nat→Prop}{w0 w:World}{H:aH}{O:Nat→OSt}(hs:Sim X w0 w H O)(id sz:Nat)(xs:List AV)(lock off:Nat)
 (he:H.ent id= .cells sz xs lock) (o:Own) (ho:O id= .live o) (hl:lock≤off) (hoff:off<xs.length) (x:Value) (a:AV) (hx:RV w (Mut X H O) O x a):
 (∃u,w.cell? ⟨o.b,o.base+off,none⟩=some u)∧w.frozen? ⟨o.b,o.base+off,none⟩=false∧
 Sim X w0 (w.setCell ⟨o.b,o.base+off,none⟩ x) (H.put id (.cells sz (xs.set off a) lock)) O∧
 fQ w (Mut X H O) O (w.setCell ⟨o.b,o.base+off,none⟩ x) (Mut X (H.put id (.cells sz (xs.set off a) lock)) O) O:=by
 have h0:=hs.ent id;rw [he] at h0;rcases h0 with ⟨h1,_⟩|⟨o',h1,h2,h3,h4,h5,c,elem,fr,h6,h7,h8,h9⟩
 · rw [ho] at h1;cases h1
 rw [ho] at h1;cases h1;have eO:oP O id (.live o)=O:=by funext j;by_cases hj:j=id<;>simp [oP,hj,ho]
 have hcell:w.cell? ⟨o.b,o.base+off,none⟩=some (c.getD (o.base+off) undef):=by
  have hlt:o.base+off<c.size:=by omega
  rw [cell_of_row w o.b (o.base+off) c elem fr h6];simp [hlt]
 have hfz:w.frozen? ⟨o.b,o.base+off,none⟩=false:=by
  simp only [World.frozen?,h6];have:=h8 (o.base+off) om
  simpa using this
 have hnew:(w.setCell ⟨o.b,o.base+off,none⟩ x).heap[o.b]? =some (.cells (c.setIfInBounds (o.base+off) x) elem fr):=by
  simp [World.setCell,Array.getElem?_modify,h6]
 have ht:fQ w (Mut X H O) O (w.setCell ⟨o.b,o.base+off,none⟩ x) (Mut X (H.put id (.cells sz (xs.set off a) lock)) O) O:=by
  refine ⟨fun b i v hc hm=>⟨?_,fun hm'=>?_⟩,fun _ h=>h,fun _ h=> .inl h,fun _ _ h=> .inl h⟩
  ·
   have hne:(⟨o.b,o.base+off,none⟩:Addr)≠⟨b,i,none⟩:=fun e=>by
    simp only [Addr.mk.injEq,and_true] at e;exact hm (.inr ⟨id,o,ho,e.1,by rw [he];simp only [Ent.lock];omega⟩)
   rw [World.cell?_setCell_other _ _ _ _ hne];exact hc
  ·
   rw [←eO] at hm';rcases uC hm' with ⟨o',h1',h2',h3'⟩|h
   · cases h1';simp only [Ent.lock] at h3';exact hm (.inr ⟨id,o,ho,h2',by rw [he];simp only [Ent.lock];omega⟩)
   · exact hm h
 refine ⟨⟨_,hcell⟩,hfz,?_,ht⟩
 have:=hs.update (w':=w.setCell ⟨o.b,o.base+off,none⟩ x) id (.cells sz (xs.set off a) lock) (.live o) (hs.below.setCell h4 _) (by rw [eO];exact ht)
  (fun j o' hj hl'=>heap_setCell_other w _ _ _ (fun e=>hj (hs.inj j id _ _ hl' ho e)))
  (.inr ⟨o,dL _ _ _,h2,by simpa using h3,h4,by simpa using h5,_,elem,fr,hnew,by simpa using h7,by simpa using h8,fun k b hk=>by
   rw [eO];rw [List.getElem?_set] at hk
   by_cases hko:off=k
   ·
    subst hko;simp only [if_true,hoff] at hk;cases hk
    have:(c.setIfInBounds (o.base+off) x).getD (o.base+off) undef=x:=by
     have hlt:o.base+off<c.size:=by omega
     simp [hlt]
    rw [this];exact hx.mono ht
   ·
    simp only [hko,if_false] at hk
    have:(c.setIfInBounds (o.base+off) x).getD (o.base+k) undef=c.getD (o.base+k) undef:=by
     simp [Array.getElem?_setIfInBounds_ne (show o.base+off≠o.base+k by omega)]
    rw [this];exact (h9 k b hk).mono ht⟩)
  (fun o' ho' j o'' hj hl'' hb=>by cases ho';exact hj (hs.inj j id _ _ hl'' ho hb))
 rw [eO] at this;exact this
end
section
open Go.RowKit
def AV.one:AV→Bool
  | .v x=>x.oneCell'
  | .sl .. | .ptr .. | .ifc .. | .clo .. | .own .. | .adr .. =>true
  |_=>false
def AV.cells? :AV→Option (List AV)
  | .agg xs=>some xs
  |a=>if a.one then some [a] else none
def constAV:Value→AV
  | .agg cs=> .agg (cs.toList.map .v)
  |x=> .v x
def aval(f:Nat→AV):Operand→AV
  | .tmp t=>f t
  | .const c=>constAV c
  | .global g=> .v (.pointer (some ⟨g,0,none⟩))
  | .func f=> .clo (.func f) [] []
theorem RV.constAV{w:World}{M:Nat→Nat→Prop}{O:Nat→OSt}(x:Value):RV w M O x (constAV x):=by
 unfold AM.constAV;split
 ·
  rename_i cs;refine .agg cs _ (by simp) (fun k a hk=>?_);simp only [List.getElem?_map,Option.map_eq_some_iff] at hk;obtain ⟨y,hy,rfl⟩:=hk;have:cs.getD k undef=y:=by simp at hy;simp [hy]
  rw [this];exact .v y
 · exact .v x
def FR(w:World)(M:Nat→Nat→Prop)(O:Nat→OSt)(vs:Array Value)(n:Nat)(f:Nat→AV):Prop:=vs.size=n∧ ∀k,RV w M O (vs.getD k undef) (f k)
theorem FR.aval{w:World}{M:Nat→Nat→Prop}{O:Nat→OSt}{a:Act}{n:Nat}{f:Nat→AV}(h:FR w M O a.tmps n f)(x:Operand):RV w M O (a.eval x) (aval f x):=by
 cases x with
 |tmp t=>exact h.2 t
 |const c=>exact .constAV c
 |global g=>exact .v _
 |func f=>exact .clo _ _ _ _ _ rfl (fun k a h=>by simp at h) rfl (fun k a h=>by simp at h)
def aO(P:Program)(t:TypeId):Option Nat:=(P.info? t).map (·.size)
def TypeDesc.isAgg:TypeDesc→Bool
  | .struct _| .array _ _=>true
  |_=>false
def aMe(P:Program)(t:TypeId)(xs:List AV):Option AV:=
  match P.underlying t with
  |some d=>if TypeDesc.isAgg d then (match aO P t with
      |some n=>if n≤xs.length then some (.agg (xs.take n)) else none
      |none=>none)
    else xs[0]?
  |none=>none
def bT(P:Program)(H:aH)(t:TypeId):AV→Option AV
  | .ptr xs=>aMe P t xs
  | .adr id off=>match H.ent id with
    | .cells _ xs _=>aMe P t (xs.drop off)
    |_=>none
  |_=>none
def lP(op:BinOp)(k:IntKind)(a:Int)(k':IntKind)(b:Int):Option AV:=
  match op with
  | .shl=>if b<0 then none else some (.v (.int k (k.wrap (a*2^(min b.toNat k.bits)))))
  | .shr=>if b<0 then none else some (.v (.int k (a.fdiv (2^(min b.toNat k.bits)))))
  |op=>if k≠k' then none else match op with
    | .add=>some (.v (.int k (k.wrap (a+b))))
    | .sub=>some (.v (.int k (k.wrap (a-b))))
    | .mul=>some (.v (.int k (k.wrap (a*b))))
    | .quo=>if b=0 then none else some (.v (.int k (k.wrap (a.tdiv b))))
    | .rem=>if b=0 then none else some (.v (.int k (a.tmod b)))
    | .and=>some (.v (.int k (k.wrap (BitVec.ofInt k.bits a &&& BitVec.ofInt k.bits b).toNat)))
    | .or=>some (.v (.int k (k.wrap (BitVec.ofInt k.bits a ||| BitVec.ofInt k.bits b).toNat)))
    | .xor=>some (.v (.int k (k.wrap (BitVec.ofInt k.bits a ^^^ BitVec.ofInt k.bits b).toNat)))
    | .andNot=>some (.v (.int k (k.wrap (BitVec.ofInt k.bits a &&& ~~~BitVec.ofInt k.bits b).toNat)))
    | .eql=>some (.v (.bool (a==b)))
    | .neq=>some (.v (.bool (a !=b)))
    | .lss=>some (.v (.bool (a<b)))
    | .leq=>some (.v (.bool (a≤b)))
    | .gtr=>some (.v (.bool (a>b)))
    | .geq=>some (.v (.bool (a≥b)))
    |_=>none
def aB0(op:BinOp)(x y:ByteArray):Option AV:=
  match op with
  | .add=>if x.size+y.size≤9223372036854775807 then some (.v (.string (x++y))) else none
  | .eql=>some (.v (.bool (x.toList==y.toList)))
  | .neq=>some (.v (.bool !(x.toList==y.toList)))
  | .lss=>some (.v (.bool (Op.bytesLess x.toList y.toList)))
  | .leq=>some (.v (.bool (Op.bytesLess x.toList y.toList||x.toList==y.toList)))
  | .gtr=>some (.v (.bool !(Op.bytesLess x.toList y.toList||x.toList==y.toList)))
  | .geq=>some (.v (.bool !(Op.bytesLess x.toList y.toList)))
  |_=>none
def aZg(P:Program)(xs ys:List AV):List Field→Option Bool
  |[]=>some true
  |f::fs=>if f.name= "_" then none else match P.underlying f.type,xs[f.offset]?,ys[f.offset]? with
    |some (.int _),some (.v (.int k a)),some (.v (.int k' b))=>if k=k' then (aZg P xs ys fs).map ((a==b)&& ·) else none
    |_,_,_=>none
def iI(P:Program)(op:BinOp)(t:TypeId):AV→AV→Option AV
  | .v (.int k a),.v (.int k' b)=>lP op k a k' b
  | .v (.string x),.v (.string y)=>aB0 op x y
  | .v (.bool x),.v (.bool y)=>match P.underlying t,op with
    |some .bool,.eql=>some (.v (.bool (x==y)))
    |some .bool,.neq=>some (.v (.bool (!(x==y))))
    |_,_=>none
  | .agg xs,.agg ys=>match P.underlying t,op with
    |some (.struct fs),.eql=>if P.stoodInHeld t=false∧P.eqGuardType P.depth t=false then (aZg P xs ys fs.toList).map (fun b=> .v (.bool b)) else none
    |some (.struct fs),.neq=>if P.stoodInHeld t=false∧P.eqGuardType P.depth t=false then (aZg P xs ys fs.toList).map (fun b=> .v (.bool (!b))) else none
    |_,_=>none
  | .v (.slice a n c),.v (.slice none 0 0)=>match P.underlying t,op with
    |some (.slice _),.eql=>some (.v (.bool a.isNone))
    |some (.slice _),.neq=>some (.v (.bool (!a.isNone)))
    |_,_=>none
  | .sl _ (_+1) _,.v (.slice none 0 0)=>match P.underlying t,op with
    |some (.slice _),.eql=>some (.v (.bool false))
    |some (.slice _),.neq=>some (.v (.bool true))
    |_,_=>none
  | .v (.pointer a),.v (.pointer none)=>match P.underlying t,op with
    |some (.pointer _),.eql=>some (.v (.bool a.isNone))
    |some (.pointer _),.neq=>some (.v (.bool (!a.isNone)))
    |_,_=>none
  | .ptr _,.v (.pointer none)=>match P.underlying t,op with
    |some (.pointer _),.eql=>some (.v (.bool false))
    |some (.pointer _),.neq=>some (.v (.bool true))
    |_,_=>none
  |_,_=>none
def aun:UnOp→AV→Option AV
  | .neg,.v (.int k n)=>some (.v (.int k (k.wrap (0-n))))
  | .not,.v (.bool b)=>some (.v (.bool !b))
  | .xor,.v (.int k n)=>some (.v (.int k (k.wrap (BitVec.ofInt k.bits (if k.signed then-1 else k.max) ^^^ BitVec.ofInt k.bits n).toNat)))
  |_,_=>none
def bytesOf:List AV→Option (List UInt8)
  |[]=>some []
  | .v (.int .u8 n)::r=>(bytesOf r).map (UInt8.ofNat n.toNat:: ·)
  |_=>none
def mU(P:Program)(H:aH)(src dst:TypeId)(x:AV):Option AV:=
  match P.underlying src,P.underlying dst,x with
  |some _,some (.int k),.v (.int _ n)=>some (.v (.int k (k.wrap n)))
  |some _,some .string,.v (.int _ n)=>some (.v (.string (Utf8.encode n)))
  |some _,some .string,.v (.string s)=>some (.v (.string s))
  |some (.slice e),some .string,.v (.slice none _ _)=>match P.underlying e with
    |some (.int .u8)=>some (.v (.string .empty))
    |_=>none
  |some (.slice e),some .string,.sl xs len _=>match P.underlying e with
    |some (.int .u8)=>if xs.length=len then (bytesOf xs).map (fun l=> .v (.string ⟨l.toArray⟩)) else none
    |_=>none
  |some (.slice e),some .string,.own id off len=>match P.underlying e,H.ent id with
    |some (.int .u8),.cells _ xs _=>if off+len≤xs.length then (bytesOf ((xs.drop off).take len)).map (fun l=> .v (.string ⟨l.toArray⟩)) else none
    |_,_=>none
  |_,_,_=>none
def apart(P:Program)(t:TypeId)(xs:List AV)(off:Nat):Option AV:=
  match P.underlying t with
  |some d=>if TypeDesc.isAgg d then (match aO P t with
      |some n=>some (.agg ((xs.drop off).take n))
      |none=>none)
    else xs[off]?
  |none=>none
def aWk(P:Program)(t:TypeId)(x:AV)(f:Nat):Option AV:=
  match P.underlying t,x with
  |some (.struct fields),.agg xs=>match fields[f]? with
    |some fd=>apart P fd.type xs fd.offset
    |none=>none
  |_,_=>none
def aO6(P:Program)(t:TypeId)(x i:AV):Option AV:=
  match P.underlying t,x,i with
  |some (.array len elem),.agg xs,.v (.int _ n)=>match aO P elem with
    |some s=>if 0≤n∧n<len then apart P elem xs (n.toNat*s) else none
    |none=>none
  |some .string,.v (.string s),.v (.int _ n)=>if h:0≤n∧n.toNat<s.size then some (.v (.int .u8 (s[n.toNat]'h.2).toNat)) else none
  |_,_,_=>none
def aI(P:Program)(t:TypeId)(x:AV)(f:Nat):Option AV:=
  match P.underlying t with
  |some (.struct fields)=>match fields[f]? with
    |some fd=>match aO P fd.type with
      |some (_+1)=>match x with
        | .ptr xs=>some (.ptr (xs.drop fd.offset))
        | .adr id off=>some (.adr id (off+fd.offset))
        |_=>none
      |_=>none
    |none=>none
  |_=>none
def lS(P:Program)(t:TypeId)(x i:AV):Option AV:=
  match P.underlying t,x,i with
  |some (.slice elem),.sl xs len _,.v (.int _ n)=>match aO P elem with
    |some s=>if 0≤n∧n<len then (if xs=[] then none else some (.ptr (xs.drop (n.toNat*s)))) else none
    |none=>none
  |some (.slice elem),.own id off len,.v (.int _ n)=>match aO P elem with
    |some s=>if 0≤n∧n<len then some (.adr id (off+n.toNat*s)) else none
    |none=>none
  |some (.array len elem),.ptr xs,.v (.int _ n)=>match aO P elem with
    |some s=>if 0≤n∧n<len then some (.ptr (xs.drop (n.toNat*s))) else none
    |none=>none
  |some (.array len elem),.adr id off,.v (.int _ n)=>match aO P elem with
    |some s=>if 0≤n∧n<len then some (.adr id (off+n.toNat*s)) else none
    |none=>none
  |_,_,_=>none
def fV(d:Nat):Option AV→Option Nat
  |none=>some d
  |some (.v (.int _ n))=>if 0≤n then some n.toNat else none
  |some _=>none
def xJ(P:Program)(H:aH)(t:TypeId)(x:AV)(lo hi mx:Option AV):Option AV:=
  match P.underlying t,x with
  |some .string,.v (.string s)=>match mx,fV 0 lo,fV s.size hi with
    |none,some l,some h=>if l≤h∧h≤s.size then some (.v (.string (s.extract l h))) else none
    |_,_,_=>none
  |some (.slice elem),.v (.slice none 0 0)=>match aO P elem,fV 0 lo,fV 0 hi,fV 0 mx with
    |some _,some 0,some 0,some 0=>if mx.isSome=true→hi.isSome=true then some (.v (.slice none 0 0)) else none
    |_,_,_,_=>none
  |some (.slice elem),.sl xs len full=>match aO P elem with
    |some s=>match fV 0 lo,fV len hi,fV len mx with
      |some l,some h,some m=>if l≤h∧h≤m∧m≤len∧xs.length=len*s∧(mx.isSome=true→hi.isSome=true) then
          some (.sl ((xs.drop (l*s)).take ((h-l)*s)) (h-l) (if mx.isSome then h==m else full&&h==len)) else none
      |_,_,_=>none
    |none=>none
  |some (.slice elem),.own id off len=>match aO P elem,H.ent id with
    |some s,.cells sz xs _=>match fV 0 lo,fV len hi,mx with
      |some l,some h,none=>if l≤h∧h≤len∧sz=s∧off+len*s≤xs.length then some (.own id (off+l*s) (h-l)) else none
      |_,_,_=>none
    |_,_=>none
  |_,_=>none
def nD(P:Program)(x:AV)(asserted:TypeId)(commaOk:Bool):Option AV:=
  match P.underlying asserted with
  |some (.interface _)=>none
  |some _=>match x with
    | .v .nilIface=>if commaOk then (match (P.info? asserted).bind (·.zero) with
        |some z=>some (.tup [constAV z,.v (.bool false)])
        |none=>none) else none
    | .ifc t a=>if t=asserted then some (if commaOk then .tup [a,.v (.bool true)] else a)
        else if commaOk then (match (P.info? asserted).bind (·.zero) with
          |some z=>some (.tup [constAV z,.v (.bool false)])
          |none=>none) else none
    |_=>none
  |none=>none
def bV5:AV→AV→Option AV
  | .v (.int k x),.v (.int _ y)=>some (.v (.int k (if y<x then y else x)))
  |_,_=>none
def bV4:AV→AV→Option AV
  | .v (.int k x),.v (.int _ y)=>some (.v (.int k (if y>x then y else x)))
  |_,_=>none
def bF(P:Program)(b:Builtin)(ts:List TypeId)(xs:List AV):Option AV:=
  match b,ts,xs with
  | .len,t::_,x::_=>match P.underlying t,x with
    |some .string,.v (.string s)=>some (.v (.int .i64 s.size))
    |some (.slice _),.sl _ n _=>some (.v (.int .i64 n))
    |some (.slice _),.own _ _ n=>some (.v (.int .i64 n))
    |some (.slice _),.v (.slice _ n _)=>some (.v (.int .i64 n))
    |some (.array n _),_=>some (.v (.int .i64 n))
    |_,_=>none
  | .cap,t::_,x::_=>match P.underlying t,x with
    |some (.slice _),.sl _ n true=>some (.v (.int .i64 n))
    |some (.slice _),.v (.slice _ _ n)=>some (.v (.int .i64 n))
    |_,_=>none
  | .min,_,[x,y]=>bV5 x y
  | .max,_,[x,y]=>bV4 x y
  |_,_,_=>none
def nP(place:Nat→Option (Nat×Nat))(cells:List AV):List (Nat×AV)→Option (List AV)
  |[]=>some cells
  |(i,a)::rest=>match place i,a.cells? with
    |some (off,size),some cs=>if cs.length≠size∨off+cs.length>cells.length then none
      else nP place (cells.take off++cs++cells.drop (off+cs.length)) rest
    |_,_=>none
def zeroCells?(P:Program)(t:TypeId):Option (List AV):=
  match (P.info? t).bind (·.zero) with
  |some z=>some (z.cells.toList.map .v)
  |none=>none
def placesOf(P:Program)(fields:Array Field):Option (List (Nat×Nat)):=fields.toList.mapM (fun f=>(P.info? f.type).map fun i=>(f.offset,i.size))
def aAd(P:Program)(t:TypeId)(parts:List (Nat×AV)):Option AV:=
  match zeroCells? P t,P.underlying t with
  |some zero,some (.struct fields)=>match placesOf P fields with
    |some places=>(nP (fun i=>places[i]?) zero parts).map .agg
    |none=>none
  |some zero,some (.array _ elem)=>match aO P elem with
    |some size=>(nP (fun i=>some (i*size,size)) zero parts).map .agg
    |none=>none
  |_,_=>none
def aH.alive(H:aH):AV→Bool
  | .own id _ _| .adr id _=>match H.ent id with
    | .cells .. =>true
    |_=>false
  |_=>true
def aPj(t:Bool)(x y:AV):AV:=if t then x else y
def bJ(P:Program)(H:aH)(ρ:Operand→AV)(op:Op):Option AV:=
  match op with
  | .move x| .assign x=>some (ρ x)
  | .pick c a b=>match ρ c with
    | .v (.bool t)=>some (aPj t (ρ a) (ρ b))
    |_=>none
  | .load t a=>bT P H t (ρ a)
  | .nilCheck x=>match ρ x with
    | .ptr xs=>some (.ptr xs)
    | .adr id off=>if H.alive (.adr id off) then some (.adr id off) else none
    | .clo (.func f) a b=>some (.clo (.func f) a b)
    |_=>none
  | .binOp op t x y _=>iI P op t (ρ x) (ρ y)
  | .unOp op _ x=>aun op (ρ x)
  | .convert s d x=>mU P H s d (ρ x)
  | .makeInterface t x=>match P.underlying t with
    |some (.interface _)=>none
    |some _=>some (.ifc t (ρ x))
    |none=>none
  | .makeFunc fn f c=>some (.clo fn (f.toList.map ρ) (c.toList.map ρ))
  | .slice t x lo hi mx=>xJ P H t (ρ x) (lo.map ρ) (hi.map ρ) (mx.map ρ)
  | .fieldAddr t x f=>if H.alive (ρ x) then aI P t (ρ x) f else none
  | .field t x f=>aWk P t (ρ x) f
  | .indexAddr t x i=>if H.alive (ρ x) then lS P t (ρ x) (ρ i) else none
  | .index t x i=>aO6 P t (ρ x) (ρ i)
  | .typeAssert x _ asserted ok=>nD P (ρ x) asserted ok
  | .extract x i=>match ρ x with
    | .tup xs=>xs[i]?
    |_=>none
  | .build t parts=>aAd P t (parts.toList.map fun (i,x)=>(i,ρ x))
  | .call { callee:= .builtin b,args,argTypes } =>if (args.toList.map ρ).all H.alive then bF P b argTypes.toList (args.toList.map ρ) else none
  |_=>none
end
section
open Go.RowKit
variable {P:Program}{w:World}{M:Nat→Nat→Prop}{O:Nat→OSt}
theorem aD4{t:TypeId}{d:TypeDesc}(h:P.underlying t=some d)(w:World):(isAgg t).run P w= .ok (TypeDesc.isAgg d) w:=by
 simp only [isAgg,Sem.run_bind,run_underlying h,Result.andThen_ok];cases d<;>rfl
theorem run_sizeOf{t:TypeId}{n:Nat}(h:aO P t=some n)(w:World):(sizeOf t).run P w= .ok n w:=by
 unfold aO at h;simp only [sizeOf,typeInfo,Sem.run_bind,run_program,Result.andThen_ok]
 cases hi:P.info? t with
 |none=>rw [hi] at h;cases h
 |some i=>rw [hi] at h;simp at h;simp [h]
theorem kB{t:TypeId}{z:Value}(h:(P.info? t).bind (·.zero)=some z)(w:World):(zeroValue t).run P w= .ok z w:=by
 simp only [zeroValue,typeInfo,Sem.run_bind,run_program,Result.andThen_ok]
 cases hi:P.info? t with
 |none=>rw [hi] at h;cases h
 |some i=>rw [hi] at h;simp at h;simp [h]
theorem aI9{t:TypeId}{xs:List AV}{r:AV}(h:aMe P t xs=some r)(b off:Nat)(cs:Nat→Value)
 (hc: ∀k,k<xs.length→w.cell? ⟨b,off+k,none⟩=some (cs k)) (hx: ∀k a,xs[k]? =some a→RV w M O (cs k) a):
 ∃v,(loadVar t ⟨b,off,none⟩).run P w= .ok v w∧RV w M O v r:=by
 unfold aMe at h;split at h
 ·
  rename_i d hd;split at h
  ·
   rename_i hagg;split at h
   ·
    rename_i n hn;split at h
    ·
     rename_i hlen;cases h;refine ⟨.agg ((List.range n).map cs).toArray,?_,?_⟩
     · simp only [loadVar,Sem.run_bind,aD4 hd,Result.andThen_ok,hagg,if_true,run_sizeOf hn];rw [run_loadCells w _ n cs (fun j hj=>by rw [Addr.add_lit];exact hc j om)];rfl
     ·
      refine .agg _ _ (by simp;omega) (fun k a hk=>?_);rw [List.getElem?_take] at hk;split at hk
      ·
       rename_i hkn;have:(((List.range n).map cs).toArray).getD k undef=cs k:=by simp [hkn]
       rw [this];exact hx k a hk
      · cases hk
    · cases h
   · cases h
  ·
   rename_i hagg
   have h0:0<xs.length:=by
    rcases Nat.eq_zero_or_pos xs.length with h0|h0
    · have:xs=[]:=List.eq_nil_of_length_eq_zero h0;subst this;cases h
    · exact h0
   refine ⟨cs 0,?_,hx 0 r h⟩;simp only [loadVar,Sem.run_bind,aD4 hd,Result.andThen_ok];have:TypeDesc.isAgg d=false:=by simpa using hagg
   have hc0:=hc 0 h0;simp only [Nat.add_zero] at hc0;simp [this,hc0]
 · cases h
theorem Sim.cellsOf{X:Nat→Nat→Prop}{w0:World}{H:aH}(hs:Sim X w0 w H O){id sz:Nat}{xs:List AV}{lock:Nat}(he:H.ent id= .cells sz xs lock)
 {o:Own} (ho:O id= .live o): ∃cs:Nat→Value,(∀k,k<xs.length→w.cell? ⟨o.b,o.base+k,none⟩=some (cs k))∧(∀k a,xs[k]? =some a→RV w (Mut X H O) O (cs k) a)∧
  o.sz=sz∧o.base+xs.length≤o.size:=by
 have h0:=hs.ent id;rw [he] at h0;rcases h0 with ⟨h1,_⟩|⟨o',h1,h2,h3,h4,h5,c,elem,fr,h6,h7,h8,h9⟩
 · rw [ho] at h1;cases h1
 rw [ho] at h1;cases h1;refine ⟨fun k=>c.getD (o.base+k) undef,fun k hk=>?_,h9,h2,h5⟩;have hlt:o.base+k<c.size:=by omega
 rw [cell_of_row w o.b (o.base+k) c elem fr h6];simp [hlt]
theorem aPh{X:Nat→Nat→Prop}{w0:World}{H:aH}(hs:Sim X w0 w H O){t:TypeId}{x:Value}{a r:AV}(hx:RV w (Mut X H O) O x a)(h:bT P H t a=some r):
 ∃v,(Instr.loadAt t x).run P w= .ok v w∧RV w (Mut X H O) O v r:=by
 unfold bT at h;split at h
 ·
  cases hx with
  |ptr b off xs cs hc hx=>
   obtain ⟨v,h1,h2⟩:=aI9 h b off cs (fun k hk=>(hc k hk).1) hx;exact ⟨v,by simp [Instr.loadAt,Instr.sureAddr,h1],h2⟩
 ·
  rename_i id off;split at h
  ·
   rename_i sz xs lock he
   cases hx with
   |adrdead x id off hd _=>
    have h0:=hs.ent id;rw [he] at h0;rcases h0 with ⟨h1,_⟩|⟨o',h1,_⟩<;>(rw [hd] at h1;cases h1)
   |adr id off o ho=>
    obtain ⟨cs,h1,h2,_,_⟩:=hs.cellsOf he ho
    obtain ⟨v,h3,h4⟩:=aI9 h o.b (o.base+off) (fun k=>cs (off+k))
     (fun k hk=>by simp only [List.length_drop] at hk;rw [Nat.add_assoc];exact h1 (off+k) om)
     (fun k a hk=>h2 (off+k) a (by rw [List.getElem?_drop] at hk;exact hk))
    exact ⟨v,by simp [Instr.loadAt,Instr.sureAddr,h3],h4⟩
  · cases h
 · cases h
theorem aTy{op:BinOp}{t:TypeId}{k k':IntKind}{a b:Int}{r:AV}(h:lP op k a k' b=some r):
    ∃v,(binOp op t (.int k a) (.int k' b)).run P w= .ok v w∧RV w M O v r:=by
  unfold lP at h;cases op<;>simp only [] at h
  case shl=>split at h<;>cases h;rename_i hb;exact ⟨_,by simp [binOp,Op.shift,hb],.v _⟩
  case shr=>split at h<;>cases h;rename_i hb;exact ⟨_,by simp [binOp,Op.shift,hb],.v _⟩
  case quo => split at h <;> try cases h
              split at h<;>cases h;rename_i hk hb;exact ⟨_,by simp [binOp,Op.intDiv,hb,hk],.v _⟩
  case rem => split at h <;> try cases h
              split at h<;>cases h;rename_i hk hb;exact ⟨_,by simp [binOp,Op.intDiv,hb,hk],.v _⟩
  all_goals (split at h<;>cases h;rename_i hk;exact ⟨_,by simp [binOp,Op.intArith,Op.intBits,Op.intCmp,hk],.v _⟩)
theorem aTz{op:BinOp}{t:TypeId}{a b:ByteArray}{r:AV}(h:aB0 op a b=some r):
 ∃v,(binOp op t (.string a) (.string b)).run P w= .ok v w∧RV w M O v r:=by
 unfold aB0 at h;cases op<;>simp only [] at h
 case add=>
  split at h<;>cases h;rename_i hb;refine ⟨_,?_,.v _⟩;have e:IntKind.i64.max=9223372036854775807:=rfl;simp only [binOp,Op.stringOp];rw [if_neg (by rw [e];omega)];rfl
 all_goals (cases h<;>exact ⟨_,rfl,.v _⟩)
theorem aQw{op:BinOp}{t:TypeId}{ox oy:Operand}{k k':IntKind}{m n:Int} :(eqGuard op t ox oy (.int k m) (.int k' n)).run P w= .ok () w:=by unfold eqGuard;split<;>rfl
theorem aQx{op:BinOp}{t:TypeId}{ox oy:Operand}{m n:ByteArray} :(eqGuard op t ox oy (.string m) (.string n)).run P w= .ok () w:=by unfold eqGuard;split<;>rfl
theorem aP0{op:BinOp}{t:TypeId}{ox oy:Operand}{m n:Bool} :(eqGuard op t ox oy (.bool m) (.bool n)).run P w= .ok () w:=by unfold eqGuard;split<;>rfl
theorem run_equalIn_bool{t:TypeId}(hu:P.underlying t=some .bool)(d:Nat)(m n:Bool):(Op.equalIn (d+1) t (.bool m) (.bool n)).run P w= .ok (m==n) w:=by
 simp only [Op.equalIn,Sem.run_bind,run_underlying hu,Result.andThen_ok];rfl
theorem run_equal_bool{t:TypeId}(hu:P.underlying t=some .bool)(m n:Bool):(Op.equal t (.bool m) (.bool n)).run P w= .ok (m==n) w:=
 run_equalIn_bool hu 9999 m n
theorem RV.aggAt{cs:Array Value}{xs:List AV}{off:Nat}{v:Value}(h:RV w M O (.agg cs) (.agg xs))(hx:xs[off]? =some (.v v)):cs[off]? =some v:=by
 cases h with
 |agg _ _ hl h=>
  have h1:=h off _ hx;have hlt:off<cs.size:=by rw [hl];exact (List.getElem?_eq_some_iff.mp hx).1
  have key: ∀ {x:Value},RV w M O x (.v v)→x=v:=fun h=>by cases h;rfl
  have h2:=key h1;rw [Array.getElem?_eq_getElem hlt];simp [Array.getD,hlt] at h2;rw [h2]
theorem aL7{cs ds:Array Value}{xs ys:List AV}(hx:RV w M O (.agg cs) (.agg xs))(hy:RV w M O (.agg ds) (.agg ys))(d:Nat): ∀(fs:List Field) (b:Bool),aZg P xs ys fs=some b→(Op.eqFields (d+1) cs ds fs).run P w= .ok b w
 |[],b,h=>by cases h;rfl
 |f::fs,b,h=>by
  unfold aZg at h;split at h
  · cases h
  ·
   rename_i hn;split at h
   ·
    rename_i k0 k a k' a' hu h1 h2;split at h
    ·
     rename_i hk;subst hk
     cases hr:aZg P xs ys fs with
     |none=>rw [hr] at h;cases h
     |some b'=>
      rw [hr] at h;cases h;have ih:=aL7 hx hy d fs b' hr
      have p1:(part f.type cs f.offset).run P w= .ok (.int k a) w:=by
       simp only [part,Sem.run_bind,aD4 hu,Result.andThen_ok,TypeDesc.isAgg,hx.aggAt h1];rfl
      have p2:(part f.type ds f.offset).run P w= .ok (.int k a') w:=by
       simp only [part,Sem.run_bind,aD4 hu,Result.andThen_ok,TypeDesc.isAgg,hy.aggAt h2];rfl
      simp only [Op.eqFields,ne_eq,hn,not_false_eq_true,if_true,Sem.run_bind,p1,p2,Result.andThen_ok,run_equalIn_int w d f.type k k0 a a' hu,Sem.run_ite]
      cases hb:(a==a') with
      |true=>simp [ih]
      |false=>simp
    · cases h
   · cases h
theorem RV.v_eq{x y:Value}(h:RV w M O x (.v y)):x=y:=by
 cases h;rfl
theorem aA0{op:BinOp}{t:TypeId}{ox oy:Operand}{a b:Option Addr}{m n m' n':Nat} :(eqGuard op t ox oy (.slice a m n) (.slice b m' n')).run P w= .ok () w:=by unfold eqGuard;split<;>rfl
theorem zZ{op:BinOp}{t:TypeId}{ox oy:Operand}{a b:Option Addr} :(eqGuard op t ox oy (.pointer a) (.pointer b)).run P w= .ok () w:=by unfold eqGuard;split<;>rfl
theorem aCv{t e:TypeId}(hu:P.underlying t=some (.slice e)){a:Option Addr}{m n:Nat} :(Op.equal t (.slice a m n) (.slice none 0 0)).run P w= .ok a.isNone w:=by
 unfold Op.equal;show (Op.equalIn (9999+1) t _ _).run P w=_;unfold Op.equalIn;rw [Sem.run_bind,run_underlying hu];cases a<;>rfl
theorem aCu{t e:TypeId}(hu:P.underlying t=some (.pointer e)){a:Option Addr} :(Op.equal t (.pointer a) (.pointer none)).run P w= .ok a.isNone w:=by
 unfold Op.equal;show (Op.equalIn (9999+1) t _ _).run P w=_;unfold Op.equalIn;rw [Sem.run_bind,run_underlying hu];cases a<;>rfl
theorem bCs{op:BinOp}{t:TypeId}{x y:Value}{a b r:AV}{ox oy:Operand}(hx:RV w M O x a)(hy:RV w M O y b)(h:iI P op t a b=some r):
 ∃v,(do eqGuard op t ox oy x y;binOp op t x y:Sem Value).run P w= .ok v w∧RV w M O v r:=by
 unfold iI at h;split at h
 · cases hx;cases hy;simp only [Sem.run_bind,aQw,Result.andThen_ok];exact aTy h
 · cases hx;cases hy;simp only [Sem.run_bind,aQx,Result.andThen_ok];exact aTz h
 ·
  cases hx;cases hy;simp only [Sem.run_bind,aP0,Result.andThen_ok];split at h
  · rename_i hu;cases h;exact ⟨_,by simp only [binOp,Sem.run_bind,run_equal_bool hu,Result.andThen_ok,Sem.run_pure],.v _⟩
  · rename_i hu;cases h;exact ⟨_,by simp only [binOp,Sem.run_bind,run_equal_bool hu,Result.andThen_ok,Sem.run_pure],.v _⟩
  · cases h
 ·
  rename_i xs ys;have e1: ∀ {x:Value},RV w M O x (.agg xs)→ ∃cs,x= .agg cs:=fun h=>by cases h;exact ⟨_,rfl⟩
  have e2: ∀ {x:Value},RV w M O x (.agg ys)→ ∃cs,x= .agg cs:=fun h=>by cases h;exact ⟨_,rfl⟩
  obtain ⟨cs,rfl⟩:=e1 hx;obtain ⟨ds,rfl⟩:=e2 hy;split at h
  ·
   rename_i fs hu;split at h
   ·
    rename_i hc
    cases hr:aZg P xs ys fs.toList with
    |none=>rw [hr] at h;cases h
    |some b=>
     rw [hr] at h;cases h;have hf:P.fieldsOf t=fs:=by simp [Program.fieldsOf,hu]
     have:=aL7 hx hy 9998 fs.toList b hr;refine ⟨_,?_,.v _⟩;simp only [Sem.run_bind,run_eqGuard_agg w _ t ox oy cs ds hc.2,Result.andThen_ok,run_eql_struct];rw [run_equalIn_agg w 9999 t cs ds (by rw [hf];exact hu) hc.1,hf,this];rfl
   · cases h
  ·
   rename_i fs hu;split at h
   ·
    rename_i hc
    cases hr:aZg P xs ys fs.toList with
    |none=>rw [hr] at h;cases h
    |some b=>
     rw [hr] at h;cases h;have hf:P.fieldsOf t=fs:=by simp [Program.fieldsOf,hu]
     have:=aL7 hx hy 9998 fs.toList b hr;refine ⟨_,?_,.v _⟩;simp only [Sem.run_bind,run_eqGuard_agg w _ t ox oy cs ds hc.2,Result.andThen_ok,run_neq_struct];rw [run_equalIn_agg w 9999 t cs ds (by rw [hf];exact hu) hc.1,hf,this];rfl
   · cases h
  · cases h
 ·
  have e1:=RV.v_eq hx;have e2:=RV.v_eq hy;subst e1;subst e2;split at h
  · rename_i hu;cases h;exact ⟨_,by simp only [aA0,Sem.run_bind,Result.andThen_ok,binOp,aCv hu,Sem.run_pure],.v _⟩
  · rename_i hu;cases h;exact ⟨_,by simp only [aA0,Sem.run_bind,Result.andThen_ok,binOp,aCv hu,Sem.run_pure],.v _⟩
  · cases h
 ·
  have e2:=RV.v_eq hy;subst e2;obtain ⟨a,n,c,e1⟩: ∃a n c,x= .slice (some a) n c:=by cases hx;exact ⟨_,_,_,rfl⟩
  subst e1;split at h
  · rename_i hu;cases h;exact ⟨_,by simp only [aA0,Sem.run_bind,Result.andThen_ok,binOp,aCv hu,Sem.run_pure];rfl,.v _⟩
  · rename_i hu;cases h;exact ⟨_,by simp only [aA0,Sem.run_bind,Result.andThen_ok,binOp,aCv hu,Sem.run_pure];rfl,.v _⟩
  · cases h
 ·
  have e1:=RV.v_eq hx;have e2:=RV.v_eq hy;subst e1;subst e2;split at h
  · rename_i hu;cases h;exact ⟨_,by simp only [zZ,Sem.run_bind,Result.andThen_ok,binOp,aCu hu,Sem.run_pure],.v _⟩
  · rename_i hu;cases h;exact ⟨_,by simp only [zZ,Sem.run_bind,Result.andThen_ok,binOp,aCu hu,Sem.run_pure],.v _⟩
  · cases h
 ·
  have e2:=RV.v_eq hy;subst e2;obtain ⟨a,e1⟩: ∃a,x= .pointer (some a):=by cases hx;exact ⟨_,rfl⟩
  subst e1;split at h
  · rename_i hu;cases h;exact ⟨_,by simp only [zZ,Sem.run_bind,Result.andThen_ok,binOp,aCu hu,Sem.run_pure];rfl,.v _⟩
  · rename_i hu;cases h;exact ⟨_,by simp only [zZ,Sem.run_bind,Result.andThen_ok,binOp,aCu hu,Sem.run_pure];rfl,.v _⟩
  · cases h
 · cases h
theorem bHk{op:UnOp}{x:Value}{a r:AV}(hx:RV w M O x a)(h:aun op a=some r):
 ∃v,(Op.unary op x).run P w= .ok v w∧RV w M O v r:=by
 unfold aun at h;split at h
 · cases hx;cases h;exact ⟨_,rfl,.v _⟩
 · cases hx;cases h;exact ⟨_,rfl,.v _⟩
 · cases hx;cases h;exact ⟨_,rfl,.v _⟩
 · cases h
end
section
open Go.RowKit
variable {P:Program}{w:World}{M:Nat→Nat→Prop}{O:Nat→OSt}
theorem RV.v_inv{x y:Value}(h:RV w M O x (.v y)):x=y:=by
 cases h;rfl
theorem aGu: ∀ {xs:List AV} {l:List UInt8},bytesOf xs=some l→ ∃ns:List Int,xs=ns.map (fun n=> .v (.int .u8 n))∧l=ns.map (fun n=>UInt8.ofNat n.toNat)
 |[],l,h=>by cases h;exact ⟨[],rfl,rfl⟩
 |a::r,l,h=>by
  unfold bytesOf at h;split at h
  · cases ‹_::_=[]›
  · rename_i n r' e;cases e;simp only [Option.map_eq_some_iff] at h;obtain ⟨l',h1,rfl⟩:=h;obtain ⟨ns,h2,h3⟩:=aGu h1;exact ⟨n::ns,by simp [h2],by simp [h3]⟩
  · cases h
theorem aNt(ns:List Int):strOfNums ns=⟨(ns.map (fun n=>UInt8.ofNat n.toNat)).toArray⟩:=by
 simp [strOfNums]
theorem aZf{X:Nat→Nat→Prop}{w0:World}{H:aH}(hs:Sim X w0 w H O){src dst:TypeId}{x:Value}{a r:AV}(hx:RV w (Mut X H O) O x a)
 (h:mU P H src dst a=some r): ∃v,(convert src dst x).run P w= .ok v w∧RV w (Mut X H O) O v r:=by
 unfold mU at h;split at h
 · rename_i d k ks n hs' hd';cases hx;cases h;exact ⟨_,by simp only [convert,Sem.run_bind,run_underlying hs',run_underlying hd',Result.andThen_ok];rfl,.v _⟩
 · rename_i d ks n hs' hd';cases hx;cases h;exact ⟨_,by simp only [convert,Sem.run_bind,run_underlying hs',run_underlying hd',Result.andThen_ok];rfl,.v _⟩
 · rename_i d s hs' hd';cases hx;cases h;exact ⟨_,by simp only [convert,Sem.run_bind,run_underlying hs',run_underlying hd',Result.andThen_ok];rfl,.v _⟩
 ·
  rename_i e l c hs' hd';split at h
  · rename_i he;cases hx;cases h;exact ⟨_,run_convert_bytes_nil w src e hs' he l c dst hd',.v _⟩
  · cases h
 ·
  rename_i e xs len full hs' hd';split at h
  ·
   rename_i he;split at h
   ·
    rename_i hlen;simp only [Option.map_eq_some_iff] at h;obtain ⟨l,hl,rfl⟩:=h;obtain ⟨ns,h1,h2⟩:=aGu hl
    cases hx with
    |sl b off cap _ _ _ cs hc hx hlc hf=>
     refine ⟨_,run_convert_bytes_arg w src e hs' he b off len cap ns (by rw [←hlen,h1];simp) (fun i hi=>?_) dst hd',?_⟩
     ·
      rw [(hc i om).1];have hin:i<ns.length:=by rw [h1] at hlen;simp at hlen;omega
      have:=hx i (.v (.int .u8 ns[i])) (by rw [h1];simp [hin]);rw [this.v_inv];simp [List.getD,hin]
     · rw [aNt,h2];exact .v _
    |slnil ao _=>
     simp at h1;subst h1;simp at h2;subst h2;refine ⟨.string .empty,?_,.v _⟩
     cases ao with
     |none=>exact run_convert_bytes_nil w src e hs' he 0 0 dst hd'
     |some a=>
      rw [run_convert_bytes_string w src dst e _ 0 0 hs' he hd'];rw [run_bytesToString w a 0 0 [] (by simp [loadCells,loadCellsFrom])];rfl
   · cases h
  · cases h
 ·
  rename_i e id off len hs' hd';split at h
  ·
   rename_i sz xs lock he hent;split at h
   ·
    rename_i hlen;simp only [Option.map_eq_some_iff] at h;obtain ⟨l,hl,rfl⟩:=h;obtain ⟨ns,h1,h2⟩:=aGu hl
    have hnl:ns.length=len:=by
     have:=congrArg List.length h1;simp at this;omega
    have zero:len=0→ ∀(ao:Option Addr) (cap:Nat),∃v,(convert src dst (.slice ao len cap)).run P w= .ok v w∧RV w (Mut X H O) O v (.v (.string ⟨l.toArray⟩)):=by
     intro h0 ao cap;have hns:ns=[]:=List.eq_nil_of_length_eq_zero om;subst hns;subst h0;simp at h2;subst h2;refine ⟨.string .empty,?_,.v _⟩
     cases ao with
     |none=>exact run_convert_bytes_nil w src e hs' he 0 cap dst hd'
     |some a=>
      rw [run_convert_bytes_string w src dst e _ 0 cap hs' he hd'];rw [run_bytesToString w a 0 cap [] (by simp [loadCells,loadCellsFrom])];rfl
    cases hx with
    |owndead x _ _ _ hdead _=>
     have h0:=hs.ent id;rw [hent] at h0;rcases h0 with ⟨h1,_⟩|⟨o',h1,_⟩<;>(rw [hdead] at h1;cases h1)
    |ownvirt ao _ _ hv=>exact zero rfl ao 0
    |ownz ao _ _ o hlive=>exact zero rfl ao 0
    |own _ _ _ cap o ho hlc hfit=>
     obtain ⟨cs,hc,hx,_,_⟩:=hs.cellsOf hent ho;refine ⟨_,run_convert_bytes_arg w src e hs' he o.b (o.base+off) len cap ns hnl (fun i hi=>?_) dst hd',?_⟩
     ·
      rw [Nat.add_assoc,hc (off+i) om];have hin:i<ns.length:=by omega
      have hget:((xs.drop off).take len)[i]? =some (.v (.int .u8 ns[i])):=by rw [h1];simp [hin]
      rw [List.getElem?_take,if_pos hi,List.getElem?_drop] at hget;have:=hx _ _ hget;rw [this.v_inv];simp [List.getD,hin]
     · rw [aNt,h2];exact .v _
   · cases h
  · cases h
 · cases h
theorem aPi{t:TypeId}{cs:Array Value}{xs:List AV}{off:Nat}{r:AV}(hl:cs.size=xs.length)(hx: ∀k a,xs[k]? =some a→RV w M O (cs.getD k undef) a)
 (h:apart P t xs off=some r): ∃v,(part t cs off).run P w= .ok v w∧RV w M O v r:=by
 unfold apart at h;split at h
 ·
  rename_i d hd;split at h
  ·
   rename_i hagg;split at h
   ·
    rename_i n hn;cases h;refine ⟨.agg (cs.extract off (off+n)),by simp [part,aD4 hd,hagg,run_sizeOf hn],?_⟩;refine .agg _ _ (by simp [hl];omega) (fun k a hk=>?_);rw [List.getElem?_take] at hk;split at hk
    ·
     rw [List.getElem?_drop] at hk
     have hlt:off+k<cs.size:=by
      rw [hl];rcases Nat.lt_or_ge (off+k) xs.length with h|h
      · exact h
      · rw [List.getElem?_eq_none h] at hk;cases hk
     have:=hx _ _ hk
     have e:(cs.extract off (off+n)).getD k undef=cs.getD (off+k) undef:=by
      simp [Array.getElem?_extract,hlt];rw [if_pos om];rfl
     rw [e];exact this
    · cases hk
   · cases h
  ·
   rename_i hagg;have hagg':TypeDesc.isAgg d=false:=by simpa using hagg
   have hlt:off<cs.size:=by
    rw [hl];rcases Nat.lt_or_ge off xs.length with h'|h'
    · exact h'
    · rw [List.getElem?_eq_none h'] at h;cases h
   have:=hx off r h;refine ⟨cs[off],by simp [part,aD4 hd,hagg',hlt],?_⟩
   simpa [hlt] using this
 · cases h
theorem aWl{t:TypeId}{x:Value}{a r:AV}{f:Nat}(hx:RV w M O x a)(h:aWk P t a f=some r):
 ∃v,(Instr.field t x f).run P w= .ok v w∧RV w M O v r:=by
 unfold aWk at h;split at h
 ·
  rename_i fields xs hu;split at h
  ·
   rename_i fd hfd
   cases hx with
   |agg cs _ hl hx=>
    obtain ⟨v,h1,h2⟩:=aPi hl hx h;exact ⟨v,by simp [Instr.field,run_underlying hu,hfd,asAgg,h1],h2⟩
  · cases h
 · cases h
theorem aWm{t:TypeId}{x y:Value}{a i r:AV}(hx:RV w M O x a)(hy:RV w M O y i)(h:aO6 P t a i=some r):
 ∃v,(Instr.index t x y).run P w= .ok v w∧RV w M O v r:=by
 unfold aO6 at h;split at h
 ·
  rename_i len elem xs k n hu;split at h
  ·
   rename_i s hsz;split at h
   ·
    rename_i hb;have:=hy.v_inv;subst this
    cases hx with
    |agg cs _ hl hx=>
     obtain ⟨v,h1,h2⟩:=aPi hl hx h;exact ⟨v,by simp [Instr.index,asIntOf,run_underlying hu,hb,run_sizeOf hsz,h1],h2⟩
   · cases h
  · cases h
 ·
  rename_i s k n hu;split at h
  ·
   rename_i hb;cases h;have:=hy.v_inv;subst this;have:=hx.v_inv;subst this;refine ⟨_,?_,.v _⟩;have e:s[n.toNat]? =some (s[n.toNat]'hb.2):=by simp [hb.2]
   simp [Instr.index,asIntOf,run_underlying hu,hb.1,e]
  · cases h
 · cases h
theorem aO5{t:TypeId}{x:Value}{a r:AV}{f:Nat}(hx:RV w M O x a)(hlive: ∀id off,a= .adr id off→O id≠ .dead)(h:aI P t a f=some r):
 ∃v,(Instr.fieldAt t x f).run P w= .ok v w∧RV w M O v r:=by
 unfold aI at h;split at h
 ·
  rename_i fields hu;split at h
  ·
   rename_i fd hfd;split at h
   ·
    rename_i m hsz;split at h
    ·
     cases h
     cases hx with
     |ptr b off xs cs hc hx=>
      refine ⟨.pointer (some ⟨b,off+fd.offset,none⟩),?_,?_⟩
      · simp [Instr.fieldAt,run_underlying hu,hfd,Instr.sureAddr,fieldPlace,run_sizeOf hsz,Addr.add_lit]
      · exact .ptr b (off+fd.offset) _ (fun k=>cs (fd.offset+k)) (fun k hk=>by simp at hk;rw [Nat.add_assoc];exact hc _ om) (fun k a hk=>by rw [List.getElem?_drop] at hk;exact hx _ _ hk)
    ·
     cases h;rename_i id off
     cases hx with
     |adrdead x _ _ hd _=>exact absurd hd (hlive id off rfl)
     |adr _ _ o' ho'=>
      refine ⟨.pointer (some ⟨o'.b,o'.base+off+fd.offset,none⟩),?_,?_⟩
      · simp [Instr.fieldAt,run_underlying hu,hfd,Instr.sureAddr,fieldPlace,run_sizeOf hsz,Addr.add_lit]
      · rw [Nat.add_assoc];exact .adr id (off+fd.offset) o' ho'
    · cases h
   · cases h
  · cases h
 · cases h
theorem aO7{t:TypeId}{x y:Value}{a i r:AV}(hx:RV w M O x a)(hy:RV w M O y i)(hlive: ∀id off,a= .adr id off→O id≠ .dead)
 (hlive': ∀id off len,a= .own id off len→O id≠ .dead)
 (h:lS P t a i=some r): ∃v,(Instr.indexAt t x y).run P w= .ok v w∧RV w M O v r:=by
 unfold lS at h;split at h
 ·
  rename_i elem xs len full k n hu;split at h
  ·
   rename_i s hs;split at h
   ·
    rename_i hb;split at h
    · cases h
    rename_i hne;cases h;have:=hy.v_inv;subst this
    cases hx with
    |sl b off cap _ _ _ cs hc hx hl hf=>
     refine ⟨.pointer (some ⟨b,off+n.toNat*s,none⟩),?_,?_⟩
     · simp [Instr.indexAt,asIntOf,run_underlying hu,hb,run_sizeOf hs,Addr.add_lit]
     · exact .ptr b (off+n.toNat*s) _ (fun k=>cs (n.toNat*s+k)) (fun k hk=>by simp at hk;rw [Nat.add_assoc];exact hc _ om) (fun k a hk=>by rw [List.getElem?_drop] at hk;exact hx _ _ hk)
    |slnil _ _=>exact absurd rfl hne
   · cases h
  · cases h
 ·
  rename_i elem id off len k n hu;split at h
  ·
   rename_i s hs;split at h
   ·
    rename_i hb;cases h;have:=hy.v_inv;subst this
    cases hx with
    |owndead _ _ _ _ hd _=>exact absurd hd (hlive' id off len rfl)
    |ownvirt _ _ _ hv=>exact absurd hb.2 (by have:=hb.1;simp;omega)
    |ownz _ _ _ o ho=>exact absurd hb.2 (by have:=hb.1;simp;omega)
    |own _ _ _ cap o ho hl hfit=>
     refine ⟨.pointer (some ⟨o.b,o.base+off+n.toNat*s,none⟩),?_,?_⟩
     · simp [Instr.indexAt,asIntOf,run_underlying hu,hb,run_sizeOf hs,Addr.add_lit]
     · rw [Nat.add_assoc];exact .adr id _ o ho
   · cases h
  · cases h
 ·
  rename_i len elem xs k n hu;split at h
  ·
   rename_i s hs;split at h
   ·
    rename_i hb;cases h;have:=hy.v_inv;subst this
    cases hx with
    |ptr b off _ cs hc hx=>
     refine ⟨.pointer (some ⟨b,off+n.toNat*s,none⟩),?_,?_⟩
     · simp [Instr.indexAt,asIntOf,run_underlying hu,hb,run_sizeOf hs,Addr.add_lit,Instr.sureAddr]
     · exact .ptr b (off+n.toNat*s) _ (fun k=>cs (n.toNat*s+k)) (fun k hk=>by simp at hk;rw [Nat.add_assoc];exact hc _ om) (fun k a hk=>by rw [List.getElem?_drop] at hk;exact hx _ _ hk)
   · cases h
  · cases h
 ·
  rename_i len elem id off k n hu;split at h
  ·
   rename_i s hs;split at h
   ·
    rename_i hb;cases h;have:=hy.v_inv;subst this
    cases hx with
    |adrdead _ _ _ hd _=>exact absurd hd (hlive id off rfl)
    |adr _ _ o ho=>
     refine ⟨.pointer (some ⟨o.b,o.base+off+n.toNat*s,none⟩),?_,?_⟩
     · simp [Instr.indexAt,asIntOf,run_underlying hu,hb,run_sizeOf hs,Addr.add_lit,Instr.sureAddr]
     · rw [Nat.add_assoc];exact .adr id _ o ho
   · cases h
  · cases h
 · cases h
theorem aGk{d:Nat}{x:Option Value}{a:Option AV}(hx:match x,a with|some x,some a=>RV w M O x a|none,none=>True|_,_=>False){n:Nat}(h:fV d a=some n):
 (x=none∧n=d)∨ ∃k i,x=some (.int k i)∧0≤i∧i.toNat=n:=by
 unfold fV at h;split at h
 ·
  cases h
  cases x with
  |none=>exact .inl ⟨rfl,rfl⟩
  |some x=>exact hx.elim
 ·
  rename_i k i;split at h
  ·
   rename_i hi;cases h
   cases x with
   |none=>exact hx.elim
   |some x=>exact .inr ⟨k,i,by rw [hx.v_inv],hi,rfl⟩
  · cases h
 · cases h
theorem aZe(d d':Nat)(q:AV):fV d (some q)=fV d' (some q):=by
 cases q<;>try rfl
 rename_i x;cases x<;>rfl
theorem run_sliceBound(k:IntKind)(i:Int)(y:Nat)(code:BoundsCode)(h0:0≤i)(h1:i.toNat≤y):(Instr.sliceBound (.int k i) y code).run P w= .ok i.toNat w:=by
 have:i≤(y:Int):=by omega
 simp [Instr.sliceBound,asIntOf,h0,this]
def aKw(w:World)(M:Nat→Nat→Prop)(O:Nat→OSt)(x:Option Value)(a:Option AV):Prop:=
  match x,a with|some x,some a=>RV w M O x a|none,none=>True|_,_=>False
theorem nL{isSlice:Bool}{len cap:Nat}{lo hi mx:Option Value}{alo ahi amx:Option AV}(h1:aKw w M O lo alo)(h2:aKw w M O hi ahi)(h3:aKw w M O mx amx)
 {l h m:Nat} (e1:fV 0 alo=some l) (e2:fV len ahi=some h) (e3:fV cap amx=some m) (hlh:l≤h) (hhm:h≤m) (hmc:m≤cap)
 (hm:amx.isSome=true→ahi.isSome=true):(Instr.sliceBounds isSlice len cap lo hi mx).run P w= .ok (l,h,m) w:=by
 rcases aGk h1 e1 with ⟨rfl,rfl⟩|⟨k1,i1,rfl,p1,rfl⟩<;>rcases aGk h2 e2 with ⟨rfl,rfl⟩|⟨k2,i2,rfl,p2,rfl⟩<;>rcases aGk h3 e3 with ⟨rfl,rfl⟩|⟨k3,i3,rfl,p3,rfl⟩
 all_goals first
  |(exfalso;cases amx<;>cases ahi<;>simp [aKw] at h2 h3 hm;done)
  |skip
 all_goals simp only [Instr.sliceBounds,Sem.run_bind,Sem.run_pure,Result.andThen_ok]
 all_goals (repeat rw [run_sliceBound _ _ _ _ (by assumption) om])
 all_goals (try simp only [Result.andThen_ok])
 all_goals (repeat rw [run_sliceBound _ _ _ _ (by assumption) om])
 all_goals (try simp only [Result.andThen_ok])
 all_goals (repeat rw [run_sliceBound _ _ _ _ (by assumption) om])
 all_goals (try simp only [Result.andThen_ok])
theorem aWq{X:Nat→Nat→Prop}{w0:World}{H:aH}(hs:Sim X w0 w H O){t:TypeId}{x:Value}{a r:AV}{lo hi mx:Option Value}{alo ahi amx:Option AV}
 (hx:RV w (Mut X H O) O x a) (h1:aKw w (Mut X H O) O lo alo) (h2:aKw w (Mut X H O) O hi ahi) (h3:aKw w (Mut X H O) O mx amx)
 (h:xJ P H t a alo ahi amx=some r): ∃v,(Instr.sliceAt t x lo hi mx).run P w= .ok v w∧RV w (Mut X H O) O v r:=by
 unfold xJ at h;split at h
 ·
  rename_i s hu;split at h
  ·
   rename_i l hh eq1 e1 e2;split at h
   ·
    rename_i hb;cases h;have:=hx.v_inv;subst this;have hmx:mx=none:=by cases mx<;>simp [aKw] at h3<;>first|rfl|exact h3.elim
    subst hmx;have hrun:=nL (P:=P) (isSlice:=false) (cap:=s.size) h1 h2 h3 e1 e2 (m:=s.size) rfl hb.1 hb.2 (Nat.le_refl _) (by simp);exact ⟨_,by simp [Instr.sliceAt,Instr.slice,run_underlying hu,hrun],.v _⟩
   · cases h
  · cases h
 ·
  rename_i elem hu;split at h
  ·
   rename_i q hsz e1 e2 e3;split at h
   · rename_i hm;cases h;have:=hx.v_inv;subst this;have hrun:=nL (P:=P) (isSlice:=true) (cap:=0) h1 h2 h3 e1 e2 e3 (Nat.le_refl _) (Nat.le_refl _) (Nat.le_refl _) hm;refine ⟨.slice none 0 0,?_,.v _⟩;simp [Instr.sliceAt,Instr.slice,run_underlying hu,hrun,run_sizeOf hsz]
   · cases h
  · cases h
 ·
  rename_i elem xs len full hu;split at h
  ·
   rename_i s hsz;split at h
   ·
    rename_i l hh m e1 e2 e3;split at h
    ·
     rename_i hb;obtain ⟨hb1,hb2,hb3,hb4,hb5⟩:=hb;cases h
     cases hx with
     |slnil ao _=>
      have l0:l=0:=by omega
      have hh0:hh=0:=by omega
      have m0:m=0:=by omega
      subst l0 hh0 m0;have hrun:=nL (P:=P) (isSlice:=true) (cap:=0) h1 h2 h3 e1 e2 (m:=0) e3 om om om hb5;refine ⟨.slice ao 0 0,by simp [Instr.sliceAt,Instr.slice,run_underlying hu,hrun,run_sizeOf hsz],?_⟩
      simpa using RV.slnil ao _
     |sl b off cap _ _ _ cs hc hx hl hf=>
      have hm': ∃m',fV cap amx=some m'∧hh≤m'∧m'≤cap∧(amx.isSome=true→m'=m)∧(amx.isSome=false→m'=cap):=by
       cases amx with
       |none=>exact ⟨cap,rfl,by omega,Nat.le_refl _,fun h=>by simp at h,fun _=>rfl⟩
       |some q=>exact ⟨m,by rw [←e3];exact aZe _ _ _,hb2,by omega,fun _=>rfl,fun h=>by simp at h⟩
      obtain ⟨m',e3',hm1,hm2,hm3,hm4⟩:=hm';have hrun:=nL (P:=P) (isSlice:=true) h1 h2 h3 e1 e2 e3' hb1 hm1 hm2 hb5
      have hfull:(if amx.isSome then hh==m else full&&hh==len)=true→m'-l=hh-l:=by
       intro hfl
       cases hq:amx.isSome with
       |true=>rw [hq] at hfl;simp at hfl;rw [hm3 hq];omega
       |false=>
        rw [hq] at hfl;simp at hfl;rw [hm4 hq,hf hfl.1];omega
      by_cases hml:m'=l
      ·
       refine ⟨.slice (some ⟨b,off,none⟩) (hh-l) (m'-l),by simp [Instr.sliceAt,Instr.slice,run_underlying hu,hrun,run_sizeOf hsz,hml],?_⟩;have hz:hh-l=0:=by omega
       refine .sl b off (m'-l) _ _ _ cs ?_ ?_ om hfull
       · intro k hk;rw [hz] at hk;simp at hk
       · intro k a hk;rw [hz] at hk;simp at hk
      ·
       refine ⟨.slice (some ⟨b,off+l*s,none⟩) (hh-l) (m'-l),by simp [Instr.sliceAt,Instr.slice,run_underlying hu,hrun,run_sizeOf hsz,hml,Addr.add_lit],?_⟩;refine .sl b (off+l*s) (m'-l) _ _ _ (fun k=>cs (l*s+k)) ?_ ?_ om hfull
       · intro k hk;rw [Nat.add_assoc];exact hc _ (by simp at hk;omega)
       ·
        intro k a hk;rw [List.getElem?_take] at hk;split at hk
        · rw [List.getElem?_drop] at hk;exact hx _ _ hk
        · cases hk
    · cases h
   · cases h
  · cases h
 ·
  rename_i elem id off len hu;split at h
  ·
   rename_i s sz xs lock hsz hent;split at h
   ·
    rename_i l hh e1 e2;split at h
    ·
     rename_i hb;obtain ⟨hb1,hb2,rfl,hb4⟩:=hb;cases h;have hmx:mx=none:=by cases mx<;>simp [aKw] at h3<;>first|rfl|exact h3.elim
     subst hmx
     have hnd:O id≠ .dead:=fun hd=>by
      have h0:=hs.ent id;rw [hent] at h0;rcases h0 with ⟨h1,_⟩|⟨o',h1,_⟩<;>(rw [hd] at h1;cases h1)
     have zero: ∀ao:Option Addr,len=0→(∀b,RV w (Mut X H O) O (.slice b 0 0) (.own id (off+l*sz) 0))→ ∃v,(Instr.sliceAt t (.slice ao len 0) lo hi none).run P w= .ok v w∧RV w (Mut X H O) O v (.own id (off+l*sz) (hh-l)):=by
      intro ao h0 hall;subst h0;have hh0:hh=0:=by omega
      have l0:l=0:=by omega
      subst hh0 l0;have hrun:=nL (P:=P) (isSlice:=true) (cap:=0) h1 h2 h3 e1 e2 (m:=0) rfl om om om (by simp);exact ⟨.slice ao 0 0,by simp [Instr.sliceAt,Instr.slice,run_underlying hu,hrun,run_sizeOf hsz],hall ao⟩
     cases hx with
     |owndead _ _ _ _ hd _=>exact absurd hd hnd
     |ownvirt ao _ _ hv=>exact zero ao rfl (fun b=> .ownvirt b id _ hv)
     |ownz ao _ _ o ho=>exact zero ao rfl (fun b=> .ownz b id _ o ho)
     |own _ _ _ cap o ho hlc hfit=>
      obtain ⟨_,_,_,hosz,_⟩:=hs.cellsOf hent ho;have hrun:=nL (P:=P) (isSlice:=true) (cap:=cap) h1 h2 h3 e1 e2 (m:=cap) rfl hb1 om (Nat.le_refl _) (by simp)
      by_cases hml:cap=l
      ·
       have hz:hh-l=0:=by omega
       subst hml;refine ⟨.slice (some ⟨o.b,o.base+off,none⟩) 0 0,by simp [Instr.sliceAt,Instr.slice,run_underlying hu,hrun,run_sizeOf hsz,hz],?_⟩;rw [hz];exact .ownz _ id _ o ho
      ·
       refine ⟨.slice (some ⟨o.b,o.base+off+l*sz,none⟩) (hh-l) (cap-l),by simp [Instr.sliceAt,Instr.slice,run_underlying hu,hrun,run_sizeOf hsz,hml,Addr.add_lit],?_⟩;rw [Nat.add_assoc];refine .own id (off+l*sz) (hh-l) (cap-l) o ho om ?_;rw [hosz] at hfit⊢;have:l*sz+(cap-l)*sz=cap*sz:=by rw [←Nat.add_mul];congr 1;omega
       omega
    · cases h
   · cases h
  · cases h
 · cases h
theorem aTx{x:Value}{a r:AV}{xt asserted:TypeId}{ok:Bool}(hx:RV w M O x a)(h:nD P a asserted ok=some r):
 ∃v,(Instr.typeAssert x xt asserted ok).run P w= .ok v w∧RV w M O v r:=by
 unfold nD at h;split at h
 · cases h
 ·
  rename_i d hni hu
  have tup2: ∀(z:Value) (q:AV) (b:Bool),RV w M O z q→RV w M O (.tuple #[z,.bool b]) (.tup [q,.v (.bool b)]):=by
   intro z q b hz;refine .tup _ _ rfl (fun k a hk=>?_)
   match k,hk with
   |0,hk=>simp at hk;subst hk;simpa using hz
   |1,hk=>simp at hk;subst hk;simpa using RV.v _
  split at h
  ·
   split at h
   ·
    rename_i hok;split at h
    · rename_i z hz;cases h;have:=hx.v_inv;subst this;refine ⟨.tuple #[z,.bool false],?_,tup2 _ _ _ (.constAV z)⟩;subst hok;have hzr:=kB hz w;cases d<;>first|exact (hni _ rfl).elim|(simp [Instr.typeAssert,run_underlying hu,hzr];done)
    · cases h
   · cases h
  ·
   rename_i t q
   cases hx with
   |ifc _ y _ hy=>
    split at h
    ·
     rename_i ht;subst ht;cases h
     cases ok with
     |true=>
      refine ⟨.tuple #[y,.bool true],?_,tup2 _ _ _ hy⟩;cases d<;>first|exact (hni _ rfl).elim|(simp [Instr.typeAssert,run_underlying hu];done)
     |false=>
      refine ⟨y,?_,hy⟩;cases d<;>first|exact (hni _ rfl).elim|(simp [Instr.typeAssert,run_underlying hu];done)
    ·
     rename_i ht;split at h
     ·
      rename_i hok;split at h
      · rename_i z hz;cases h;subst hok;have hzr:=kB hz w;refine ⟨.tuple #[z,.bool false],?_,tup2 _ _ _ (.constAV z)⟩;cases d<;>first|exact (hni _ rfl).elim|(simp [Instr.typeAssert,run_underlying hu,hzr,ht];done)
      · cases h
     · cases h
  · cases h
 · cases h
theorem aRo{b:Builtin}{ts:Array TypeId}{ty:TypeId}{cs:Array Bool}{xs:Array Value}{as:List AV}{r:AV}(hl:xs.size=as.length)
 (hx: ∀k a,as[k]? =some a→RV w M O (xs.getD k undef) a) (hlive: ∀a∈as,∀id off len,a= .own id off len→O id≠ .dead) (h:bF P b ts.toList as=some r):
 ∃v,(builtin b ts ty cs xs).run P w= .ok (.value v) w∧RV w M O v r:=by
 have two: ∀(F:Array TypeId→TypeId→Array Value→Sem Value) (v:Value),(F ts ty xs).run P w= .ok v w→((do pure (.value (←F ts ty xs)):Sem Next)).run P w= .ok (.value v) w:=by
  intro F v hv;simp [hv]
 unfold bF at h;split at h
 ·
  rename_i t ts' a as' hts;have hx0:=hx 0 a (by simp);have hs0:0<xs.size:=by rw [hl];simp
  have e0:ts[0]? =some t:=by have:=congrArg (·[0]?) hts;simpa using this
  have e1:xs[0]? =some (xs.getD 0 undef):=by simp [hs0]
  split at h
  · rename_i s hu;cases h;have hv:=hx0.v_inv;exact ⟨_,by simp [builtin,Builtin.len_,e0,e1,hv,run_underlying hu,goInt],.v _⟩
  · rename_i e q n f hu;cases h;generalize xs.getD 0 undef=y at*;refine ⟨goInt n,?_,.v _⟩;cases hx0<;>simp [builtin,Builtin.len_,e0,e1,run_underlying hu]
  · rename_i e id off n hu;cases h;have hnd:=hlive (.own id off n) (by simp) id off n rfl;generalize xs.getD 0 undef=y at*;refine ⟨goInt n,?_,.v _⟩;cases hx0<;>first|(exfalso;exact hnd ‹_›)|simp [builtin,Builtin.len_,e0,e1,run_underlying hu]
  · rename_i e ad n c hu;cases h;have hv:=hx0.v_inv;exact ⟨_,by simp [builtin,Builtin.len_,e0,e1,hv,run_underlying hu,goInt],.v _⟩
  · rename_i n e hu;cases h;generalize xs.getD 0 undef=y at*;exact ⟨goInt n,by simp [builtin,Builtin.len_,e0,e1,run_underlying hu],.v _⟩
  · cases h
 ·
  rename_i t ts' a as' hts;have hx0:=hx 0 a (by simp);have hs0:0<xs.size:=by rw [hl];simp
  have e0:ts[0]? =some t:=by have:=congrArg (·[0]?) hts;simpa using this
  have e1:xs[0]? =some (xs.getD 0 undef):=by simp [hs0]
  split at h
  ·
   rename_i e q n hu;cases h;generalize xs.getD 0 undef=y at*;refine ⟨goInt n,?_,.v _⟩
   cases hx0 with
   |sl b off cap _ _ _ cs hc hx hl hf=>rw [hf rfl] at e1;simp [builtin,Builtin.cap_,e0,e1,run_underlying hu]
   |slnil _ _=>simp [builtin,Builtin.cap_,e0,e1,run_underlying hu]
  · rename_i e ad n c hu;cases h;have hv:=hx0.v_inv;exact ⟨_,by simp [builtin,Builtin.cap_,e0,e1,hv,run_underlying hu,goInt],.v _⟩
  · cases h
 ·
  rename_i x y;have hx0:=hx 0 x (by simp);have hx1:=hx 1 y (by simp);have hs2:xs.size=2:=by rw [hl];rfl
  have e2:xs.toList=[xs.getD 0 undef,xs.getD 1 undef]:=by
   apply List.ext_getElem? ;intro i
   match i with
   |0=>simp [hs2]
   |1=>simp [hs2]
   |i+2=>simp [hs2]
  unfold bV5 at h;split at h
  · cases h;rw [hx0.v_inv,hx1.v_inv] at e2;exact ⟨_,by simp [builtin,Builtin.min_,e2,Builtin.min2],.v _⟩
  · cases h
 ·
  rename_i x y;have hx0:=hx 0 x (by simp);have hx1:=hx 1 y (by simp);have hs2:xs.size=2:=by rw [hl];rfl
  have e2:xs.toList=[xs.getD 0 undef,xs.getD 1 undef]:=by
   apply List.ext_getElem? ;intro i
   match i with
   |0=>simp [hs2]
   |1=>simp [hs2]
   |i+2=>simp [hs2]
  unfold bV4 at h;split at h
  · cases h;rw [hx0.v_inv,hx1.v_inv] at e2;exact ⟨_,by simp [builtin,Builtin.max_,e2,Builtin.max2],.v _⟩
  · cases h
 · cases h
theorem RV.one{x:Value}{a:AV}(h:RV w M O x a)(ha:a.one=true):x.oneCell'=true:=by
 cases h<;>simp_all [AV.one,Value.oneCell']
theorem Value.cells_one{x:Value}(h:x.oneCell'=true):x.cells= #[x]:=by
 cases x<;>simp_all [Value.oneCell',Value.cells]
theorem RV.cells{x:Value}{a:AV}{cs:List AV}(h:RV w M O x a)(hc:a.cells? =some cs):
 x.cells.size=cs.length∧ ∀k b,cs[k]? =some b→RV w M O (x.cells.getD k undef) b:=by
 unfold AV.cells? at hc;split at hc
 ·
  cases hc
  cases h with
  |agg c _ hl hx=>exact ⟨hl,hx⟩
 ·
  split at hc
  ·
   rename_i ha;cases hc;rw [Value.cells_one (h.one ha)];refine ⟨rfl,fun k b hk=>?_⟩
   match k,hk with
   |0,hk=>simp at hk;subst hk;simpa using h
  · cases hc
theorem aO3(off:Nat): ∀(vs:List Value) (j:Nat) (cells:Array Value),off+j+vs.length≤cells.size→
 ((vs.zipIdx j).foldl (fun cs (x:Value×Nat)=>cs.setIfInBounds (off+x.2) x.1) cells).size=cells.size∧
 ∀k,((vs.zipIdx j).foldl (fun cs (x:Value×Nat)=>cs.setIfInBounds (off+x.2) x.1) cells).getD k undef=
  if off+j≤k∧k<off+j+vs.length then vs.getD (k-(off+j)) undef else cells.getD k undef
 |[],j,cells,h=>by
  refine ⟨rfl,fun k=>?_⟩;have: ¬(off+j≤k∧k<off+j+([]:List Value).length):=by simp
  rw [if_neg this];rfl
 |v::vs,j,cells,h=>by
  simp only [List.length_cons] at h;have ih:=aO3 off vs (j+1) (cells.setIfInBounds (off+j) v) (by simp;omega);simp only [List.zipIdx_cons,List.foldl_cons];refine ⟨by rw [ih.1];simp,fun k=>?_⟩;rw [ih.2 k]
  by_cases h1:off+(j+1)≤k∧k<off+(j+1)+vs.length
  ·
   rw [if_pos h1,if_pos (by simp;omega)];have:k-(off+j)=(k-(off+(j+1)))+1:=by omega
   rw [this];simp
  ·
   rw [if_neg h1]
   by_cases h2:k=off+j
   ·
    subst h2;rw [if_pos (by simp)];have:off+j<cells.size:=by omega
    simp [this]
   · rw [if_neg (by simp;omega)];simp [Array.getElem?_setIfInBounds_ne (show off+j≠k by omega)]
theorem aB5{place:Nat→Option (Nat×Nat)} : ∀ {ps:List (Nat×Value)} {as:List (Nat×AV)} {c:Array Value} {cells r:List AV},
 ps.length=as.length→(∀(k i:Nat) (a:AV),as[k]? =some (i,a)→ ∃x,ps[k]? =some (i,x)∧RV w M O x a)→
 c.size=cells.length→(∀k a,cells[k]? =some a→RV w M O (c.getD k undef) a)→nP place cells as=some r→
 ∃c',Instr.fill place c ps=some c'∧c'.size=r.length∧ ∀k a,r[k]? =some a→RV w M O (c'.getD k undef) a
 |[],[],c,cells,r,_,_,hl,hx,h=>by cases h;exact ⟨c,rfl,hl,hx⟩
 |(i,x)::ps,(i',a)::as,c,cells,r,hlen,hp,hl,hx,h=>by
  obtain ⟨x',h1,h2⟩:=hp 0 i' a rfl;simp at h1;obtain ⟨rfl,rfl⟩:=h1;unfold nP at h;split at h
  ·
   rename_i off size cs hpl hcs;split at h
   · cases h
   ·
    rename_i hb;obtain ⟨h3,h4⟩:=h2.cells hcs;unfold Instr.fill;simp only [hpl];rw [if_neg (by rw [h3,hl];simpa using hb)];have hb': ¬off+cs.length>cells.length:=fun h=>hb (.inr h);have hz:=aO3 off x.cells.toList 0 c (by simp;omega)
    have e:(Array.foldl (fun cs x=>cs.setIfInBounds (off+x.snd) x.fst) c x.cells.zipIdx)=((x.cells.toList.zipIdx 0).foldl (fun cs (x:Value×Nat)=>cs.setIfInBounds (off+x.2) x.1) c):=by
     rw [←Array.foldl_toList];simp
    refine aB5 (by simpa using hlen) (fun k i a hk=>hp (k+1) i a (by simpa using hk)) ?_ ?_ h
    · show (Array.foldl (fun cs x=>cs.setIfInBounds (off+x.snd) x.fst) c x.cells.zipIdx).size=_;rw [e,hz.1,hl];simp;omega
    ·
     intro k b hk;show RV w M O ((Array.foldl (fun cs x=>cs.setIfInBounds (off+x.snd) x.fst) c x.cells.zipIdx).getD k undef) b;rw [e,hz.2 k];simp only [Nat.add_zero,Array.length_toList]
     by_cases h5:off≤k∧k<off+x.cells.size
     ·
      rw [if_pos h5]
      have:(cells.take off++cs++cells.drop (off+cs.length))[k]? =cs[k-off]? :=by
       rw [List.append_assoc,List.getElem?_append_right (by simp;omega),List.getElem?_append_left (by simp;omega)];congr 1;simp;omega
      rw [this] at hk;have:=h4 _ _ hk
      simpa using this
     ·
      rw [if_neg h5]
      have:(cells.take off++cs++cells.drop (off+cs.length))[k]? =cells[k]? :=by
       rcases Nat.lt_or_ge k off with h6|h6
       · rw [List.append_assoc,List.getElem?_append_left (by simp;omega),List.getElem?_take,if_pos h6]
       · rw [List.getElem?_append_right (by simp;omega),List.getElem?_drop];congr 1;simp;omega
      rw [this] at hk;exact hx _ _ hk
  · cases h
 |[],_::_,_,_,_,hlen,_,_,_,_=>by simp at hlen
 |_::_,[],_,_,_,hlen,_,_,_,_=>by simp at hlen
theorem nO{t:TypeId}{zs:List AV}(h:zeroCells? P t=some zs): ∃z,(P.info? t).bind (·.zero)=some z∧z.cells.size=zs.length∧ ∀k a,zs[k]? =some a→RV w M O (z.cells.getD k undef) a:=by
 unfold zeroCells? at h;split at h
 ·
  rename_i z hz;cases h;refine ⟨z,hz,by simp,fun k a hk=>?_⟩;simp only [List.getElem?_map,Option.map_eq_some_iff] at hk;obtain ⟨y,hy,rfl⟩:=hk;have:z.cells.getD k undef=y:=by simp at hy;simp [hy]
  rw [this];exact .v y
 · cases h
theorem aWh{t:TypeId}{parts:Array (Nat×Value)}{as:List (Nat×AV)}{r:AV}(hlen:parts.size=as.length)
 (hp: ∀(k i:Nat) (a:AV),as[k]? =some (i,a)→ ∃x,parts[k]? =some (i,x)∧RV w M O x a) (h:aAd P t as=some r):
 ∃v,(Instr.build t parts).run P w= .ok v w∧RV w M O v r:=by
 unfold aAd at h;split at h
 ·
  rename_i zero fields hz hu;split at h
  · rename_i places hpl;simp only [Option.map_eq_some_iff] at h;obtain ⟨q,hq,rfl⟩:=h;obtain ⟨z,hz1,hz2,hz3⟩:=nO (w:=w) (M:=M) (O:=O) hz;obtain ⟨c',h1,h2,h3⟩:=aB5 (ps:=parts.toList) (c:=z.cells) (by simpa using hlen) (fun k i a hk=>by simpa using hp k i a hk) hz2 hz3 hq;refine ⟨.agg c',?_,.agg _ _ h2 h3⟩;have hpr:=run_places (P:=P) w fields.toList places hpl;simp [Instr.build,run_underlying hu,kB hz1,Array.mapM_eq_mapM_toList,hpr,h1]
  · cases h
 ·
  rename_i zero n elem hz hu;split at h
  · rename_i size hsz;simp only [Option.map_eq_some_iff] at h;obtain ⟨q,hq,rfl⟩:=h;obtain ⟨z,hz1,hz2,hz3⟩:=nO (w:=w) (M:=M) (O:=O) hz;obtain ⟨c',h1,h2,h3⟩:=aB5 (ps:=parts.toList) (c:=z.cells) (by simpa using hlen) (fun k i a hk=>by simpa using hp k i a hk) hz2 hz3 hq;refine ⟨.agg c',?_,.agg _ _ h2 h3⟩;simp [Instr.build,run_underlying hu,kB hz1,run_sizeOf hsz,h1]
  · cases h
 · cases h
end
section
open Go.RowKit
variable {P:Program}{w:World}{M:Nat→Nat→Prop}{O:Nat→OSt}
theorem Sim.alive{X:Nat→Nat→Prop}{w0:World}{H:aH}(hs:Sim X w0 w H O){a:AV}(h:H.alive a=true):
 (∀id off,a= .adr id off→O id≠ .dead)∧(∀id off len,a= .own id off len→O id≠ .dead):=by
 have key: ∀id,(match H.ent id with| .cells .. =>true|_=>false)=true→O id≠ .dead:=by
  intro id hid hd;have h0:=hs.ent id;split at hid
  · rename_i sz xs lock he;rw [he] at h0;rcases h0 with ⟨h1,_⟩|⟨o',h1,_⟩<;>(rw [hd] at h1;cases h1)
  · cases hid
 constructor
 · rintro id off rfl;exact key id h
 · rintro id off len rfl;exact key id h
theorem aOw{ρ:Operand→Value}{ρa:Operand→AV}(hρ: ∀x,RV w M O (ρ x) (ρa x))(x:Option Operand):aKw w M O (x.map ρ) (x.map ρa):=by
 cases x with
 |none=>trivial
 |some x=>exact hρ x
theorem bGe{ρ:Operand→Value}{ρa:Operand→AV}(hρ: ∀x,RV w M O (ρ x) (ρa x))(xs:Array Operand):
 (xs.map ρ).size=(xs.toList.map ρa).length∧ ∀k a,(xs.toList.map ρa)[k]? =some a→RV w M O ((xs.map ρ).getD k undef) a:=by
 refine ⟨by simp,fun k a hk=>?_⟩;simp only [List.getElem?_map,Option.map_eq_some_iff] at hk;obtain ⟨x,hx,rfl⟩:=hk;have:(xs.map ρ).getD k undef=ρ x:=by simp at hx;simp [hx]
 rw [this];exact hρ x
theorem aPl{X:Nat→Nat→Prop}{w0:World}{H:aH}(hs:Sim X w0 w H O){ρ:Operand→Value}{ρa:Operand→AV}(hρ: ∀x,RV w (Mut X H O) O (ρ x) (ρa x))
 {o:Oper} {r:AV} (h:bJ P H ρa o.op=some r): ∃v,(execOp ρ o).run P w= .ok (.value v) w∧RV w (Mut X H O) O v r:=by
 have lift: ∀ {s:Sem Value} {v:Value},s.run P w= .ok v w→(do pure (.value (←s)):Sem Next).run P w= .ok (.value v) w:=by
  intro s v hv;simp [hv]
 unfold bJ at h;unfold execOp;split at h
 · cases h;exact ⟨_,by simp [*],hρ _⟩
 · cases h;exact ⟨_,by simp [*],hρ _⟩
 ·
  rename_i c a b ho;split at h
  ·
   rename_i t hc;cases h;have:=hρ c;rw [hc] at this;have:=this.v_inv;simp only [ho];refine ⟨if t then ρ a else ρ b,by simp [asBool,this],?_⟩;unfold aPj;cases t
   · exact hρ b
   · exact hρ a
  · cases h
 · rename_i t a ho;obtain ⟨v,h1,h2⟩:=aPh hs (hρ a) h;simp only [ho];exact ⟨v,lift h1,h2⟩
 ·
  rename_i x ho;have hx:=hρ x;simp only [ho];split at h
  ·
   rename_i xs hr;cases h;rw [hr] at hx;generalize ρ x=y at*
   cases hx with
   |ptr b off _ cs hc hx=>exact ⟨_,rfl,.ptr b off _ cs hc hx⟩
  ·
   rename_i id off hr;split at h
   ·
    rename_i hal;cases h;rw [hr] at hx;have hl:=(hs.alive hal).1 id off rfl;generalize ρ x=y at*
    cases hx with
    |adrdead _ _ _ hd _=>exact absurd hd hl
    |adr _ _ o ho'=>exact ⟨_,rfl,.adr id off o ho'⟩
   · cases h
  ·
   rename_i f fs cs hr;cases h;rw [hr] at hx;generalize ρ x=y at*
   cases hx with
   |clo _ f c _ _ hl hx hl' hx'=>exact ⟨_,rfl,.clo _ f c _ _ hl hx hl' hx'⟩
  · cases h
 · rename_i op t x y yt ho;obtain ⟨v,h1,h2⟩:=bCs (ox:=x) (oy:=y) (hρ x) (hρ y) h;simp only [ho];exact ⟨v,lift h1,h2⟩
 · rename_i op t x ho;obtain ⟨v,h1,h2⟩:=bHk (P:=P) (hρ x) h;simp only [ho];exact ⟨v,lift h1,h2⟩
 · rename_i s d x ho;obtain ⟨v,h1,h2⟩:=aZf hs (hρ x) h;simp only [ho];exact ⟨v,lift h1,h2⟩
 ·
  rename_i t x ho;simp only [ho];split at h
  · cases h
  · rename_i d hni hu;cases h;refine ⟨.iface t (ρ x),lift ?_,.ifc t _ _ (hρ x)⟩;cases d<;>first|exact (hni _ rfl).elim|(simp [Instr.makeInterface,run_underlying hu];done)
  · cases h
 · rename_i fn f c ho;cases h;simp only [ho];obtain ⟨h1,h2⟩:=bGe hρ f;obtain ⟨h3,h4⟩:=bGe hρ c;exact ⟨_,lift rfl,.clo fn _ _ _ _ h1 h2 h3 h4⟩
 · rename_i t x lo hi mx ho;obtain ⟨v,h1,h2⟩:=aWq hs (hρ x) (aOw hρ lo) (aOw hρ hi) (aOw hρ mx) h;simp only [ho];exact ⟨v,lift h1,h2⟩
 ·
  rename_i t x f ho;split at h
  · rename_i hal;obtain ⟨v,h1,h2⟩:=aO5 (hρ x) (hs.alive hal).1 h;simp only [ho];exact ⟨v,lift h1,h2⟩
  · cases h
 · rename_i t x f ho;obtain ⟨v,h1,h2⟩:=aWl (hρ x) h;simp only [ho];exact ⟨v,lift h1,h2⟩
 ·
  rename_i t x i ho;split at h
  · rename_i hal;obtain ⟨v,h1,h2⟩:=aO7 (hρ x) (hρ i) (hs.alive hal).1 (hs.alive hal).2 h;simp only [ho];exact ⟨v,lift h1,h2⟩
  · cases h
 · rename_i t x i ho;obtain ⟨v,h1,h2⟩:=aWm (hρ x) (hρ i) h;simp only [ho];exact ⟨v,lift h1,h2⟩
 · rename_i x xt asserted ok ho;obtain ⟨v,h1,h2⟩:=aTx (xt:=xt) (hρ x) h;simp only [ho];exact ⟨v,lift h1,h2⟩
 ·
  rename_i x i ho;have hx:=hρ x;simp only [ho];split at h
  ·
   rename_i xs hr;rw [hr] at hx;generalize ρ x=y at*
   cases hx with
   |tup cs _ hl hx=>
    have hlt:i<cs.size:=by
     rw [hl];rcases Nat.lt_or_ge i xs.length with h'|h'
     · exact h'
     · rw [List.getElem?_eq_none h'] at h;cases h
    have:=hx i r h;refine ⟨cs[i],lift (by simp [Instr.extract,hlt]),?_⟩
    simpa [hlt] using this
  · cases h
 ·
  rename_i t parts ho;simp only [ho]
  obtain ⟨v,h1,h2⟩:=aWh (parts:=parts.map fun (i,x)=>(i,ρ x)) (by simp) (fun k i a hk=>by
   simp only [List.getElem?_map,Option.map_eq_some_iff] at hk;obtain ⟨⟨i',x⟩,hx,he⟩:=hk;simp at he;obtain ⟨rfl,rfl⟩:=he;exact ⟨ρ x,by simp at hx;simp [hx],hρ x⟩) h
  exact ⟨v,lift h1,h2⟩
 ·
  rename_i b args ats ho;split at h
  ·
   rename_i hal;obtain ⟨h1,h2⟩:=bGe hρ args
   obtain ⟨v,h3,h4⟩:=aRo (ts:=ats) (ty:=o.type) (cs:=args.map fun| .const _=>true|_=>false) (xs:=args.map ρ) h1 h2
    (fun a ha id off len e=>(hs.alive (List.all_eq_true.1 hal a ha)).2 id off len e) h
   simp only [ho,resolve,invoke,Sem.run_bind,Sem.run_pure,Result.andThen_ok];exact ⟨v,h3,h4⟩
  · cases h
 · cases h
end
section
open Go.RowKit
def TypeDesc.isInt:TypeDesc→Bool
  | .int _=>true
  |_=>false
def zeros(n:Nat)(zs:List AV):List AV:=(List.replicate n zs).flatten
def setAt(xs:List AV)(off:Nat):List AV→List AV
  |[]=>xs
  |y::ys=>setAt (xs.set off y) (off+1) ys
def aH.isFresh(H:aH)(id:Nat):Bool:=match H.ent id with| .fresh=>true|_=>false
def aZ6(H:aH)(sz:Nat):AV→Option (List AV×Nat×Nat×Option Nat)
  | .v (.slice none 0 0)=>some ([],0,0,none)
  | .sl xs len true=>if xs.length=len*sz then some (xs,len,0,none) else none
  | .own id off len=>match H.ent id with
    | .cells sz' xs lock=>if sz'=sz∧off+len*sz=xs.length then some (xs.drop off,len,lock-off,some id) else none
    |_=>none
  |_=>none
def aFa(H:aH)(sz:Nat):AV→Option (List AV×Nat)
  | .v (.slice _ 0 _)=>some ([],0)
  | .sl ys n _=>if ys.length=n*sz then some (ys,n) else none
  | .own id off n=>match H.ent id with
    | .cells sz' xs _=>if sz'=sz∧off+n*sz≤xs.length then some ((xs.drop off).take (n*sz),n) else none
    |_=>none
  | .v (.string s)=>if sz=1 then some (s.data.toList.map (fun b=> .v (.int .u8 b.toNat)),s.size) else none
  |_=>none
def aK0(P:Program)(H:aH)(id:Nat)(ts tx:TypeId)(s x:AV):Option (AV×aH):=
  match P.underlying ts,P.underlying tx with
  |some (.slice elem),some d=>if TypeDesc.isInt d then (match P.info? elem,s,x with
      |some i,.v (.slice none 0 0),.v (.int _ m)=>
        if H.isFresh id=true∧0<m∧m≤140737488355328∧i.bytes≠0∧m.toNat*i.bytes≤140737488355328∧(i.zero.map (·.cells.size))=some i.size∧i.size≠0 then
          some (.own id 0 m.toNat,H.put id (.cells i.size (List.replicate (m.toNat*i.size) .any) 0)) else none
      |_,_,_=>none) else
    match P.info? elem with
    |some i=>match aZ6 H i.size s,aFa H i.size x with
      |some (old,len,lock,oid),some (new,n)=>
        if H.isFresh id=true∧i.size≠0∧i.bytes≠0∧i.zero.isSome=true∧(i.zero.map (·.cells.size))=some i.size∧(len+n)*i.bytes≤140737488355328∧new.all AV.one=true∧(oid=none→len≠0→n≠0) then
          some (.own id 0 (len+n),(match oid with|some j=>H.put j .dead|none=>H).put id (.cells i.size (old++new) lock))
        else none
      |_,_=>none
    |none=>none
  |_,_=>none
def eZ(P:Program)(H:aH)(id:Nat)(ρ:Operand→AV)(op:Op):Option (AV×aH):=
  match op with
  | .alloc elem=>match zeroCells? P elem with
    |some zs=>if H.isFresh id then some (.adr id 0,H.put id (.cells 1 zs 0)) else none
    |none=>none
  | .box _ x=>match (ρ x).cells? with
    |some cs=>if H.isFresh id then some (.adr id 0,H.put id (.cells 1 cs 0)) else none
    |none=>none
  | .buildSlice t len parts=>match P.underlying t with
    |some (.slice elem)=>match aO P elem,zeroCells? P elem with
      |some s,some zs=>if H.isFresh id=true∧len*s≤16777216∧zs.length=s∧s≠0 then
          (nP (fun i=>some (i*s,s)) (zeros len zs) (parts.toList.map fun (i,x)=>(i,ρ x))).map (fun xs=>(.own id 0 len,H.put id (.cells s xs 0)))
        else none
      |_,_=>none
    |_=>none
  | .store t a x=>match ρ a,(ρ x).cells? with
    | .adr j off,some cs=>match H.ent j with
      | .cells sz xs lock=>if aO P t=some cs.length∧lock≤off∧off+cs.length≤xs.length∧cs.all AV.one=true then
          some (.v undef,H.put j (.cells sz (setAt xs off cs) lock)) else none
      |_=>none
    |_,_=>none
  | .makeSlice t l c=>match P.underlying t,ρ l,ρ c with
    |some (.slice elem),.v (.int _ l),.v (.int _ c)=>match P.info? elem,zeroCells? P elem with
      |some i,some zs=>if H.isFresh id=true∧0≤l∧l≤c∧c≤281474976710656∧i.bytes*c≤281474976710656∧zs.length=i.size∧i.size≠0 then
          some (.own id 0 l.toNat,H.put id (.cells i.size (zeros l.toNat zs) 0)) else none
      |_,_=>none
    |_,_,_=>none
  | .range t x=>match P.underlying t,ρ x with
    |some .string,.v (.string s)=>if H.isFresh id then some (.adr id 0,H.put id (.iter s 0)) else none
    |_,_=>none
  | .next it true=>match ρ it with
    | .adr j 0=>match H.ent j with
      | .iter s pos=>if pos<s.size then
          some (.tup [.v (.bool true),.v (.int .i64 pos),.v (.int .i32 (Utf8.decode s pos).1)],H.put j (.iter s (pos+(Utf8.decode s pos).2)))
          else some (.tup [.v (.bool false)],H)
      |_=>none
    |_=>none
  | .call { callee:= .builtin .append,args,argTypes } =>match args.toList,argTypes.toList with
    |[s,x],[ts,tx]=>aK0 P H id ts tx (ρ s) (ρ x)
    |_,_=>none
  |_=>none
variable {P:Program}{w:World}{O:Nat→OSt}{X:Nat→Nat→Prop}{w0:World}{H:aH}
def aD9(P:Program)(X:Nat→Nat→Prop)(w0 w:World)(H:aH)(O:Nat→OSt)(s:Sem Next)(r:AV)(H':aH):Prop:=
  ∃v w' O',(s.run P w= .ok (.value v) w'∨(s.run P w= .ok .skip w'∧v=undef))∧Sim X w0 w' H' O'∧fQ w (Mut X H O) O w' (Mut X H' O') O'∧RV w' (Mut X H' O') O' v r
theorem aH.isFresh_eq{id:Nat}(h:H.isFresh id=true):H.ent id= .fresh:=by
 unfold aH.isFresh at h;split at h
 · assumption
 · cases h
theorem lY{s:Sem Value}{v:Value}{w w':World}(hv:s.run P w= .ok v w'):(do pure (.value (←s)):Sem Next).run P w= .ok (.value v) w':=by simp [hv]
theorem aN5(hs:Sim X w0 w H O){id:Nat}(hf:H.isFresh id=true)(c:Array Value)(elem:TypeId)(sz:Nat)(xs:List AV)(w':World)
 (hw:w'.heap=w.heap.push (.cells c elem)) (ho:w'.os=w.os) (htp:w'.tape=w.tape) (hout:w'.output=w.output) (hlen:xs.length≤c.size)
 (hx: ∀k a,xs[k]? =some a→RV w (Mut X H O) O (c.getD k undef) a):
 ∃O',Sim X w0 w' (H.put id (.cells sz xs 0)) O'∧fQ w (Mut X H O) O w' (Mut X (H.put id (.cells sz xs 0)) O') O'∧
  O' id= .live ⟨w.heap.size,0,c.size,sz⟩:=
 hs.new id (aH.isFresh_eq hf) c elem sz xs _ hw ho htp hout (0,0) rfl (fun i _ h=>by simp at h) hlen hx
theorem aPc{n:Nat}{zs:List AV}{z:Array Value}(hz:z.size=zs.length)(hx: ∀k a,zs[k]? =some a→RV w (Mut X H O) O (z.getD k undef) a)
 {m:Nat} (hm:n*zs.length≤m):(zeros n zs).length=n*zs.length∧
 ∀k a,(zeros n zs)[k]? =some a→RV w (Mut X H O) O (((Array.range m).map (z[· %z.size]!)).getD k undef) a:=by
 have hlen:(zeros n zs).length=n*zs.length:=by simp [zeros,List.length_flatten]
 have hget: ∀(n k:Nat) (a:AV),(zeros n zs)[k]? =some a→k<n*zs.length∧zs[k%zs.length]? =some a:=by
  intro n
  induction n with
  |zero=>intro k a h;simp [zeros] at h
  |succ n ih=>
   intro k a h;simp only [zeros,List.replicate_succ,List.flatten_cons] at h;rcases Nat.lt_or_ge k zs.length with hk|hk
   · rw [List.getElem?_append_left hk] at h;refine ⟨by rw [Nat.add_mul];omega,?_⟩;rw [Nat.mod_eq_of_lt hk];exact h
   · rw [List.getElem?_append_right hk] at h;obtain ⟨h1,h2⟩:=ih _ _ h;refine ⟨by rw [Nat.add_mul];omega,?_⟩;rw [Nat.mod_eq_sub_mod hk];exact h2
 refine ⟨hlen,fun k a hk=>?_⟩;obtain ⟨h1,h2⟩:=hget n k a hk;have hkm:k<m:=by omega
 have hpos:0<zs.length:=by
  rcases Nat.eq_zero_or_pos zs.length with h0|h0
  · rw [h0] at h1;simp at h1
  · exact h0
 have h3:=hx _ _ h2
 have e:((Array.range m).map (z[· %z.size]!)).getD k undef=z.getD (k%zs.length) undef:=by
  have hlt:k%z.size<z.size:=Nat.mod_lt _ om;simp [hkm,hz];rw [hz] at hlt;have:k%zs.length<z.size:=by omega
  simp [this]
 rw [e];exact h3
end
section
open Go.RowKit
variable {P:Program}{w:World}{O:Nat→OSt}{X:Nat→Nat→Prop}{w0:World}{H:aH}
theorem aNk(x:Value)(a:Addr)(hx:x.oneCell'=true)(hc: ∃u,w.cell? a=some u)(hf:w.frozen? a=false):(store a x).run P w= .ok () (w.setCell a x):=by
 obtain ⟨u,hu⟩:=hc;rw [run_store P w a x _ hx,hu];simp [hf]
theorem aQc(id sz lock:Nat)(o:Own): ∀(ys:List AV) (vs:List Value) (i off:Nat) (w:World) (H:aH) (xs:List AV),Sim X w0 w H O→O id= .live o→
 H.ent id= .cells sz xs lock→lock≤off+i→off+i+ys.length≤xs.length→ys.all AV.one=true→vs.length=ys.length→
 (∀k a,ys[k]? =some a→RV w (Mut X H O) O (vs.getD k undef) a)→
 ∃w',(storeCells ⟨o.b,o.base+off,none⟩ vs i).run P w= .ok () w'∧Sim X w0 w' (H.put id (.cells sz (setAt xs (off+i) ys) lock)) O∧
  fQ w (Mut X H O) O w' (Mut X (H.put id (.cells sz (setAt xs (off+i) ys) lock)) O) O
 |[],[],i,off,w,H,xs,hs,ho,he,hl,hlen,_,_,_=>by
  have e:H.put id (.cells sz (setAt xs (off+i) []) lock)=H:=by
   unfold aH.put setAt;have:upd H.ent id (.cells sz xs lock)=H.ent:=by funext j;by_cases hj:j=id<;>simp [upd,hj,he]
   rw [this]
  rw [e];exact ⟨w,rfl,hs,fQ.refl _ _ _⟩
 |y::ys,v::vs,i,off,w,H,xs,hs,ho,he,hl,hlen,hone,hvl,hx=>by
  simp only [List.length_cons] at hlen hvl;simp only [List.all_cons,Bool.and_eq_true] at hone;have hy:=hx 0 y rfl;simp only [List.getD_cons_zero] at hy;obtain ⟨h1,h2,h3,h4⟩:=hs.store1 id sz xs lock (off+i) he o ho hl om v y hy;have he':(H.put id (.cells sz (xs.set (off+i) y) lock)).ent id= .cells sz (xs.set (off+i) y) lock:=upd_same _ _ _
  obtain ⟨w',h5,h6,h7⟩:=aQc id sz lock o ys vs (i+1) off _ _ _ h3 ho he' om (by simp;omega) hone.2 om
   (fun k a hk=>(hx (k+1) a (by simpa using hk)).mono h4)
  have e:(H.put id (.cells sz (xs.set (off+i) y) lock)).put id (.cells sz (setAt (xs.set (off+i) y) (off+(i+1)) ys) lock)=
   H.put id (.cells sz (setAt xs (off+i) (y::ys)) lock):=by
   unfold aH.put;congr 1;funext j
   by_cases hj:j=id<;>simp [upd,hj,setAt,Nat.add_assoc]
  rw [e] at h6 h7;refine ⟨w',?_,h6,h4.trans h7⟩;have hrun:=aNk (P:=P) v ⟨o.b,o.base+(off+i),none⟩ (hy.one hone.1) h1 h2;simp only [storeCells,Addr.add_lit,Sem.run_bind];rw [Nat.add_assoc,hrun];exact h5
 |[],_::_,_,_,_,_,_,_,_,_,_,_,_,hvl,_=>by simp at hvl
 |_::_,[],_,_,_,_,_,_,_,_,_,_,_,hvl,_=>by simp at hvl
theorem Sim.notDead(hs:Sim X w0 w H O){id sz:Nat}{xs:List AV}{lock:Nat}(he:H.ent id= .cells sz xs lock):O id≠ .dead:=fun hd=>by
 have h0:=hs.ent id;rw [he] at h0;rcases h0 with ⟨h1,_⟩|⟨o',h1,_⟩<;>(rw [hd] at h1;cases h1)
theorem aN6(hs:Sim X w0 w H O){id:Nat}(hf:H.isFresh id=true)(x:Value)(elem:TypeId)(cs:List AV)
 (hl:x.cells.size=cs.length) (hx: ∀k a,cs[k]? =some a→RV w (Mut X H O) O (x.cells.getD k undef) a) (s:Sem Value)
 (hrun:s.run P w= .ok (.pointer (some ⟨w.heap.size,0,none⟩)) (w.alloc (.cells x.cells elem))):
 aD9 P X w0 w H O (do pure (.value (←s))) (.adr id 0) (H.put id (.cells 1 cs 0)):=by
 obtain ⟨O',h1,h2,h3⟩:=aN5 hs hf x.cells elem 1 cs (w.alloc (.cells x.cells elem)) rfl rfl rfl rfl om hx;exact ⟨_,_,O',.inl (lY hrun),h1,h2,by have:=RV.adr (w:=w.alloc (.cells x.cells elem)) (M:=Mut X (H.put id (.cells 1 cs 0)) O') id 0 _ h3;simpa using this⟩
theorem aTe(hs:Sim X w0 w H O){t:TypeId}{p x:Value}{j off sz lock:Nat}{xs cs:List AV}{a:AV}(hp:RV w (Mut X H O) O p (.adr j off))(hx:RV w (Mut X H O) O x a)
 (hc:a.cells? =some cs) (he:H.ent j= .cells sz xs lock) (hz:aO P t=some cs.length) (hl:lock≤off) (hlen:off+cs.length≤xs.length) (hone:cs.all AV.one=true):
 aD9 P X w0 w H O (do Instr.storeAt t p x;pure .skip) (.v undef) (H.put j (.cells sz (setAt xs off cs) lock)):=by
 obtain ⟨h1,h2⟩:=hx.cells hc
 cases hp with
 |adrdead _ _ _ hd _=>exact absurd hd (hs.notDead he)
 |adr _ _ o ho=>
  obtain ⟨w',h3,h4,h5⟩:=aQc (P:=P) j sz lock o cs x.cells.toList 0 off w H xs hs ho he hl hlen hone (by simpa using h1) (fun k a hk=>by simpa using h2 k a hk);refine ⟨undef,w',O,.inr ⟨?_,rfl⟩,h4,h5,.v _⟩;simp only [Instr.storeAt,storeVar,Sem.run_bind,Instr.sureAddr,Sem.run_pure,Result.andThen_ok,run_sizeOf hz,h1];simp only [ne_eq,not_true_eq_false,if_false];show ((storeCells ⟨o.b,o.base+off,none⟩ x.cells.toList).run P w).andThen _=_;rw [h3];rfl
theorem bBi(hs:Sim X w0 w H O){t:TypeId}{x:Value}{s:ByteArray}{id:Nat}(hu:P.underlying t=some .string)(hx:RV w (Mut X H O) O x (.v (.string s)))(hf:H.isFresh id=true):
 aD9 P X w0 w H O (do pure (.value (←Instr.range t x))) (.adr id 0) (H.put id (.iter s 0)):=by
 have:=hx.v_inv;subst this;obtain ⟨O',h1,h2,h3⟩:=hs.newIter id (aH.isFresh_eq hf) s 0 (w':=w.alloc (.stringIter s 0)) rfl rfl rfl rfl;refine ⟨.pointer (some ⟨w.heap.size,0,none⟩),_,O',.inl (lY ?_),h1,h2,?_⟩
 · simp [Instr.range,run_underlying hu]
 ·
  have:=RV.adr (w:=w.alloc (.stringIter s 0)) (M:=Mut X (H.put id (.iter s 0)) O') id 0 _ h3
  simpa using this
theorem RV.ints2{M:Nat→Nat→Prop}(a b c:Value):RV w M O (.tuple #[a,b,c]) (.tup [.v a,.v b,.v c]):=by
 refine .tup _ _ rfl (fun k x hk=>?_)
 match k,hk with
 |0,hk=>simp at hk;subst hk;exact .v _
 |1,hk=>simp at hk;subst hk;exact .v _
 |2,hk=>simp at hk;subst hk;exact .v _
theorem bEu(hs:Sim X w0 w H O){x:Value}{s:ByteArray}{j pos:Nat}{ty:TypeId}(hx:RV w (Mut X H O) O x (.adr j 0))(he:H.ent j= .iter s pos):
 (pos<s.size→aD9 P X w0 w H O (do pure (.value (←Instr.next x true ty))) (.tup [.v (.bool true),.v (.int .i64 pos),.v (.int .i32 (Utf8.decode s pos).1)]) (H.put j (.iter s (pos+(Utf8.decode s pos).2))))∧
 (¬pos<s.size→aD9 P X w0 w H O (do pure (.value (←Instr.next x true ty))) (.tup [.v (.bool false)]) H):=by
 have h0:=hs.ent j;rw [he] at h0;obtain ⟨o,h1,h2,h3,h4⟩:=h0;have hobj:(getObj o.b).run P w= .ok (.stringIter s pos) w:=by simp [getObj,Sem.run,h4]
 cases hx with
 |adrdead _ _ _ hd _=>rw [h1] at hd;cases hd
 |adr _ _ o' ho=>
  rw [h1] at ho;cases ho;constructor
  ·
   intro hpos;have eO:oP O j (.live o)=O:=by funext i;by_cases hi:i=j<;>simp [oP,hi,h1]
   have ht:fQ w (Mut X H O) O { w with heap:=w.heap.setIfInBounds o.b (.stringIter s (pos+(Utf8.decode s pos).2)) } (Mut X (H.put j (.iter s (pos+(Utf8.decode s pos).2))) O) O:=by
    refine ⟨fun b i v hc hm=>⟨?_,fun hm'=>?_⟩,fun _ h=>h,fun _ h=> .inl h,fun _ _ h=> .inl h⟩
    ·
     have hne:o.b≠b:=fun e=>by subst e;simp [World.cell?,h4] at hc
     have:(w.heap.setIfInBounds o.b (.stringIter s (pos+(Utf8.decode s pos).2)))[b]? =w.heap[b]? :=Array.getElem?_setIfInBounds_ne hne
     simpa [World.cell?,this] using hc
    ·
     rw [←eO] at hm';rcases uC hm' with ⟨o',h1',h2',h3'⟩|h
     · cases h1';exact hm (.inr ⟨j,o,h1,h2',by rw [he];exact h3'⟩)
     · exact hm h
   have hlt:o.b<w.heap.size:=(Array.getElem?_eq_some_iff.1 h4).1
   have:=hs.update (w':= { w with heap:=w.heap.setIfInBounds o.b (.stringIter s (pos+(Utf8.decode s pos).2)) }) j (.iter s (pos+(Utf8.decode s pos).2)) (.live o)
    (hs.below.trans ⟨rfl,rfl,rfl,by simp,fun k hk=>Array.getElem?_setIfInBounds_ne om⟩) (by rw [eO];exact ht)
    (fun i o' hi hl'=>Array.getElem?_setIfInBounds_ne (fun e=>hi (hs.inj i j _ _ hl' h1 e.symm)))
    ⟨o,dL _ _ _,h2,h3,by simp [hlt]⟩
    (fun o' ho' i o'' hi hl'' hb=>by cases ho';exact hi (hs.inj i j _ _ hl'' h1 hb))
   rw [eO] at this;refine ⟨.tuple #[.bool true,goInt pos,.int .i32 (Utf8.decode s pos).1],_,O,.inl (lY ?_),this,ht,RV.ints2 _ _ _⟩
   have hset:(setObj o.b (.stringIter s (pos+(Utf8.decode s pos).2))).run P w= .ok () { w with heap:=w.heap.setIfInBounds o.b (.stringIter s (pos+(Utf8.decode s pos).2)) } :=by
    simp [setObj,Sem.run,h4]
   simp [Instr.next,h2,hobj,hpos,hset]
  ·
   intro hpos;refine ⟨.tuple #[.bool false],w,O,.inl (lY ?_),hs,fQ.refl _ _ _,?_⟩
   · simp [Instr.next,h2,hobj,hpos]
   ·
    refine .tup _ _ rfl (fun k x hk=>?_)
    match k,hk with
    |0,hk=>simp at hk;subst hk;exact .v _
theorem aOa(hs:Sim X w0 w H O){t elem:TypeId}{len s id:Nat}{zs xs:List AV}{parts:Array (Nat×Value)}{as:List (Nat×AV)}(hu:P.underlying t=some (.slice elem))
 (hsz:aO P elem=some s) (hz:zeroCells? P elem=some zs) (hf:H.isFresh id=true) (hmax:len*s≤16777216) (hzl:zs.length=s) (_hs0:s≠0)
 (hlen:parts.size=as.length) (hp: ∀(k i:Nat) (a:AV),as[k]? =some (i,a)→ ∃x,parts[k]? =some (i,x)∧RV w (Mut X H O) O x a)
 (hfill:nP (fun i=>some (i*s,s)) (zeros len zs) as=some xs):
 aD9 P X w0 w H O (do pure (.value (←Instr.buildSlice t len parts))) (.own id 0 len) (H.put id (.cells s xs 0)):=by
 obtain ⟨z,hz1,hz2,hz3⟩:=nO (w:=w) (M:=Mut X H O) (O:=O) hz;obtain ⟨hzz,hzg⟩:=aPc (n:=len) hz2 hz3 (m:=len*s) (by rw [hzl];exact Nat.le_refl _)
 have hc0:((Array.range (len*s)).map ((if len*s=0 then #[] else z.cells)[· %(if len*s=0 then #[] else z.cells).size]!))=(Array.range (len*s)).map (z.cells[· %z.cells.size]!):=by
  by_cases h0:len*s=0
  · rw [h0];simp
  · simp [h0]
 obtain ⟨c',h1,h2,h3⟩:=aB5 (place:=fun i=>some (i*s,s)) (ps:=parts.toList) (c:=(Array.range (len*s)).map (z.cells[· %z.cells.size]!)) (by simpa using hlen)
  (fun k i a hk=>by simpa using hp k i a hk) (by rw [hzz,hzl];simp) hzg hfill
 obtain ⟨O',h4,h5,h6⟩:=aN5 hs hf c' elem s xs (w.alloc (.cells c' elem)) rfl rfl rfl rfl om h3
 have hxl:xs.length=len*s:=by
  have: ∀ {as:List (Nat×AV)} {cells r:List AV},nP (fun i=>some (i*s,s)) cells as=some r→r.length=cells.length:=by
   intro as
   induction as with
   |nil=>intro cells r h;cases h;rfl
   |cons p as ih=>
    intro cells r h;obtain ⟨i,a⟩:=p;unfold nP at h;split at h
    ·
     split at h
     · cases h
     · rename_i hb;rw [ih h];have: ¬_:=fun h=>hb (.inr h);simp;omega
    · cases h
  rw [this hfill,hzz,hzl]
 refine ⟨.slice (some ⟨w.heap.size,0,none⟩) len len,_,O',.inl (lY ?_),h4,h5,?_⟩
 ·
  simp only [Instr.buildSlice,Sem.run_bind,run_underlying hu,Result.andThen_ok,run_sizeOf hsz];rw [if_neg (by show ¬len*s>2^24;omega)]
  by_cases h0:len*s=0
  · rw [if_pos h0];rw [if_pos h0] at hc0;simp only [Sem.run_bind,Sem.run_pure,Result.andThen_ok];rw [hc0,h1];simp [newRow]
  · rw [if_neg h0];simp only [Sem.run_bind,Sem.run_pure,Result.andThen_ok,kB hz1];rw [h1];simp [newRow]
 ·
  have:=RV.own (w:=w.alloc (.cells c' elem)) (M:=Mut X (H.put id (.cells s xs 0)) O') id 0 len len _ h6 (Nat.le_refl _) (by simp;omega)
  simpa using this
theorem aQu(hs:Sim X w0 w H O){t elem:TypeId}{x y:Value}{kl kc:IntKind}{l c:Int}{i:TypeInfo}{id:Nat}{zs:List AV}(hu:P.underlying t=some (.slice elem))
 (hx:RV w (Mut X H O) O x (.v (.int kl l))) (hy:RV w (Mut X H O) O y (.v (.int kc c))) (hi:P.info? elem=some i) (hz:zeroCells? P elem=some zs) (hf:H.isFresh id=true)
 (h0:0≤l) (hlc:l≤c) (hc:c≤281474976710656) (hb:i.bytes*c≤281474976710656) (hzl:zs.length=i.size) (_hs0:i.size≠0):
 aD9 P X w0 w H O (do pure (.value (←Instr.makeSlice t x y))) (.own id 0 l.toNat) (H.put id (.cells i.size (zeros l.toNat zs) 0)):=by
 have:=hx.v_inv;subst this;have:=hy.v_inv;subst this;obtain ⟨z,hz1,hz2,hz3⟩:=nO (w:=w) (M:=Mut X H O) (O:=O) hz;have hln:l.toNat≤c.toNat:=by omega
 obtain ⟨hzz,hzg⟩:=aPc (n:=l.toNat) hz2 hz3 (m:=c.toNat*i.size) (by rw [hzl];exact Nat.mul_le_mul_right _ hln);have wl:IntKind.i64.wrap l=l:=IntWalk.i64_in _ om;have wc:IntKind.i64.wrap c=c:=IntWalk.i64_in _ om;have hsz:aO P elem=some i.size:=by simp [aO,hi]
 have hc0:((Array.range (c.toNat*i.size)).map ((if c.toNat*i.size=0 then #[] else z.cells)[· %(if c.toNat*i.size=0 then #[] else z.cells).size]!))=(Array.range (c.toNat*i.size)).map (z.cells[· %z.cells.size]!):=by
  by_cases h0:c.toNat*i.size=0
  · rw [h0];simp
  · simp [h0]
 have hle:l.toNat*i.size≤c.toNat*i.size:=Nat.mul_le_mul_right _ hln
 obtain ⟨O',h4,h5,h6⟩:=aN5 hs hf ((Array.range (c.toNat*i.size)).map (z.cells[· %z.cells.size]!)) elem i.size (zeros l.toNat zs) (w.alloc (.cells ((Array.range (c.toNat*i.size)).map (z.cells[· %z.cells.size]!)) elem)) rfl rfl rfl rfl
  (by rw [hzz,hzl];simpa using hle) hzg
 refine ⟨.slice (some ⟨w.heap.size,0,none⟩) l.toNat c.toNat,_,O',.inl (lY ?_),h4,h5,?_⟩
 ·
  simp only [Instr.makeSlice,Sem.run_bind,run_underlying hu,Result.andThen_ok,asInt,asIntOf,Sem.run_pure,typeInfo,run_program,hi,wl,wc]
  have ht:((decide (c<0)||decide (↑i.bytes*c>2^48))||decide (l<0)||decide (l>c))=false:=by
   have h1: ¬c<0:=by omega
   have h3: ¬l<0:=by omega
   have h4: ¬l>c:=by omega
   simp [h1,h3,h4,hb]
  simp only [ht,Bool.false_eq_true,if_false,Sem.run_bind,run_askRoom,Result.andThen_ok,run_sizeOf hsz]
  by_cases h0:c.toNat*i.size=0
  · rw [if_pos h0];rw [if_pos h0] at hc0;simp only [Sem.run_bind,Sem.run_pure,Result.andThen_ok];rw [hc0];simp [newRow]
  · rw [if_neg h0];simp [kB hz1,newRow]
 ·
  have:=RV.own (w:=w.alloc (.cells ((Array.range (c.toNat*i.size)).map (z.cells[· %z.cells.size]!)) elem)) (M:=Mut X (H.put id (.cells i.size (zeros l.toNat zs) 0)) O') id 0 l.toNat c.toNat _ h6 hln (by simp)
  simpa using this
end
section
open Go.RowKit
variable {P:Program}{w:World}{O:Nat→OSt}{X:Nat→Nat→Prop}{w0:World}{H:aH}
theorem aNj(g o:Nat)(elem:TypeId)(fr:Nat×Nat): ∀(vs:List Value) (i:Nat) (c:Array Value) (w:World),w.heap[g]? =some (.cells c elem fr)→
 o+i+vs.length≤c.size→(∀k,k<c.size→ ¬(fr.1≤k∧k<fr.2))→(∀v∈vs,v.oneCell'=true)→
 ∃w',(storeCells ⟨g,o,none⟩ vs i).run P w= .ok () w'∧w'.heap.size=w.heap.size∧w'.os=w.os∧w'.tape=w.tape∧w'.output=w.output∧
  (∀k,k≠g→w'.heap[k]? =w.heap[k]?)∧ ∃c',w'.heap[g]? =some (.cells c' elem fr)∧c'.size=c.size∧
  ∀k,c'.getD k undef=if o+i≤k∧k<o+i+vs.length then vs.getD (k-(o+i)) undef else c.getD k undef
 |[],i,c,w,hg,_,_,_=>by
  refine ⟨w,rfl,rfl,rfl,rfl,rfl,fun _ _=>rfl,c,hg,rfl,fun k=>?_⟩;have: ¬(o+i≤k∧k<o+i+([]:List Value).length):=by simp
  rw [if_neg this]
 |v::vs,i,c,w,hg,hlen,hfr,hone=>by
  simp only [List.length_cons] at hlen
  have hcell: ∃u,w.cell? ⟨g,o+i,none⟩=some u:=by
   rw [cell_of_row w g (o+i) c elem fr hg];exact ⟨c[o+i]'(by omega),by simp [show o+i<c.size by omega]⟩
  have hfz:w.frozen? ⟨g,o+i,none⟩=false:=by
   simp only [World.frozen?,hg];have:=hfr (o+i) om
   simpa using this
  have hnew:(w.setCell ⟨g,o+i,none⟩ v).heap[g]? =some (.cells (c.setIfInBounds (o+i) v) elem fr):=by
   simp [World.setCell,Array.getElem?_modify,hg]
  obtain ⟨w',h1,h2,h3,h4,h5,h6,c',h7,h8,h9⟩:=aNj g o elem fr vs (i+1) _ _ hnew (by simp;omega) (by simpa using hfr) (fun u hu=>hone u (by simp [hu]));refine ⟨w',?_,by rw [h2];simp,h3,h4,h5,fun k hk=>by rw [h6 k hk];exact heap_setCell_other w _ _ _ hk,c',h7,by rw [h8];simp,fun k=>?_⟩
  · simp only [storeCells,Addr.add_lit,Sem.run_bind];rw [aNk (P:=P) v ⟨g,o+i,none⟩ (hone v (by simp)) hcell hfz];exact h1
  ·
   rw [h9 k]
   by_cases hk:o+(i+1)≤k∧k<o+(i+1)+vs.length
   ·
    rw [if_pos hk,if_pos (by simp;omega)];have:k-(o+i)=(k-(o+(i+1)))+1:=by omega
    rw [this];simp
   ·
    rw [if_neg hk]
    by_cases h2:k=o+i
    ·
     subst h2;rw [if_pos (by simp)];have:o+i<c.size:=by omega
     simp [this]
    · rw [if_neg (by simp;omega)];simp [Array.getElem?_setIfInBounds_ne (show o+i≠k by omega)]
theorem run_append_fits{ts tx ty elem:TypeId}{d:TypeDesc}{i:TypeInfo}{base:Option Addr}{len cap n:Nat}{x:Value}{news:List Value}{w w':World}
 (hu:P.underlying ts=some (.slice elem)) (hux:P.underlying tx=some d) (hd:TypeDesc.isInt d=false) (hi:P.info? elem=some i)
 (hn:(Builtin.lenOf x).run P w= .ok n w) (hx:(Builtin.firstCells i.size n x).run P w= .ok news.toArray w) (hfit:len+n≤cap)
 (hst:(match base with|some a=>storeCells (a.add (len*i.size)) news|none=>pure ()).run P w= .ok () w'):
 (Builtin.append_ #[ts,tx] ty #[.slice base len cap,x]).run P w= .ok (.slice base (len+n) cap) w':=by
 have hsz:aO P elem=some i.size:=by simp [aO,hi]
 simp only [Builtin.append_];simp only [List.getElem?_toArray,List.getElem?_cons_zero,List.getElem?_cons_succ,Sem.run_bind,run_underlying hu,Result.andThen_ok,run_sizeOf hsz,run_underlying hux];cases d<;>simp [TypeDesc.isInt] at hd<;>simp [hn,hfit,hx]<;>(cases base<;>simp at hst<;>simp [hst])
theorem aAt{ts tx ty elem:TypeId}{d:TypeDesc}{i:TypeInfo}{z:Value}{base:Option Addr}{len cap n:Nat}{x:Value}{olds news:List Value}{w:World}
 (hu:P.underlying ts=some (.slice elem)) (hux:P.underlying tx=some d) (hd:TypeDesc.isInt d=false) (hi:P.info? elem=some i) (hz:i.zero=some z)
 (hn:(Builtin.lenOf x).run P w= .ok n w) (hx:(Builtin.firstCells i.size n x).run P w.drew= .ok news.toArray w.drew)
 (ho:(Builtin.firstCells i.size len (.slice base len cap)).run P w.drew= .ok olds.toArray w.drew) (hgrow: ¬len+n≤cap) (hmax:len+n≤9223372036854775807)
 (hby:Builtin.nextslicecap (len+n) cap*i.bytes≤281474976710656):
 (Builtin.append_ #[ts,tx] ty #[.slice base len cap,x]).run P w= .ok (.slice (some ⟨w.heap.size,0,none⟩) (len+n) (grownCap w (len+n) cap elem))
  (w.drew.alloc (.cells ((olds++news).toArray++Builtin.zeroCells z.cells (grownCap w (len+n) cap elem-(len+n))) elem)):=by
 have hsz:aO P elem=some i.size:=by simp [aO,hi]
 have hzr: ∀w,(zeroValue elem).run P w= .ok z w:=fun w=>kB (by simp [hi,hz]) w;have hti: ∀w,(typeInfo elem).run P w= .ok i w:=fun w=>by simp [typeInfo,hi]
 simp only [Builtin.append_];simp only [List.getElem?_toArray,List.getElem?_cons_zero,List.getElem?_cons_succ,Sem.run_bind,run_underlying hu,Result.andThen_ok,run_sizeOf hsz,run_underlying hux];have h1: ¬((len:Int)+n>9223372036854775807):=by omega
 have h2: ¬(Builtin.nextslicecap (len+n) cap*i.bytes>281474976710656):=by omega
 have e63:IntKind.i64.max=9223372036854775807:=rfl;cases d<;>simp [TypeDesc.isInt] at hd<;>simp [hn,hgrow,hti,e63,h1,h2,ho,hx,hzr,newRow,Question.forced,grownCap,-Array.append_assoc]
theorem aQv{ts tx ty elem:TypeId}{d:TypeDesc}{i:TypeInfo}{z:Value}{n:Nat}{k:IntKind}{w:World}
 (hu:P.underlying ts=some (.slice elem)) (hux:P.underlying tx=some d) (hd:TypeDesc.isInt d=true) (hi:P.info? elem=some i) (hz:i.zero=some z)
 (h0:0<n) (hm:n≤140737488355328) (hsz0:i.size≠0) (hb:n*i.bytes≤140737488355328) (hby:Builtin.nextslicecap (0+n) 0*i.bytes≤281474976710656):
 (Builtin.append_ #[ts,tx] ty #[.slice none 0 0,.int k n]).run P w= .ok (.slice (some ⟨w.heap.size,0,none⟩) n (grownCap w n 0 elem))
  (w.drew.alloc (.cells (Builtin.zeroCells z.cells n++Builtin.zeroCells z.cells (grownCap w n 0 elem-n)) elem)):=by
 have hsz:aO P elem=some i.size:=by simp [aO,hi]
 have hzr: ∀w,(zeroValue elem).run P w= .ok z w:=fun w=>kB (by simp [hi,hz]) w;have hti: ∀w,(typeInfo elem).run P w= .ok i w:=fun w=>by simp [typeInfo,hi]
 simp only [Builtin.append_];simp only [List.getElem?_toArray,List.getElem?_cons_zero,List.getElem?_cons_succ,Sem.run_bind,run_underlying hu,Result.andThen_ok,run_sizeOf hsz,run_underlying hux];have e63:IntKind.i64.max=9223372036854775807:=rfl;have hw:IntKind.i64.wrap (n:Int)=n:=by rw [IntKind.wrap_i64];omega
 have h1: ¬((n:Int)<0):=by omega
 have h2: ¬((n:Int)*(i.bytes:Int)>281474976710656):=by
  have:((n*i.bytes:Nat):Int)≤140737488355328:=by omega
  rw [Int.natCast_mul] at this;omega
 have h3: ¬n≤0:=by omega
 have h4: ¬(n*i.size=0):=by
  rw [Nat.mul_eq_zero];omega
 have h5: ¬((n:Int)>9223372036854775807):=by omega
 have h6: ¬(Builtin.nextslicecap n 0*i.bytes>281474976710656):=by rw [Nat.zero_add] at hby;omega
 have h4a: ¬(n=0∨i.size=0):=by omega
 cases d<;>simp [TypeDesc.isInt] at hd<;>simp [asInt,asIntOf,hw,h1,h2,h3,h4,h4a,h5,h6,hti,e63,hzr,newRow,Question.forced,grownCap,Builtin.firstCells,-Array.append_assoc,show ¬n=0 by omega,hsz0]
end
section
open Go.RowKit
variable {P:Program}{w:World}{O:Nat→OSt}{X:Nat→Nat→Prop}{w0:World}{H:aH}
theorem aK4{M:Nat→Nat→Prop}{b off n sz c:Nat}{ys:List AV}{cs:Nat→Value}(hl:ys.length=n*sz)
 (hc: ∀k,k<ys.length→w.cell? ⟨b,off+k,none⟩=some (cs k)) (hx: ∀k a,ys[k]? =some a→RV w M O (cs k) a):
 ∃news:List Value,(∀w',w'.heap=w.heap→(Builtin.firstCells sz n (.slice (some ⟨b,off,none⟩) n c)).run P w'= .ok news.toArray w')∧news.length=ys.length∧
  ∀k a,ys[k]? =some a→RV w M O (news.getD k undef) a:=by
 refine ⟨(List.range (n*sz)).map cs,fun w' hw=>?_,by simp [hl],fun k a hk=>?_⟩
 ·
  have:=run_loadCells (P:=P) w' ⟨b,off,none⟩ (n*sz) cs (fun j hj=>by
   rw [Addr.add_lit,World.cell?_of_block (w:=w) (w':=w') (by rw [hw])];exact hc j om)
  simp [Builtin.firstCells,this]
 ·
  have hlt:k<n*sz:=by
   rw [←hl];rcases Nat.lt_or_ge k ys.length with h|h
   · exact h
   · rw [List.getElem?_eq_none h] at hk;cases hk
  have:=hx k a hk
  simpa [List.getD,hlt] using this
theorem bCh(hs:Sim X w0 w H O){sz n:Nat}{x:Value}{a:AV}{ys:List AV}(hx:RV w (Mut X H O) O x a)(h:aFa H sz a=some (ys,n)):
 ys.length=n*sz∧ ∃news:List Value,(∀w',w'.heap=w.heap→(Builtin.lenOf x).run P w'= .ok n w'∧(Builtin.firstCells sz n x).run P w'= .ok news.toArray w')∧news.length=ys.length∧
  ∀k b,ys[k]? =some b→RV w (Mut X H O) O (news.getD k undef) b:=by
 unfold aFa at h;split at h
 · rename_i ao c;cases h;have:=hx.v_inv;subst this;exact ⟨by simp,[],fun w' _=>⟨rfl,by cases ao<;>simp [Builtin.firstCells,loadCells,loadCellsFrom]⟩,rfl,fun k b hk=>by simp at hk⟩
 ·
  rename_i ys' n' f;split at h
  ·
   rename_i hl;cases h;refine ⟨hl,?_⟩
   cases hx with
   |slnil ao _=>
    exact ⟨[],fun w' _=>⟨rfl,by cases ao<;>simp [Builtin.firstCells,loadCells,loadCellsFrom]⟩,rfl,fun k b hk=>by simp at hk⟩
   |sl b off cap _ _ _ cs hc hx _ _=>
    obtain ⟨news,h1,h2,h3⟩:=aK4 (P:=P) (c:=cap) hl (fun k hk=>(hc k hk).1) hx;exact ⟨news,fun w' hw=>⟨rfl,by have:=h1 w' hw;simpa [Builtin.firstCells] using this⟩,h2,h3⟩
  · cases h
 ·
  rename_i id off n';split at h
  ·
   rename_i sz' xs lock he;split at h
   ·
    rename_i hb;obtain ⟨rfl,hb⟩:=hb;cases h;have hl:((xs.drop off).take (n*sz')).length=n*sz':=by simp;omega
    refine ⟨hl,?_⟩
    have zero: ∀ao:Option Addr,n=0→ ∃news:List Value,(∀w',w'.heap=w.heap→(Builtin.lenOf (.slice ao n 0)).run P w'= .ok n w'∧(Builtin.firstCells sz' n (.slice ao n 0)).run P w'= .ok news.toArray w')∧
     news.length=((xs.drop off).take (n*sz')).length∧ ∀k b,((xs.drop off).take (n*sz'))[k]? =some b→RV w (Mut X H O) O (news.getD k undef) b:=by
     intro ao h0;subst h0;refine ⟨[],fun w' _=>⟨rfl,?_⟩,by simp,fun k b hk=>by simp at hk⟩;cases ao<;>simp [Builtin.firstCells,loadCells,loadCellsFrom]
    cases hx with
    |owndead _ _ _ _ hd _=>exact absurd hd (hs.notDead he)
    |ownvirt ao _ _ hv=>exact zero ao rfl
    |ownz ao _ _ o ho=>exact zero ao rfl
    |own _ _ _ cap o ho hlc hfit=>
     obtain ⟨cs,h1,h2,_,_⟩:=hs.cellsOf he ho
     obtain ⟨news,h3,h4,h5⟩:=aK4 (P:=P) (w:=w) (M:=Mut X H O) (O:=O) (b:=o.b) (off:=o.base+off) (c:=cap) (cs:=fun k=>cs (off+k)) hl
      (fun k hk=>by rw [Nat.add_assoc];exact h1 _ (by simp at hk;omega))
      (fun k a hk=>h2 _ _ (by
       rw [List.getElem?_take] at hk;split at hk
       · rw [List.getElem?_drop] at hk;exact hk
       · cases hk))
     exact ⟨news,fun w' hw=>⟨rfl,by have:=h3 w' hw;simpa [Builtin.firstCells] using this⟩,h4,h5⟩
   · cases h
  · cases h
 ·
  rename_i s;split at h
  ·
   rename_i h1;subst h1;cases h;have:=hx.v_inv;subst this;refine ⟨by rw [List.length_map,Array.length_toList,Nat.mul_one];rfl,s.data.toList.map (fun b=> .int .u8 b.toNat),fun w' _=>⟨rfl,?_⟩,by simp,fun k b hk=>?_⟩
   · have:s.extract 0 s.size=s:=ByteArray.extract_zero_size;simp only [Builtin.firstCells,this,Sem.run_pure];congr 1;rw [←List.map_toArray]
   ·
    simp only [List.getElem?_map,Option.map_eq_some_iff] at hk;obtain ⟨y,hy,rfl⟩:=hk;have:((s.data.toList.map (fun b=>Value.int .u8 b.toNat)).getD k undef)= .int .u8 y.toNat:=by simp [List.getD,hy]
    rw [this];exact .v _
  · cases h
 · cases h
theorem Sim.rename(hs:Sim X w0 w H O){j id sz lock off:Nat}{xs:List AV}{o:Own}(he:H.ent j= .cells sz xs lock)(ho:O j= .live o)(hf:H.ent id= .fresh)(hoff:off≤xs.length):
 ∃O',Sim X w0 w ((H.put j .dead).put id (.cells sz (xs.drop off) (lock-off))) O'∧
  fQ w (Mut X H O) O w (Mut X ((H.put j .dead).put id (.cells sz (xs.drop off) (lock-off))) O') O'∧O' id= .live ⟨o.b,o.base+off,o.size,o.sz⟩:=by
 have hO:=hs.fresh hf;have hne:id≠j:=fun e=>by rw [e,he] at hf;cases hf
 have h0:=hs.ent j;rw [he] at h0;rcases h0 with ⟨h1,_⟩|⟨o',h1,h2,h3,h4,h5,c,elem,fr,h6,h7,h8,h9⟩
 · rw [ho] at h1;cases h1
 rw [ho] at h1;cases h1
 have hmut: ∀b i,Mut X ((H.put j .dead).put id (.cells sz (xs.drop off) (lock-off))) (oP (oP O j .dead) id (.live ⟨o.b,o.base+off,o.size,o.sz⟩)) b i→Mut X H O b i:=by
  intro b i hm;rcases uC hm with ⟨o',e1,e2,e3⟩|hm
  · cases e1;simp only [Ent.lock] at e3;exact .inr ⟨j,o,ho,e2,by rw [he];simp only [Ent.lock];omega⟩
  ·
   rcases uC hm with ⟨o',e1,_⟩|hm
   · cases e1
   · exact hm
 have ht:fQ w (Mut X H O) O w (Mut X ((H.put j .dead).put id (.cells sz (xs.drop off) (lock-off))) (oP (oP O j .dead) id (.live ⟨o.b,o.base+off,o.size,o.sz⟩)))
  (oP (oP O j .dead) id (.live ⟨o.b,o.base+off,o.size,o.sz⟩)):=by
  refine ⟨fun b i v hc hm=>⟨hc,fun hm'=>hm (hmut b i hm')⟩,fun k hd=>?_,fun k hv=>?_,fun k o' hl=>?_⟩
  ·
   have h1:k≠id:=fun e=>by rw [e,hO] at hd;cases hd
   rw [fF _ _ _ _ h1]
   by_cases hk:k=j
   · subst hk;exact dL _ _ _
   · rw [fF _ _ _ _ hk];exact hd
  ·
   have h1:k≠id:=fun e=>by rw [e,hO] at hv;cases hv
   rw [fF _ _ _ _ h1]
   by_cases hk:k=j
   · subst hk;exact .inr (dL _ _ _)
   · rw [fF _ _ _ _ hk];exact .inl hv
  ·
   have h1:k≠id:=fun e=>by rw [e,hO] at hl;cases hl
   rw [fF _ _ _ _ h1]
   by_cases hk:k=j
   · subst hk;exact .inr (dL _ _ _)
   · rw [fF _ _ _ _ hk];exact .inl hl
 refine ⟨_,⟨hs.below,hs.xlt,fun k=>?_,fun a b oa ob ha hb hbb=>?_⟩,ht,dL _ _ _⟩
 ·
  by_cases hk:k=id
  · subst hk;simp only [aH.put,upd_same];refine .inr ⟨_,dL _ _ _,h2,by simp;omega,h4,by simp;omega,c,elem,fr,h6,h7,h8,fun q a hq=>?_⟩;rw [List.getElem?_drop] at hq;have:=(h9 _ _ hq).mono ht;rw [←Nat.add_assoc] at this;exact this
  ·
   by_cases hkj:k=j
   · subst hkj;simp only [aH.put,upd_ne _ _ _ _ hk,upd_same];show _=_;rw [fF _ _ _ _ hk,dL]
   · simp only [aH.put,upd_ne _ _ _ _ hk,upd_ne _ _ _ _ hkj];exact (hs.ent k).mono ht (by rw [fF _ _ _ _ hk,fF _ _ _ _ hkj]) (fun _ _=>rfl)
 ·
  have back: ∀k o',oP (oP O j .dead) id (.live ⟨o.b,o.base+off,o.size,o.sz⟩) k= .live o'→(k=id∧o'.b=o.b)∨(k≠id∧k≠j∧O k= .live o'):=by
   intro k o' h
   by_cases hk:k=id
   · subst hk;rw [dL] at h;cases h;exact .inl ⟨rfl,rfl⟩
   ·
    rw [fF _ _ _ _ hk] at h
    by_cases hkj:k=j
    · subst hkj;rw [dL] at h;cases h
    · rw [fF _ _ _ _ hkj] at h;exact .inr ⟨hk,hkj,h⟩
  rcases back a oa ha with ⟨e1,e2⟩|⟨e1,e2,e3⟩<;>rcases back b ob hb with ⟨f1,f2⟩|⟨f1,f2,f3⟩
  · rw [e1,f1]
  · exact absurd (hs.inj b j _ _ f3 ho (by rw [←hbb,e2])) f2
  · exact absurd (hs.inj a j _ _ e3 ho (by rw [hbb,f2])) e2
  · exact hs.inj a b _ _ e3 f3 hbb
theorem Sim.extend(hs:Sim X w0 w H O){id sz lock:Nat}{xs ys:List AV}{o:Own}(he:H.ent id= .cells sz xs lock)(ho:O id= .live o)(vs:List Value)(hvl:vs.length=ys.length)
 (hfit:o.base+xs.length+ys.length≤o.size) (hone:ys.all AV.one=true) (hx: ∀k a,ys[k]? =some a→RV w (Mut X H O) O (vs.getD k undef) a):
 ∃w',(storeCells ⟨o.b,o.base+xs.length,none⟩ vs).run P w= .ok () w'∧Sim X w0 w' (H.put id (.cells sz (xs++ys) lock)) O∧
  fQ w (Mut X H O) O w' (Mut X (H.put id (.cells sz (xs++ys) lock)) O) O:=by
 have h0:=hs.ent id;rw [he] at h0;rcases h0 with ⟨h1,_⟩|⟨o',h1,h2,h3,h4,h5,c,elem,fr,h6,h7,h8,h9⟩
 · rw [ho] at h1;cases h1
 rw [ho] at h1;cases h1
 have hone': ∀v∈vs,v.oneCell'=true:=by
  intro v hv;obtain ⟨k,hk,rfl⟩:=List.getElem_of_mem hv;have hky:k<ys.length:=by omega
  have:=hx k ys[k] (by simp [hky]);have h1:=this.one (List.all_eq_true.1 hone _ (List.getElem_mem hky))
  simpa [List.getD,hk] using h1
 obtain ⟨w',e1,e2,e3,e4,e5,e6,c',e7,e8,e9⟩:=aNj (P:=P) o.b (o.base+xs.length) elem fr vs 0 c w h6 om h8 hone';have eO:oP O id (.live o)=O:=by funext i;by_cases hi:i=id<;>simp [oP,hi,ho]
 have ht:fQ w (Mut X H O) O w' (Mut X (H.put id (.cells sz (xs++ys) lock)) O) O:=by
  refine ⟨fun b i v hc hm=>⟨?_,fun hm'=>?_⟩,fun _ h=>h,fun _ h=> .inl h,fun _ _ h=> .inl h⟩
  ·
   by_cases hb:b=o.b
   ·
    subst hb
    have hi:i<o.base+lock:=by
     rcases Nat.lt_or_ge i (o.base+lock) with h|h
     · exact h
     · exact absurd (.inr ⟨id,o,ho,rfl,by rw [he];exact h⟩) hm
    rw [cell_of_row w o.b i c elem fr h6] at hc;rw [cell_of_row w' o.b i c' elem fr e7]
    have hlt:i<c.size:=by
     rcases Nat.lt_or_ge i c.size with h|h
     · exact h
     · simp [h] at hc
    have:=e9 i;rw [if_neg om] at this;simp [hlt,e8] at this hc⊢;rw [this,hc]
   · rw [World.cell?_of_block (w:=w) (w':=w') (e6 b hb)];exact hc
  ·
   rw [←eO] at hm';rcases uC hm' with ⟨o',h1',h2',h3'⟩|h
   · cases h1';exact hm (.inr ⟨id,o,ho,h2',by rw [he];exact h3'⟩)
   · exact hm h
 refine ⟨w',e1,?_,ht⟩;have hbel:Below w0.heap.size w0 w':=hs.below.trans ⟨e3,e4,e5,by omega,fun k hk=>e6 k om⟩
 have:=hs.update (w':=w') id (.cells sz (xs++ys) lock) (.live o) hbel (by rw [eO];exact ht)
  (fun i o' hi hl'=>e6 _ (fun e=>hi (hs.inj i id _ _ hl' ho e)))
  (.inr ⟨o,dL _ _ _,h2,by simp;omega,h4,by simp;omega,c',elem,fr,e7,by omega,by rw [e8];exact h8,fun k a hk=>by
   rw [eO,e9 (o.base+k)];rcases Nat.lt_or_ge k xs.length with hkl|hkl
   · rw [if_neg om];rw [List.getElem?_append_left hkl] at hk;exact (h9 k a hk).mono ht
   ·
    rw [List.getElem?_append_right hkl] at hk
    have hky:k-xs.length<ys.length:=by
     rcases Nat.lt_or_ge (k-xs.length) ys.length with h|h
     · exact h
     · rw [List.getElem?_eq_none h] at hk;cases hk
    rw [if_pos om];have e:o.base+k-(o.base+xs.length+0)=k-xs.length:=by omega
    rw [e];exact (hx _ _ hk).mono ht⟩)
  (fun o' ho' i o'' hi hl'' hb=>by cases ho';exact hi (hs.inj i id _ _ hl'' ho hb))
 rw [eO] at this;exact this
end
section
open Go.RowKit
variable {P:Program}{w:World}{O:Nat→OSt}{X:Nat→Nat→Prop}{w0:World}{H:aH}
theorem aJy(z:Array Value)(n:Nat):(Builtin.zeroCells z n).size=n*z.size:=by simp [Builtin.zeroCells]
theorem aX7(olds news:List Value)(r:Array Value)(k:Nat)(hk:k<olds.length+news.length):
 ((olds++news).toArray++r).getD k undef=(olds++news).getD k undef:=by
 have h1:k<(olds++news).length:=by simp;exact hk
 have h2:k<((olds++news).toArray++r).size:=by simp;omega
 simp only [Array.getD,h2,dif_pos,List.getD,List.getElem?_eq_getElem h1,Option.getD_some];rw [Array.getInternal_eq_getElem,Array.getElem_append_left (by simpa using h1)];simp
theorem aGp{elem:TypeId}{i:TypeInfo}{z:Value}{id len n cap:Nat}{old new:List AV}{olds news:List Value}{lock:Nat}(hs:Sim X w0 w H O)
 (hf:H.isFresh id=true) (hzs:z.cells.size=i.size) (hol:old.length=len*i.size) (hnl:new.length=n*i.size)
 (hol':olds.length=old.length) (hnl':news.length=new.length) (hor: ∀k a,old[k]? =some a→RV w (Mut X H O) O (olds.getD k undef) a)
 (hnr: ∀k a,new[k]? =some a→RV w (Mut X H O) O (news.getD k undef) a) (hlock:lock≤old.length) (hcap:len+n≤cap):
 ∃O',Sim X w0 (w.drew.alloc (.cells ((olds++news).toArray++Builtin.zeroCells z.cells (cap-(len+n))) elem)) (H.put id (.cells i.size (old++new) lock)) O'∧
  fQ w (Mut X H O) O (w.drew.alloc (.cells ((olds++news).toArray++Builtin.zeroCells z.cells (cap-(len+n))) elem)) (Mut X (H.put id (.cells i.size (old++new) lock)) O') O'∧
  RV (w.drew.alloc (.cells ((olds++news).toArray++Builtin.zeroCells z.cells (cap-(len+n))) elem)) (Mut X (H.put id (.cells i.size (old++new) lock)) O') O'
   (.slice (some ⟨w.heap.size,0,none⟩) (len+n) cap) (.own id 0 (len+n)):=by
 have hsize:((olds++news).toArray++Builtin.zeroCells z.cells (cap-(len+n))).size=cap*i.size:=by
  rw [Array.size_append,aJy,hzs];simp only [List.size_toArray,List.length_append,hol',hnl',hol,hnl];rw [←Nat.add_mul,←Nat.add_mul];congr 1;omega
 obtain ⟨O',h1,h2,h3⟩:=aN5 hs hf ((olds++news).toArray++Builtin.zeroCells z.cells (cap-(len+n))) elem i.size (old++new)
  (w.drew.alloc (.cells ((olds++news).toArray++Builtin.zeroCells z.cells (cap-(len+n))) elem)) rfl rfl rfl rfl
  (by rw [hsize,List.length_append,hol,hnl,←Nat.add_mul];exact Nat.mul_le_mul_right _ hcap)
  (fun k a hk=>by
   have hlt:k<(old++new).length:=by
    rcases Nat.lt_or_ge k (old++new).length with h|h
    · exact h
    · rw [List.getElem?_eq_none h] at hk;cases hk
   rw [List.length_append] at hlt;rw [aX7 _ _ _ _ om];rcases Nat.lt_or_ge k old.length with h|h
   ·
    rw [List.getElem?_append_left h] at hk;have:=hor k a hk;have e:(olds++news).getD k undef=olds.getD k undef:=by simp [List.getD,List.getElem?_append_left (show k<olds.length by omega)]
    rw [e];exact this
   ·
    rw [List.getElem?_append_right h] at hk;have:=hnr _ a hk;have e:(olds++news).getD k undef=news.getD (k-old.length) undef:=by rw [←hol'];simp [List.getD,List.getElem?_append_right (show olds.length≤k by omega)]
    rw [e];exact this)
 obtain ⟨h4,h5⟩:=h1.lockUp id i.size (old++new) 0 lock (upd_same _ _ _) (Nat.zero_le _) (by simp;omega)
 have e:(H.put id (.cells i.size (old++new) 0)).put id (.cells i.size (old++new) lock)=H.put id (.cells i.size (old++new) lock):=by
  unfold aH.put;congr 1;funext j;by_cases hj:j=id<;>simp [upd,hj]
 rw [e] at h4 h5;refine ⟨O',h4,h2.trans h5,?_⟩
 have:=RV.own (w:=w.drew.alloc (.cells ((olds++news).toArray++Builtin.zeroCells z.cells (cap-(len+n))) elem)) (M:=Mut X (H.put id (.cells i.size (old++new) lock)) O')
  id 0 (len+n) cap _ h3 hcap (by rw [hsize];simp)
 simpa using this
theorem aTw(hs:Sim X w0 w H O){id:Nat}{ts tx ty:TypeId}{s x:Value}{as ax r:AV}{H':aH}(hsr:RV w (Mut X H O) O s as)(hxr:RV w (Mut X H O) O x ax)
 (h:aK0 P H id ts tx as ax=some (r,H')):aD9 P X w0 w H O (do pure (.value (←Builtin.append_ #[ts,tx] ty #[s,x]))) r H':=by
 unfold aK0 at h;split at h
 ·
  rename_i elem d hu hux;split at h
  ·
   rename_i hd;split at h
   ·
    rename_i i k m hi;split at h
    ·
     rename_i hc;obtain ⟨hf,h0,hm,hb0,hby,hzs,hsz0⟩:=hc;cases h;have e1:=hsr.v_inv;have e2:=hxr.v_inv;subst e1 e2;obtain ⟨n,rfl⟩:=Int.eq_ofNat_of_zero_le (Int.le_of_lt h0);simp only [Int.toNat_natCast] at hby⊢
     cases hz:i.zero with
     |none=>rw [hz] at hzs;cases hzs
     |some z=>
      have hzs':z.cells.size=i.size:=by rw [hz] at hzs;simpa using hzs
      have hgr:=aQv (P:=P) (w:=w) (ty:=ty) (k:=k) hu hux hd hi hz (n:=n) om om hsz0 hby (growslice_fits om (by simpa using hby))
      obtain ⟨O',h1,h2,h3⟩:=aGp (elem:=elem) (z:=z) (id:=id) (n:=n) (len:=0) (old:=[]) (olds:=[]) (new:=List.replicate (n*i.size) .any) (news:=(Builtin.zeroCells z.cells n).toList) (lock:=0) hs hf hzs' (by simp) (by simp) rfl (by rw [Array.length_toList,aJy,hzs',List.length_replicate]) (fun k a hk=>by simp at hk) (fun k a hk=>by
       have:a= .any:=(List.eq_of_mem_replicate (List.mem_of_getElem? hk));subst this;exact .any _) (Nat.zero_le _) (grownCap_ge w (0+n) 0 elem)
      simp only [List.nil_append,Nat.zero_add] at h1 h2 h3;refine ⟨_,_,O',.inl (lY hgr),?_,?_,?_⟩
      · simpa using h1
      · simpa using h2
      · simpa using h3
    · cases h
   · cases h
  rename_i hd;split at h
  ·
   rename_i i hi;split at h
   ·
    rename_i old len lock oid new n hb hsrc;split at h
    ·
     rename_i hc;obtain ⟨hf,hsz0,hb0,hz,hzs,hby,hone,hn0⟩:=hc;cases h;have hd':TypeDesc.isInt d=false:=by simpa using hd
     obtain ⟨z,hz⟩:=Option.isSome_iff_exists.1 hz;have hzs':z.cells.size=i.size:=by rw [hz] at hzs;simpa using hzs
     obtain ⟨hnl,news,hrun,hnl',hnr⟩:=bCh (P:=P) hs hxr hsrc;have hfr:=aH.isFresh_eq hf;have hdraw:w.drew.heap=w.heap:=rfl
     have h63:len+n≤9223372036854775807:=by
      have:=Nat.le_mul_of_pos_right (len+n) (Nat.pos_of_ne_zero hb0);omega
     unfold aZ6 at hb;split at hb
     ·
      
      cases hb;have:=hsr.v_inv;subst this;rcases Nat.eq_zero_or_pos n with h0|h0
      · subst h0;simp only [Nat.zero_mul] at hnl;have hnew:new=[]:=List.eq_nil_of_length_eq_zero hnl;subst hnew;have hnews:news=[]:=List.eq_nil_of_length_eq_zero hnl';subst hnews;obtain ⟨O',h1,h2,h3⟩:=hs.virt id i.size hfr;refine ⟨.slice none 0 0,w,O',.inl (lY ?_),h1,h2,.ownvirt none id 0 h3⟩;exact run_append_fits hu hux hd' hi (hrun w rfl).1 (hrun w rfl).2 (Nat.le_refl _) rfl
      · have h63':0+n≤9223372036854775807:=h63;have hgr:=aAt (P:=P) (ty:=ty) (olds:=[]) (base:=none) (len:=0) (cap:=0) hu hux hd' hi hz (hrun w rfl).1 (hrun w.drew hdraw).2 rfl om h63' (growslice_fits om hby);obtain ⟨O',h1,h2,h3⟩:=aGp (elem:=elem) (z:=z) (id:=id) (len:=0) (old:=[]) (olds:=[]) (lock:=0) hs hf hzs' (by simp) hnl rfl hnl' (fun k a hk=>by simp at hk) hnr (Nat.zero_le _) (grownCap_ge w (0+n) 0 elem);exact ⟨_,_,O',.inl (lY hgr),h1,h2,h3⟩
     ·
      rename_i xs len';split at hb
      ·
       rename_i hl;cases hb
       have hbase: ∃(base:Option Addr) (olds:List Value),s= .slice base len len∧(∀w',w'.heap=w.heap→(Builtin.firstCells i.size len (.slice base len len)).run P w'= .ok olds.toArray w')∧
        olds.length=old.length∧(∀k a,old[k]? =some a→RV w (Mut X H O) O (olds.getD k undef) a):=by
        cases hsr with
        |slnil ao _=>exact ⟨ao,[],rfl,fun _ _=>by cases ao<;>simp [Builtin.firstCells,loadCells,loadCellsFrom],rfl,fun k a hk=>by simp at hk⟩
        |sl b off cap _ _ _ cs hc hx hlc hfl=>
         have:=hfl rfl;subst this;obtain ⟨olds,h1,h2,h3⟩:=aK4 (P:=P) (c:=cap) hl (fun k hk=>(hc k hk).1) hx;exact ⟨_,olds,rfl,h1,h2,h3⟩
       obtain ⟨base,olds,rfl,ho1,ho2,ho3⟩:=hbase;rcases Nat.eq_zero_or_pos n with h0|h0
       ·
        subst h0
        have hl0:len=0:=by
         rcases Nat.eq_zero_or_pos len with h|h
         · exact h
         · exact absurd rfl (hn0 rfl om)
        subst hl0;simp only [Nat.zero_mul] at hnl hl;have hnew:new=[]:=List.eq_nil_of_length_eq_zero hnl;have hold:old=[]:=List.eq_nil_of_length_eq_zero hl;subst hnew hold;have hnews:news=[]:=List.eq_nil_of_length_eq_zero hnl';subst hnews;obtain ⟨O',h1,h2,h3⟩:=hs.virt id i.size hfr;refine ⟨.slice base 0 0,w,O',.inl (lY ?_),h1,h2,.ownvirt base id 0 h3⟩;refine run_append_fits hu hux hd' hi (hrun w rfl).1 (hrun w rfl).2 (Nat.le_refl _) ?_;cases base<;>rfl
       · have h63':len+n≤9223372036854775807:=h63;have hgr:=aAt (P:=P) (ty:=ty) (base:=base) (len:=len) (cap:=len) hu hux hd' hi hz (hrun w rfl).1 (hrun w.drew hdraw).2 (ho1 w.drew hdraw) om h63' (growslice_fits om hby);obtain ⟨O',h1,h2,h3⟩:=aGp (elem:=elem) (z:=z) (id:=id) (lock:=0) hs hf hzs' hl hnl ho2 hnl' ho3 hnr (Nat.zero_le _) (grownCap_ge w (len+n) len elem);exact ⟨_,_,O',.inl (lY hgr),h1,h2,h3⟩
      · cases hb
     ·
      rename_i j off len';split at hb
      ·
       rename_i sz' xs lock' he;split at hb
       ·
        rename_i hcc;obtain ⟨rfl,hlen⟩:=hcc;cases hb;have hne:id≠j:=fun e=>by rw [e,he] at hfr;cases hfr
        have hfk:(H.put j .dead).isFresh id=true:=by
         unfold aH.isFresh aH.put;simp only [upd_ne _ _ _ _ hne,hfr]
        have hold:(xs.drop off).length=len*i.size:=by simp;omega
        have anew: ∀(base:Option Addr) (cap:Nat) (olds:List Value),s= .slice base len cap→(∀w',w'.heap=w.heap→(Builtin.firstCells i.size len (.slice base len cap)).run P w'= .ok olds.toArray w')→
         olds.length=(xs.drop off).length→(∀k a,(xs.drop off)[k]? =some a→RV w (Mut X H O) O (olds.getD k undef) a)→cap<len+n→lock'≤xs.length→
         aD9 P X w0 w H O (do pure (.value (←Builtin.append_ #[ts,tx] ty #[s,x]))) (.own id 0 (len+n)) ((H.put j .dead).put id (.cells i.size (xs.drop off++new) (lock'-off))):=by
         intro base cap olds es ho1 ho2 ho3 hcap hlk;subst es;have h63':len+n≤9223372036854775807:=h63;have hgr:=aAt (P:=P) (ty:=ty) (base:=base) (len:=len) (cap:=cap) hu hux hd' hi hz (hrun w rfl).1 (hrun w.drew hdraw).2 (ho1 w.drew hdraw) om h63' (growslice_fits om hby);obtain ⟨O1,k1,k2,_,_⟩:=hs.kill j
         obtain ⟨O',h1,h2,h3⟩:=aGp (elem:=elem) (z:=z) (id:=id) (lock:=lock'-off) k1 hfk hzs' hold hnl ho2 hnl' (fun k a hk=>(ho3 k a hk).mono k2) (fun k a hk=>(hnr k a hk).mono k2)
          (by simp;omega) (grownCap_ge w (len+n) cap elem)
         exact ⟨_,_,O',.inl (lY hgr),h1,k2.trans h2,h3⟩
        have empty: ∀(base:Option Addr),s= .slice base len 0→len=0→lock'≤xs.length→
         aD9 P X w0 w H O (do pure (.value (←Builtin.append_ #[ts,tx] ty #[s,x]))) (.own id 0 (len+n)) ((H.put j .dead).put id (.cells i.size (xs.drop off++new) (lock'-off))):=by
         intro base es hl0 hlk;subst hl0;have hx0:xs.drop off=[]:=List.eq_nil_of_length_eq_zero (by simpa using hold);rcases Nat.eq_zero_or_pos n with h0|h0
         ·
          subst h0 es;simp only [Nat.zero_mul] at hnl;have hnew:new=[]:=List.eq_nil_of_length_eq_zero hnl;subst hnew;have hnews:news=[]:=List.eq_nil_of_length_eq_zero hnl';subst hnews;obtain ⟨O1,k1,k2,_,_⟩:=hs.kill j;obtain ⟨O',h1,h2,h3⟩:=k1.virt id i.size (aH.isFresh_eq hfk);have e:lock'-off=0:=by simp at hx0;omega
          rw [hx0,e];refine ⟨.slice base 0 0,w,O',.inl (lY ?_),h1,k2.trans h2,.ownvirt base id 0 h3⟩;refine run_append_fits hu hux hd' hi (hrun w rfl).1 (hrun w rfl).2 (Nat.le_refl _) ?_;cases base<;>rfl
         · refine anew base 0 [] es (fun w' _=>?_) (by rw [hx0];rfl) (fun k a hk=>by rw [hx0] at hk;simp at hk) om hlk;cases base<;>simp [Builtin.firstCells,loadCells,loadCellsFrom]
        have h0:=hs.ent j;rw [he] at h0
        cases hsr with
        |owndead _ _ _ _ hdd _=>exact absurd hdd (hs.notDead he)
        |ownvirt ao _ _ hv=>
         refine empty ao rfl rfl ?_;rcases h0 with ⟨_,q2,q3⟩|⟨o',q1,_,q3,_⟩
         · rw [q3];exact Nat.zero_le _
         · exact q3
        |ownz ao _ _ o ho=>
         refine empty ao rfl rfl ?_;rcases h0 with ⟨_,q2,q3⟩|⟨o',q1,_,q3,_⟩
         · rw [q3];exact Nat.zero_le _
         · exact q3
        |own _ _ _ cap o ho hlc hfit=>
         have hlk:lock'≤xs.length:=by
          rcases h0 with ⟨_,q2,q3⟩|⟨o',q1,_,q3,_⟩
          · rw [q3];exact Nat.zero_le _
          · exact q3
         obtain ⟨cs,hc,hcx,hosz,hob⟩:=hs.cellsOf he ho;rcases Nat.lt_or_ge cap (len+n) with hcap|hcap
         ·
          obtain ⟨olds,h1,h2,h3⟩:=aK4 (P:=P) (w:=w) (M:=Mut X H O) (O:=O) (b:=o.b) (off:=o.base+off) (c:=cap) (cs:=fun k=>cs (off+k)) (ys:=xs.drop off) hold
           (fun k hk=>by rw [Nat.add_assoc];exact hc _ (by simp at hk;omega)) (fun k a hk=>by rw [List.getElem?_drop] at hk;exact hcx _ _ hk)
          exact anew _ cap olds rfl (fun w' hw=>by have:=h1 w' hw;simpa [Builtin.firstCells] using this) h2 h3 hcap hlk
         ·
          
          obtain ⟨O',k1,k2,k3⟩:=hs.rename he ho hfr (off:=off) om
          have hfit2:o.base+off+(xs.drop off).length+new.length≤o.size:=by
           rw [hold,hnl,←hosz] at*;have:(len+n)*o.sz≤cap*o.sz:=Nat.mul_le_mul_right _ hcap;rw [Nat.add_mul] at this;omega
          obtain ⟨w',e1,e2,e3⟩:=k1.extend (P:=P) (ys:=new) (upd_same _ _ _) k3 news hnl' hfit2 hone (fun k a hk=>(hnr k a hk).mono k2)
          have eH:((H.put j .dead).put id (.cells i.size (xs.drop off) (lock'-off))).put id (.cells i.size (xs.drop off++new) (lock'-off))=
           (H.put j .dead).put id (.cells i.size (xs.drop off++new) (lock'-off)):=by
           unfold aH.put;congr 1;funext q;by_cases hq:q=id<;>simp [upd,hq]
          rw [eH] at e2 e3;refine ⟨.slice (some ⟨o.b,o.base+off,none⟩) (len+n) cap,w',O',.inl (lY ?_),e2,k2.trans e3,?_⟩
          · refine run_append_fits hu hux hd' hi (hrun w rfl).1 (hrun w rfl).2 hcap ?_;show (storeCells ((⟨o.b,o.base+off,none⟩:Addr).add (len*i.size)) news).run P w=_;rw [Addr.add_lit,←hold];exact e1
          ·
           have:=RV.own (w:=w') (M:=Mut X ((H.put j .dead).put id (.cells i.size (xs.drop off++new) (lock'-off))) O') id 0 (len+n) cap _ k3 hcap (by simpa using hfit)
           simpa using this
       · cases hb
      · cases hb
     · cases hb
    · cases h
   · cases h
  · cases h
 · cases h
theorem aPf(hs:Sim X w0 w H O){ρ:Operand→Value}{ρa:Operand→AV}(hρ: ∀x,RV w (Mut X H O) O (ρ x) (ρa x)){o:Oper}{id:Nat}{r:AV}{H':aH}
 (h:eZ P H id ρa o.op=some (r,H')):aD9 P X w0 w H O (execOp ρ o) r H':=by
 unfold eZ at h;unfold execOp;split at h
 ·
  rename_i elem ho;simp only [ho];split at h
  ·
   rename_i zs hz;split at h
   · rename_i hf;cases h;obtain ⟨z,hz1,hz2,hz3⟩:=nO (w:=w) (M:=Mut X H O) (O:=O) hz;exact aN6 hs hf z elem zs hz2 hz3 _ (by simp [Instr.alloc,kB hz1,newVar,newRow])
   · cases h
  · cases h
 ·
  rename_i elem x ho;simp only [ho];split at h
  ·
   rename_i cs hc;split at h
   · rename_i hf;cases h;obtain ⟨h1,h2⟩:=(hρ x).cells hc;exact aN6 hs hf (ρ x) elem cs h1 h2 _ (by simp [Instr.box,newVar,newRow])
   · cases h
  · cases h
 ·
  rename_i t len parts ho;simp only [ho];split at h
  ·
   rename_i elem hu;split at h
   ·
    rename_i s zs hsz hz;split at h
    · rename_i hc;obtain ⟨hf,hmax,hzl,hs0⟩:=hc;simp only [Option.map_eq_some_iff,Prod.mk.injEq] at h;obtain ⟨xs,hfill,rfl,rfl⟩:=h;have key:=aOa (P:=P) (w:=w) (O:=O) (X:=X) (w0:=w0) (H:=H) (t:=t) (elem:=elem) (len:=len) (s:=s) (id:=id) (zs:=zs) (xs:=xs) hs (parts:=parts.map fun (i,x)=>(i,ρ x)) (as:=parts.toList.map fun (i,x)=>(i,ρa x)) hu hsz hz hf hmax hzl hs0;have key2:=key (by simp);refine key2 (fun k i a hk=>?_) hfill;simp only [List.getElem?_map,Option.map_eq_some_iff] at hk;obtain ⟨⟨i',x⟩,hx,he⟩:=hk;simp at he;obtain ⟨rfl,rfl⟩:=he;exact ⟨ρ x,by simp at hx;simp [hx],hρ x⟩
    · cases h
   · cases h
  · cases h
 ·
  rename_i t a x ho;simp only [ho];split at h
  ·
   rename_i j off cs hp hc;split at h
   ·
    rename_i sz xs lock he;split at h
    · rename_i hcc;obtain ⟨h1,h2,h3,h4⟩:=hcc;cases h;have hpa:=hρ a;rw [hp] at hpa;exact aTe hs hpa (hρ x) hc he h1 h2 h3 h4
    · cases h
   · cases h
  · cases h
 ·
  rename_i t l c ho;simp only [ho];split at h
  ·
   rename_i elem kl l' kc c' hu hl hc;split at h
   ·
    rename_i i zs hi hz;split at h
    · rename_i hcc;obtain ⟨h1,h2,h3,h4,h5,h6,h7⟩:=hcc;cases h;have hla:=hρ l;have hca:=hρ c;rw [hl] at hla;rw [hc] at hca;exact aQu hs hu hla hca hi hz h1 h2 h3 h4 h5 h6 h7
    · cases h
   · cases h
  · cases h
 ·
  rename_i t x ho;simp only [ho];split at h
  ·
   rename_i s hu hx;split at h
   · rename_i hf;cases h;have hxa:=hρ x;rw [hx] at hxa;exact bBi hs hu hxa hf
   · cases h
  · cases h
 ·
  rename_i it ho;simp only [ho];split at h
  ·
   rename_i j hit;split at h
   ·
    rename_i s pos he;have hia:=hρ it;rw [hit] at hia;obtain ⟨h1,h2⟩:=bEu (P:=P) (ty:=o.type) hs hia he;split at h
    · rename_i hpos;cases h;exact h1 hpos
    · rename_i hpos;cases h;exact h2 hpos
   · cases h
  · cases h
 ·
  rename_i args ats ho;split at h
  ·
   rename_i s x ts tx ha ht;have ha':args= #[s,x]:=by apply Array.ext';simpa using ha
   have ht':ats= #[ts,tx]:=by apply Array.ext';simpa using ht
   subst ha' ht';obtain ⟨v,w',O',h1,h2,h3,h4⟩:=aTw (ty:=o.type) hs (hρ s) (hρ x) h;refine ⟨v,w',O',?_,h2,h3,h4⟩;simp only [ho,resolve,invoke,Sem.run_bind,Sem.run_pure,Result.andThen_ok,List.map_toArray,List.map_cons,List.map_nil];exact h1
  · cases h
 · cases h
end
end Go.AM
