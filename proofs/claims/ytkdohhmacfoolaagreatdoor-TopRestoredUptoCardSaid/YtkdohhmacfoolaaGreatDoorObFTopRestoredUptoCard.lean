/- The statement,from the law's plain function. No condition. -/
import Derived.Test.YtkdohhmacfoolaaGreatDoorObAmH
import Derived.Test.YtkdohhmacfoolaaGreatDoorCards
import Derived.Test.YtkdohhmacfoolaaGreatDoorTie
import Derived.Deep.DeepHandedRow
import Derived.Lib.LaidTab
set_option linter.unusedVariables false
set_option linter.unusedSimpArgs false
set_option maxRecDepth 20000
namespace Go.Proofs.YtkdohhmacfoolaaGreatDoor.topRestoredUpto
open Go Go.AM Go.ChangeShapes Go.WideShapes Go.ChangeAt Go.RowKit
theorem co3:Tryz.prog.cellsOf 3=1:=by kernel_rfl
theorem co9:Tryz.prog.cellsOf 9=1:=by kernel_rfl
theorem cBo:Tryz.prog.cellsOf 23=3:=by kernel_rfl
theorem bRu:Tryz.prog.cellsOf 40=1:=by kernel_rfl
theorem bRv:Tryz.prog.cellsOf 42=4:=by kernel_rfl
def aTg(e:aU):Prop:=((Lit.int .i64 e.N).wf=true)∧((Lit.int .i64 e.L).wf=true)∧((Lit.int .i64 e.R).wf=true)
theorem bCh{w:World} :Opn Tryz.prog w 23 aDo aTg:=by
 intro H enc fuel cs x h;obtain ⟨_,_,_,_,hcl,_,_⟩:=DataW.trod_struct Tryz.underlying23 h;obtain ⟨n0,y0,h0⟩:=tS Tryz.underlying23 h 0 _ rfl;obtain ⟨e0,w0,l0,r0⟩:=(aF7 Tryz.underlying3) H enc n0 _ _ h0;obtain ⟨n1,y1,h1⟩:=tS Tryz.underlying23 h 1 _ rfl;obtain ⟨e1,w1,l1,r1⟩:=(aF7 Tryz.underlying3) H enc n1 _ _ h1;obtain ⟨n2,y2,h2⟩:=tS Tryz.underlying23 h 2 _ rfl;obtain ⟨e2,w2,l2,r2⟩:=(aF7 Tryz.underlying3) H enc n2 _ _ h2;refine ⟨⟨e0,e1,e2⟩,⟨w0,w1,w2⟩,hcl.trans cBo,fun k a hk=>?_⟩
 match k,hk with
 |0,hk=>
  have this:RV w Xno fZ (((cs.drop 0).take (Tryz.prog.cellsOf 3)).getD 0 undef) a:=r0 0 a hk;rw [wQ (show 0<Tryz.prog.cellsOf 3 by rw [co3];decide)] at this;exact this
 |1,hk=>
  have this:RV w Xno fZ (((cs.drop 1).take (Tryz.prog.cellsOf 3)).getD 0 undef) a:=r1 0 a hk;rw [wQ (show 0<Tryz.prog.cellsOf 3 by rw [co3];decide)] at this;exact this
 |2,hk=>
  have this:RV w Xno fZ (((cs.drop 2).take (Tryz.prog.cellsOf 3)).getD 0 undef) a:=r2 0 a hk;rw [wQ (show 0<Tryz.prog.cellsOf 3 by rw [co3];decide)] at this;exact this
 |k+3,hk=>cases hk
def yX(e:bD):Prop:=((Lit.int .i64 e.Do).wf=true)∧((Lit.int .u64 e.A).wf=true)∧((Lit.int .u64 e.B).wf=true)∧(e.Text.size≤maxLen)
theorem aE2{w:World} :Opn Tryz.prog w 42 cU yX:=by
 intro H enc fuel cs x h;obtain ⟨_,_,_,_,hcl,_,_⟩:=DataW.trod_struct Tryz.underlying42 h;obtain ⟨n0,y0,h0⟩:=tS Tryz.underlying42 h 0 _ rfl;obtain ⟨e0,w0,l0,r0⟩:=(aF7 Tryz.underlying3) H enc n0 _ _ h0;obtain ⟨n1,y1,h1⟩:=tS Tryz.underlying42 h 1 _ rfl;obtain ⟨e1,w1,l1,r1⟩:=(aF7 Tryz.underlying40) H enc n1 _ _ h1;obtain ⟨n2,y2,h2⟩:=tS Tryz.underlying42 h 2 _ rfl;obtain ⟨e2,w2,l2,r2⟩:=(aF7 Tryz.underlying40) H enc n2 _ _ h2;obtain ⟨n3,y3,h3⟩:=tS Tryz.underlying42 h 3 _ rfl;obtain ⟨e3,w3,l3,r3⟩:=(bPv Tryz.underlying9) H enc n3 _ _ h3;refine ⟨⟨e0,e1,e2,e3⟩,⟨w0,w1,w2,w3⟩,hcl.trans bRv,fun k a hk=>?_⟩
 match k,hk with
 |0,hk=>
  have this:RV w Xno fZ (((cs.drop 0).take (Tryz.prog.cellsOf 3)).getD 0 undef) a:=r0 0 a hk;rw [wQ (show 0<Tryz.prog.cellsOf 3 by rw [co3];decide)] at this;exact this
 |1,hk=>
  have this:RV w Xno fZ (((cs.drop 1).take (Tryz.prog.cellsOf 40)).getD 0 undef) a:=r1 0 a hk;rw [wQ (show 0<Tryz.prog.cellsOf 40 by rw [bRu];decide)] at this;exact this
 |2,hk=>
  have this:RV w Xno fZ (((cs.drop 2).take (Tryz.prog.cellsOf 40)).getD 0 undef) a:=r2 0 a hk;rw [wQ (show 0<Tryz.prog.cellsOf 40 by rw [bRu];decide)] at this;exact this
 |3,hk=>
  have this:RV w Xno fZ (((cs.drop 3).take (Tryz.prog.cellsOf 9)).getD 0 undef) a:=r3 0 a hk;rw [wQ (show 0<Tryz.prog.cellsOf 9 by rw [co9];decide)] at this;exact this
 |k+4,hk=>cases hk
theorem own:ownKnob Tryz.prog.godebug=none:=by kernel_rfl
theorem laid:laidOutB Tryz.prog=true:=by kernel_rfl
theorem walk(a0:aU)(a1:List Int)(a2:List bD)(a3:List bD)(w0:aTg a0)(w1:(∀y,y∈a1→(Lit.int .u64 y).wf=true)∧a1.length≤maxLen)(w2:(∀y,y∈a2→yX y)∧a2.length≤maxLen)(w3:(∀y,y∈a3→yX y)∧a3.length≤maxLen)(b1:a1.length≤1048576)(b2:a2.length≤1048576)(b3:a3.length≤1048576)(w:World)(v0:Value)(v1:Value)(v2:Value)(v3:Value)(o0:RV w Xno fZ v0 (.agg (aDo a0)))(o1:RV w Xno fZ v1 (.sl (a1.flatMap (ci .u64)) a1.length false))(o2:RV w Xno fZ v2 (.sl (a2.flatMap cU) a2.length false))(o3:RV w Xno fZ v3 (.sl (a3.flatMap cU) a3.length false)):
 Calls Tryz.prog 3 #[v0,v1,v2,v3] w fun e w'=>e= .returned (.bool true)∧Below w.heap.size w w':=by
 refine (aIn (aS5 a0 a1 a2 a3 w0 w1 w2 w3 b1 b2 b3) w Xno #[v0,v1,v2,v3] (fun _ _ h=>h.elim) ⟨rfl,fun k a h=>?_⟩).mono fun e w' he=>?_
 ·
  match k,h with
  |0,h=>cases h;exact o0
  |1,h=>cases h;exact o1
  |2,h=>cases h;exact o2
  |3,h=>cases h;exact o3
  |k+4,h=>cases h
 · obtain ⟨v,rfl,hv,hb⟩:=he;rw [hv.v_inv];exact ⟨rfl,hb⟩
def put(c:Array Value):Obj→Obj
  | .cells _ t z=> .cells c t z
  |o=>o
def cF3:Array Value:=([0,1,28,2,29,14,24,3,30,22,20,15,25,17,4,8,31,27,13,23,21,19,16,7,26,12,18,6,11,5,10,9]:List Int).toArray.map fun x=> .int .u8 x
def cF4:Array Value:=([0,1,56,2,57,49,28,3,61,58,42,50,38,29,17,4,62,47,59,36,45,43,51,22,53,39,33,30,24,18,12,5,63,55,48,27,60,41,37,16,46,35,44,21,52,32,23,11,54,26,40,15,34,20,31,10,25,14,19,9,13,8,7,6]:List Int).toArray.map fun x=> .int .u8 x
def cF5:Array Value:=([1,10,100,1000,10000,100000,1000000,10000000,100000000,1000000000,10000000000,100000000000,1000000000000,10000000000000,100000000000000,1000000000000000,10000000000000000,100000000000000000,1000000000000000000,10000000000000000000]:List Int).toArray.map fun x=> .int .u64 x
noncomputable def aN1 (os:Os):World:= { World.holding Tryz.prog os ⟨#[],#[],[]⟩ with heap:=((((World.holding Tryz.prog os ⟨#[],#[],[]⟩).heap.modify 4 (put cF3)).modify 5 (put cF4)).modify 3 (put cF5)) }
theorem bKz(os:Os):laidMet Tryz.prog Rows.topRestoredUptoRow.laid ((aN1 os).forCall (fun _ _=>0) ⟨#[],#[.agg #[.int .i64 0,.int .i64 0,.int .i64 0],.slice none 0 0,.slice none 0 0,.slice none 0 0],[]⟩).memory:=
 laidMet_of_run' 8 (by kernel_rfl) (by kernel_rfl)
theorem reads(os:Os){H:Type}(enc:TypeId×Value→H): ∃places,DataW.whole enc Tryz.prog ((aN1 os).forCall (fun _ _=>0) ⟨#[],#[.agg #[.int .i64 0,.int .i64 0,.int .i64 0],.slice none 0 0,.slice none 0 0,.slice none 0 0],[]⟩).memory Tryz.f3.params.toList Rows.topRestoredSpec.vars false (#[.agg #[.int .i64 0,.int .i64 0,.int .i64 0],.slice none 0 0,.slice none 0 0,.slice none 0 0]:Array Value).toList 8=some ([.agg [.lit (.int .i64 0),.lit (.int .i64 0),.lit (.int .i64 0)],.nil,.nil,.nil],[],places):=
 ⟨[],by kernel_rfl⟩
theorem bJi{H:Type}(d:DataW H):1≤Rows.uptoBulk d:=by
 cases d with
 |lit l=>cases l<;>simp [Rows.uptoBulk]
 |_=>simp [Rows.uptoBulk]
theorem bJh{H:Type}(l:List (DataW H)):l.length≤Rows.uptoBulkAll l:=by
 induction l with
 |nil=>simp [Rows.uptoBulkAll]
 |cons x r ih=>have:=bJi x;simp only [Rows.uptoBulkAll,List.length_cons];omega
theorem aWy{H:Type}{enc:TypeId×Value→H}{w:World}{t e:TypeId}{v:Value}{d:DataW H}{ps:List MemPlace}{xs:List AV}{n b0:Nat}{f:Bool}{r:Reach}(hu:Tryz.prog.underlying t=some (.slice e))(hv:Value.okWide Tryz.prog w r b0 t v)
 (hT:DataW.Trod enc Tryz.prog w 0 (fun _=>true) true t v d ps) (o:RV w Xno fZ v (.sl xs n f)):n≤Rows.uptoBulk d:=by
 obtain ⟨fuel,hf⟩:=hT;have hv':=bLj hu rfl hv;rcases DataW.trod_slice hu hf with ⟨hc,_⟩|⟨a,len,cap,elems,rest,m,_,hc,hx,_,_,_,hlen,_⟩
 ·
  have:v= .slice none 0 0:=by rw [hv'] at hc;simpa using hc
  subst this;cases o;exact Nat.zero_le _
 ·
  have:v= .slice (some a) len cap:=by rw [hv'] at hc;simpa using hc
  subst this;have hd:d= .slice (elems.map (·.1)) (rest.map (·.1)):=congrArg Prod.fst hx;subst hd;have:n=len:=by cases o<;>rfl
  have hb:=bJh (elems.map (·.1));rw [List.length_map] at hb;simp only [Rows.uptoBulk];omega
set_option maxRecDepth 100000 in
theorem lifted(os:Os)(started:os.Started)(H:Type)(enc:TypeId×Value→H)(F:Stop.Interp):
 ReturnsInHanded {} Tryz.checked os 3 .any ((Rows.OpenSpec.upto Rows.topRestoredSpec).preRow enc Tryz.prog Tryz.f3 Rows.topRestoredUptoRow.domain false Rows.topRestoredUptoRow.laid) (((Rows.OpenSpec.upto Rows.topRestoredSpec).at F).post enc Tryz.prog Tryz.f3 false true false false):=by
 obtain ⟨places,hx⟩:=reads os enc
 refine returnsInHanded_of_row (C:=Tryz.checked) (s:=(Rows.OpenSpec.upto Rows.topRestoredSpec)) own started (by kernel_rfl) Tryz.func3
  (witness_row_at (enc:=enc) (C:=Tryz.checked) false (aN1 os) #[.agg #[.int .i64 0,.int .i64 0,.int .i64 0],.slice none 0 0,.slice none 0 0,.slice none 0 0] rfl (by kernel_rfl) (by kernel_rfl) (by kernel_rfl)
   (OpenSpec.preRow_of_cond 8 hx (by kernel_rfl) (fun k hk=>by cases hk;kernel_rfl) (by kernel_rfl) (bKz os))) ?_
 intro W base args ds gs before hval0 hW _ hk0 _ hL _ _;have hval: ∀(j:Nat) t v,Tryz.f3.params[j]? =some t→args[j]? =some v→Value.okWide Tryz.prog W .any base t v:=hval0;have hW':=hW;obtain ⟨p,q,hA0,hV,rfl,hfz,hnd⟩:=hW;have hA:DataW.TrodAll enc Tryz.prog W 0 (fun _=>true) true Tryz.f3.params.toList args.toList ds p:=hA0;rw [Tryz.params3] at hA hval;have hlt:=hA.lt;obtain ⟨v0,vs0,d0,ds0,p0,q0,hargs,rfl,rfl,h0,r0⟩:=trodAll_cons hA;obtain ⟨v1,vs1,d1,ds1,p1,q1,rfl,rfl,rfl,h1,r1⟩:=trodAll_cons r0;obtain ⟨v2,vs2,d2,ds2,p2,q2,rfl,rfl,rfl,h2,r2⟩:=trodAll_cons r1;obtain ⟨v3,vs3,d3,ds3,p3,q3,rfl,rfl,rfl,h3,r3⟩:=trodAll_cons r2;obtain ⟨rfl,rfl,rfl⟩:=trodAll_nil r3;obtain rfl:args= #[v0,v1,v2,v3]:=by cases args;simp_all
 obtain ⟨rfl,rfl⟩:=trodVars_none hV;obtain ⟨a0,w0,o0⟩:=cF7 Tryz.underlying23 (hval 0 23 v0 rfl rfl) h0 bCh;obtain ⟨a1,w1,o1⟩:=bT7 Tryz.underlying24 rfl (hval 1 24 v1 rfl rfl) h1 (aN6 (CFi .u64) (by decide) Tryz.underlying24 bRu (aF7 Tryz.underlying40));replace o1:=o1 _ rfl;obtain ⟨a2,w2,o2⟩:=bT7 Tryz.underlying25 rfl (hval 2 25 v2 rfl rfl) h2 (aN6 nD (by decide) Tryz.underlying25 bRv aE2);replace o2:=o2 _ rfl;obtain ⟨a3,w3,o3⟩:=bT7 Tryz.underlying25 rfl (hval 3 25 v3 rfl rfl) h3 (aN6 nD (by decide) Tryz.underlying25 bRv aE2);replace o3:=o3 _ rfl;have hk:=hk0 _ rfl;have hb:Rows.uptoBulkAll ([d0,d1,d2,d3]++[])≤1048576:=of_decide_eq_true hk;simp only [List.append_nil,Rows.uptoBulkAll] at hb;have b1:a1.length≤1048576:=Nat.le_trans (aWy Tryz.underlying24 (hval 1 24 v1 rfl rfl) h1 o1) (by omega);have b2:a2.length≤1048576:=Nat.le_trans (aWy Tryz.underlying25 (hval 2 25 v2 rfl rfl) h2 o2) (by omega);have b3:a3.length≤1048576:=Nat.le_trans (aWy Tryz.underlying25 (hval 3 25 v3 rfl rfl) h3 o3) (by omega);refine (walk a0 a1 a2 a3 w0 w1 w2 w3 b1 b2 b3 W v0 v1 v2 v3 o0 o1 o2 o3).mono fun e W' ⟨he,bel⟩=>?_;subst he;exact ⟨_,rfl,_,_,_,[],_,[],hW',trodAll_mk1 (shut_bool Tryz.underlying4 _),(trodAll_cons_mk (Below.trod laid (by kernel_rfl) (of_decide_eq_true (by kernel_rfl)) h0 bel (fun x hx=>hlt x (by simp [hx]))) (trodAll_cons_mk (Below.trod laid (by kernel_rfl) (of_decide_eq_true (by kernel_rfl)) h1 bel (fun x hx=>hlt x (by simp [hx]))) (trodAll_cons_mk (Below.trod laid (by kernel_rfl) (of_decide_eq_true (by kernel_rfl)) h2 bel (fun x hx=>hlt x (by simp [hx]))) (trodAll_cons_mk (Below.trod laid (by kernel_rfl) (of_decide_eq_true (by kernel_rfl)) h3 bel (fun x hx=>hlt x (by simp [hx]))) trodAll_mk0)))),rfl,bel.frame _,fun h=>by cases h⟩
def cFc:List Char:=[102,100,48,100,102,100,53,100,54,98,100,48,52,99,55,48,101,100,48,101,52,50,57,54,57,53,101,101,102,48,48,56,101,55,53,49,53,49,48,101,50,53,52,52,51,53,50,52,55,98,54,57,48,97,56,102,99,53,55,98,56,102,53,100].map Char.ofNat
def bRg:List Char:=[97,116,32,114,97,102,116,115,109,97,110,47,114,97,102,116,115,109,97,110,116,111,112,46,84,111,112,82,101,115,116,111,114,101,100,32,114,97,102,116,115,109,97,110,47,114,97,102,116,115,109,97,110,116,111,112,46,84,111,112,79,110,101,83,105,100,101,100,32,114,97,102,116,115,109,97,110,47,114,97,102,116,115,109,97,110,108,97,119,50,51,46,83,99,114,105,112,116,76,101,97,118,101,115,32,114,97,102,116,115,109,97,110,47,114,97,102,116,115,109,97,110,108,97,119,50,51,46,83,99,114,105,112,116,83,97,118,101,115,32,114,97,102,116,115,109,97,110,47,114,97,102,116,115,109,97,110,108,97,119,50,51,46,83,99,114,105,112,116,65,115,107,115,32,114,97,102,116,115,109,97,110,47,114,97,102,116,115,109,97,110,108,97,119,50,51,46,83,99,114,105,112,116,80,108,97,105,110].map Char.ofNat
theorem bNx:Tryz.pinned.checked.prog.initOrder=String.ofList ("harness".toList++Char.ofNat 32::(cFc++Char.ofNat 32::(aAx++Char.ofNat 32::bRg))):=by kernel_rfl
theorem bmw:behindMainWord (wordsSigns Tryz.pinned.checked.prog.initOrder.toList)=aAx::wordsSigns bRg:=by
 rw [bNx,String.toList_ofList];exact bRs (by decide+kernel) (by decide+kernel)
theorem cCq:Tryz.pinned.checked.prog.mayEnter=true:=aYx bmw (by kernel_rfl) (by kernel_rfl) (by kernel_rfl)
theorem lif:(Rows.topRestoredUptoRow.lifted==Tryz.pinned.checked.prog.liftsFinal)=true:=by rw [aSr bmw];kernel_rfl
theorem mkk:(Tryz.pinned.checked.prog.make==some Rows.topRestoredUptoRow.make)=true:=by rw [bPn bmw];kernel_rfl
theorem closed:joinedFacts Tryz.pinned.checked.prog 3 Tryz.f3 (Rows.OpenSpec.upto Rows.topRestoredSpec).bare Rows.topRestoredUptoRow=true:=by
 unfold joinedFacts;rw [cCq,lif,mkk]
 kernel_rfl
theorem over:Rows.topRestoredUptoRow.holds Tryz.pinned (Rows.OpenSpec.upto Rows.topRestoredSpec):=
 OpenClaim.holds_of_cond 3 Tryz.f3 rfl rfl rfl rfl rfl rfl rfl ⟨rfl,rfl,rfl,rfl,rfl⟩ rfl rfl rfl rfl rfl (by kernel_rfl) Tryz.func3 closed
  (of_decide_eq_true (by kernel_rfl)) (by unfold Func.isWrapper;first|(rw [if_pos (by decide+kernel)];kernel_rfl)|(rw [if_neg (by decide+kernel)];exact ⟨rfl,rfl⟩))
  (fun os started H enc _ F=>by rw [OpenClaim.pre_eq_preRow];exact lifted os started H enc F)
theorem plain(f:FuncId)(fn:Func)(hf:Tryz.pinned.checked.prog.funcNamed "raftsman/raftsmantop.TopRestored" =some f)(hfn:Tryz.pinned.checked.prog.funcs[f]? =some fn):
 true=Tryz.pinned.checked.prog.looks []∧ ∀(j:Nat) t,fn.params[j]? =some t→Tryz.pinned.checked.prog.wantsStandIn t=false:=by
 obtain rfl:f=3:=Option.some.inj ((show Tryz.prog.funcNamed "raftsman/raftsmantop.TopRestored" =some 3 by kernel_rfl).symm.trans hf) |>.symm;obtain rfl:fn=Tryz.f3:=(Option.some.inj (Tryz.func3.symm.trans hfn)).symm;refine ⟨by kernel_rfl,fun j t ht=>?_⟩;rw [Tryz.params3] at ht;have:=Array.mem_of_getElem? ht;simp only [List.mem_toArray,List.mem_cons,List.not_mem_nil,or_false] at this;rcases this with rfl|rfl|rfl|rfl
 · exact (show Tryz.prog.wantsStandIn 23=false by kernel_rfl)
 · exact (show Tryz.prog.wantsStandIn 24=false by kernel_rfl)
 · exact (show Tryz.prog.wantsStandIn 25=false by kernel_rfl)
 · exact (show Tryz.prog.wantsStandIn 25=false by kernel_rfl)
theorem proved:Rows.TopRestoredUptoCardSaid:=
 Claim7.holds_tied_plain_at .later [] _ _ _ _ over (fun _ h=>by cases h) (by kernel_rfl) (fun _ h=>by cases h) topRestoredUpto_row_tie rfl ⟨rfl,rfl⟩ (by kernel_rfl) rfl plain (by kernel_rfl)
#print axioms proved
end Go.Proofs.YtkdohhmacfoolaaGreatDoor.topRestoredUpto
