/- The statement,from the law's plain function. No condition. -/
import Derived.Test.YtkdohhmacfoolaaGreatDoorOaAmH
import Derived.Test.YtkdohhmacfoolaaGreatDoorCards
import Derived.Test.YtkdohhmacfoolaaGreatDoorTie
import Derived.Deep.DeepHandedRow
import Derived.Lib.LaidTab
set_option linter.unusedVariables false
set_option linter.unusedSimpArgs false
set_option maxRecDepth 20000
namespace Go.Proofs.YtkdohhmacfoolaaGreatDoor.topOneSidedUpto
open Go Go.AM Go.ChangeShapes Go.WideShapes Go.ChangeAt Go.RowKit
theorem co3:Tryz.prog.cellsOf 3=1:=by kernel_rfl
theorem co4:Tryz.prog.cellsOf 4=1:=by kernel_rfl
theorem bR3:Tryz.prog.cellsOf 23=3:=by kernel_rfl
theorem bJy:Tryz.prog.cellsOf 40=1:=by kernel_rfl
theorem bJz:Tryz.prog.cellsOf 94=2:=by kernel_rfl
theorem bH3:Tryz.prog.cellsOf 106=3:=by kernel_rfl
def aNr(e:aT):Prop:=((Lit.int .i64 e.N).wf=true)∧((Lit.int .i64 e.L).wf=true)∧((Lit.int .i64 e.R).wf=true)
theorem aVi{w:World} :Opn Tryz.prog w 23 aA7 aNr:=by
 intro H enc fuel cs x h;obtain ⟨_,_,_,_,hcl,_,_⟩:=DataW.trod_struct Tryz.underlying23 h;obtain ⟨n0,y0,h0⟩:=mN Tryz.underlying23 h 0 _ rfl;obtain ⟨e0,w0,l0,r0⟩:=(aBi Tryz.underlying3) H enc n0 _ _ h0;obtain ⟨n1,y1,h1⟩:=mN Tryz.underlying23 h 1 _ rfl;obtain ⟨e1,w1,l1,r1⟩:=(aBi Tryz.underlying3) H enc n1 _ _ h1;obtain ⟨n2,y2,h2⟩:=mN Tryz.underlying23 h 2 _ rfl;obtain ⟨e2,w2,l2,r2⟩:=(aBi Tryz.underlying3) H enc n2 _ _ h2;refine ⟨⟨e0,e1,e2⟩,⟨w0,w1,w2⟩,hcl.trans bR3,fun k a hk=>?_⟩
 match k,hk with
 |0,hk=>
  have this:RV w Xno dZ (((cs.drop 0).take (Tryz.prog.cellsOf 3)).getD 0 undef) a:=r0 0 a hk;rw [pH (show 0<Tryz.prog.cellsOf 3 by rw [co3];decide)] at this;exact this
 |1,hk=>
  have this:RV w Xno dZ (((cs.drop 1).take (Tryz.prog.cellsOf 3)).getD 0 undef) a:=r1 0 a hk;rw [pH (show 0<Tryz.prog.cellsOf 3 by rw [co3];decide)] at this;exact this
 |2,hk=>
  have this:RV w Xno dZ (((cs.drop 2).take (Tryz.prog.cellsOf 3)).getD 0 undef) a:=r2 0 a hk;rw [pH (show 0<Tryz.prog.cellsOf 3 by rw [co3];decide)] at this;exact this
 |k+3,hk=>cases hk
def aW2(e:bS):Prop:=((Lit.int .u64 e.A).wf=true)∧((Lit.int .u64 e.B).wf=true)
theorem bD0{w:World} :Opn Tryz.prog w 94 bC aW2:=by
 intro H enc fuel cs x h;obtain ⟨_,_,_,_,hcl,_,_⟩:=DataW.trod_struct Tryz.underlying94 h;obtain ⟨n0,y0,h0⟩:=mN Tryz.underlying94 h 0 _ rfl;obtain ⟨e0,w0,l0,r0⟩:=(aBi Tryz.underlying40) H enc n0 _ _ h0;obtain ⟨n1,y1,h1⟩:=mN Tryz.underlying94 h 1 _ rfl;obtain ⟨e1,w1,l1,r1⟩:=(aBi Tryz.underlying40) H enc n1 _ _ h1;refine ⟨⟨e0,e1⟩,⟨w0,w1⟩,hcl.trans bJz,fun k a hk=>?_⟩
 match k,hk with
 |0,hk=>
  have this:RV w Xno dZ (((cs.drop 0).take (Tryz.prog.cellsOf 40)).getD 0 undef) a:=r0 0 a hk;rw [pH (show 0<Tryz.prog.cellsOf 40 by rw [bJy];decide)] at this;exact this
 |1,hk=>
  have this:RV w Xno dZ (((cs.drop 1).take (Tryz.prog.cellsOf 40)).getD 0 undef) a:=r1 0 a hk;rw [pH (show 0<Tryz.prog.cellsOf 40 by rw [bJy];decide)] at this;exact this
 |k+2,hk=>cases hk
def tV(e:bG):Prop:=(True)∧((Lit.int .i64 e.U).wf=true)∧((Lit.int .i64 e.V).wf=true)
theorem aD1{w:World} :Opn Tryz.prog w 106 bQ tV:=by
 intro H enc fuel cs x h;obtain ⟨_,_,_,_,hcl,_,_⟩:=DataW.trod_struct Tryz.underlying106 h;obtain ⟨n0,y0,h0⟩:=mN Tryz.underlying106 h 0 _ rfl;obtain ⟨e0,w0,l0,r0⟩:=(bD1 Tryz.underlying4) H enc n0 _ _ h0;obtain ⟨n1,y1,h1⟩:=mN Tryz.underlying106 h 1 _ rfl;obtain ⟨e1,w1,l1,r1⟩:=(aBi Tryz.underlying3) H enc n1 _ _ h1;obtain ⟨n2,y2,h2⟩:=mN Tryz.underlying106 h 2 _ rfl;obtain ⟨e2,w2,l2,r2⟩:=(aBi Tryz.underlying3) H enc n2 _ _ h2;refine ⟨⟨e0,e1,e2⟩,⟨w0,w1,w2⟩,hcl.trans bH3,fun k a hk=>?_⟩
 match k,hk with
 |0,hk=>
  have this:RV w Xno dZ (((cs.drop 0).take (Tryz.prog.cellsOf 4)).getD 0 undef) a:=r0 0 a hk;rw [pH (show 0<Tryz.prog.cellsOf 4 by rw [co4];decide)] at this;exact this
 |1,hk=>
  have this:RV w Xno dZ (((cs.drop 1).take (Tryz.prog.cellsOf 3)).getD 0 undef) a:=r1 0 a hk;rw [pH (show 0<Tryz.prog.cellsOf 3 by rw [co3];decide)] at this;exact this
 |2,hk=>
  have this:RV w Xno dZ (((cs.drop 2).take (Tryz.prog.cellsOf 3)).getD 0 undef) a:=r2 0 a hk;rw [pH (show 0<Tryz.prog.cellsOf 3 by rw [co3];decide)] at this;exact this
 |k+3,hk=>cases hk
theorem own:ownKnob Tryz.prog.godebug=none:=by kernel_rfl
theorem laid:laidOutB Tryz.prog=true:=by kernel_rfl
theorem walk(a0:aT)(a1:List bS)(a2:List bG)(w0:aNr a0)(w1:(∀y,y∈a1→aW2 y)∧a1.length≤maxLen)(w2:(∀y,y∈a2→tV y)∧a2.length≤maxLen)(b1:a1.length≤1048576)(b2:a2.length≤1048576)(w:World)(v0:Value)(v1:Value)(v2:Value)(o0:RV w Xno dZ v0 (.agg (aA7 a0)))(o1:RV w Xno dZ v1 (.sl (a1.flatMap bC) a1.length false))(o2:RV w Xno dZ v2 (.sl (a2.flatMap bQ) a2.length false)):
 Calls Tryz.prog 4 #[v0,v1,v2] w fun e w'=>e= .returned (.bool true)∧Below w.heap.size w w':=by
 refine (aEa (aMo a0 a1 a2 w0 w1 w2 b1 b2) w Xno #[v0,v1,v2] (fun _ _ h=>h.elim) ⟨rfl,fun k a h=>?_⟩).mono fun e w' he=>?_
 ·
  match k,h with
  |0,h=>cases h;exact o0
  |1,h=>cases h;exact o1
  |2,h=>cases h;exact o2
  |k+3,h=>cases h
 · obtain ⟨v,rfl,hv,hb⟩:=he;rw [hv.v_inv];exact ⟨rfl,hb⟩
def put(c:Array Value):Obj→Obj
  | .cells _ t z=> .cells c t z
  |o=>o
def bUk:Array Value:=([0,1,28,2,29,14,24,3,30,22,20,15,25,17,4,8,31,27,13,23,21,19,16,7,26,12,18,6,11,5,10,9]:List Int).toArray.map fun x=> .int .u8 x
def bUl:Array Value:=([0,1,56,2,57,49,28,3,61,58,42,50,38,29,17,4,62,47,59,36,45,43,51,22,53,39,33,30,24,18,12,5,63,55,48,27,60,41,37,16,46,35,44,21,52,32,23,11,54,26,40,15,34,20,31,10,25,14,19,9,13,8,7,6]:List Int).toArray.map fun x=> .int .u8 x
def bUm:Array Value:=([1,10,100,1000,10000,100000,1000000,10000000,100000000,1000000000,10000000000,100000000000,1000000000000,10000000000000,100000000000000,1000000000000000,10000000000000000,100000000000000000,1000000000000000000,10000000000000000000]:List Int).toArray.map fun x=> .int .u64 x
noncomputable def aIb (os:Os):World:= { World.holding Tryz.prog os ⟨#[],#[],[]⟩ with heap:=((((World.holding Tryz.prog os ⟨#[],#[],[]⟩).heap.modify 4 (put bUk)).modify 5 (put bUl)).modify 3 (put bUm)) }
theorem bCa(os:Os):laidMet Tryz.prog Rows.topOneSidedUptoRow.laid ((aIb os).forCall (fun _ _=>0) ⟨#[],#[.agg #[.int .i64 0,.int .i64 0,.int .i64 0],.slice none 0 0,.slice none 0 0],[]⟩).memory:=
 laidMet_of_run' 8 (by kernel_rfl) (by kernel_rfl)
theorem reads(os:Os){H:Type}(enc:TypeId×Value→H): ∃places,DataW.whole enc Tryz.prog ((aIb os).forCall (fun _ _=>0) ⟨#[],#[.agg #[.int .i64 0,.int .i64 0,.int .i64 0],.slice none 0 0,.slice none 0 0],[]⟩).memory Tryz.f4.params.toList Rows.topOneSidedSpec.vars false (#[.agg #[.int .i64 0,.int .i64 0,.int .i64 0],.slice none 0 0,.slice none 0 0]:Array Value).toList 8=some ([.agg [.lit (.int .i64 0),.lit (.int .i64 0),.lit (.int .i64 0)],.nil,.nil],[],places):=
 ⟨[],by kernel_rfl⟩
theorem bB6{H:Type}(d:DataW H):1≤Rows.uptoBulk d:=by
 cases d with
 |lit l=>cases l<;>simp [Rows.uptoBulk]
 |_=>simp [Rows.uptoBulk]
theorem bB5{H:Type}(l:List (DataW H)):l.length≤Rows.uptoBulkAll l:=by
 induction l with
 |nil=>simp [Rows.uptoBulkAll]
 |cons x r ih=>have:=bB6 x;simp only [Rows.uptoBulkAll,List.length_cons];omega
theorem aWt{H:Type}{enc:TypeId×Value→H}{w:World}{t e:TypeId}{v:Value}{d:DataW H}{ps:List MemPlace}{xs:List AV}{n b0:Nat}{f:Bool}{r:Reach}(hu:Tryz.prog.underlying t=some (.slice e))(hv:Value.okWide Tryz.prog w r b0 t v)
 (hT:DataW.Trod enc Tryz.prog w 0 (fun _=>true) true t v d ps) (o:RV w Xno dZ v (.sl xs n f)):n≤Rows.uptoBulk d:=by
 obtain ⟨fuel,hf⟩:=hT;have hv':=bCu hu rfl hv;rcases DataW.trod_slice hu hf with ⟨hc,_⟩|⟨a,len,cap,elems,rest,m,_,hc,hx,_,_,_,hlen,_⟩
 ·
  have:v= .slice none 0 0:=by rw [hv'] at hc;simpa using hc
  subst this;cases o;exact Nat.zero_le _
 ·
  have:v= .slice (some a) len cap:=by rw [hv'] at hc;simpa using hc
  subst this;have hd:d= .slice (elems.map (·.1)) (rest.map (·.1)):=congrArg Prod.fst hx;subst hd;have:n=len:=by cases o<;>rfl
  have hb:=bB5 (elems.map (·.1));rw [List.length_map] at hb;simp only [Rows.uptoBulk];omega
set_option maxRecDepth 100000 in
theorem lifted(os:Os)(started:os.Started)(H:Type)(enc:TypeId×Value→H)(F:Stop.Interp):
 ReturnsInHanded {} Tryz.checked os 4 .any ((Rows.OpenSpec.upto Rows.topOneSidedSpec).preRow enc Tryz.prog Tryz.f4 Rows.topOneSidedUptoRow.domain false Rows.topOneSidedUptoRow.laid) (((Rows.OpenSpec.upto Rows.topOneSidedSpec).at F).post enc Tryz.prog Tryz.f4 false true false false):=by
 obtain ⟨places,hx⟩:=reads os enc
 refine returnsInHanded_of_row (C:=Tryz.checked) (s:=(Rows.OpenSpec.upto Rows.topOneSidedSpec)) own started (by kernel_rfl) Tryz.func4
  (witness_row_at (enc:=enc) (C:=Tryz.checked) false (aIb os) #[.agg #[.int .i64 0,.int .i64 0,.int .i64 0],.slice none 0 0,.slice none 0 0] rfl (by kernel_rfl) (by kernel_rfl) (by kernel_rfl)
   (OpenSpec.preRow_of_cond 8 hx (by kernel_rfl) (fun k hk=>by cases hk;kernel_rfl) (by kernel_rfl) (bCa os))) ?_
 intro W base args ds gs before hval0 hW _ hk0 _ hL _ _;have hval: ∀(j:Nat) t v,Tryz.f4.params[j]? =some t→args[j]? =some v→Value.okWide Tryz.prog W .any base t v:=hval0;have hW':=hW;obtain ⟨p,q,hA0,hV,rfl,hfz,hnd⟩:=hW;have hA:DataW.TrodAll enc Tryz.prog W 0 (fun _=>true) true Tryz.f4.params.toList args.toList ds p:=hA0;rw [Tryz.params4] at hA hval;have hlt:=hA.lt;obtain ⟨v0,vs0,d0,ds0,p0,q0,hargs,rfl,rfl,h0,r0⟩:=trodAll_cons hA;obtain ⟨v1,vs1,d1,ds1,p1,q1,rfl,rfl,rfl,h1,r1⟩:=trodAll_cons r0;obtain ⟨v2,vs2,d2,ds2,p2,q2,rfl,rfl,rfl,h2,r2⟩:=trodAll_cons r1;obtain ⟨rfl,rfl,rfl⟩:=trodAll_nil r2;obtain rfl:args= #[v0,v1,v2]:=by cases args;simp_all
 obtain ⟨rfl,rfl⟩:=trodVars_none hV;obtain ⟨a0,w0,o0⟩:=bUo Tryz.underlying23 (hval 0 23 v0 rfl rfl) h0 aVi;obtain ⟨a1,w1,o1⟩:=bQn Tryz.underlying27 rfl (hval 1 27 v1 rfl rfl) h1 (aOe jW (by decide) Tryz.underlying27 bJz bD0);replace o1:=o1 _ rfl;obtain ⟨a2,w2,o2⟩:=bQn Tryz.underlying53 rfl (hval 2 53 v2 rfl rfl) h2 (aOe nH (by decide) Tryz.underlying53 bH3 aD1);replace o2:=o2 _ rfl;have hk:=hk0 _ rfl;have hb:Rows.uptoBulkAll ([d0,d1,d2]++[])≤1048576:=of_decide_eq_true hk;simp only [List.append_nil,Rows.uptoBulkAll] at hb;have b1:a1.length≤1048576:=Nat.le_trans (aWt Tryz.underlying27 (hval 1 27 v1 rfl rfl) h1 o1) (by omega);have b2:a2.length≤1048576:=Nat.le_trans (aWt Tryz.underlying53 (hval 2 53 v2 rfl rfl) h2 o2) (by omega);refine (walk a0 a1 a2 w0 w1 w2 b1 b2 W v0 v1 v2 o0 o1 o2).mono fun e W' ⟨he,bel⟩=>?_;subst he;exact ⟨_,rfl,_,_,_,[],_,[],hW',trodAll_mk1 (shut_bool Tryz.underlying4 _),(trodAll_cons_mk (Below.trod laid (by kernel_rfl) (of_decide_eq_true (by kernel_rfl)) h0 bel (fun x hx=>hlt x (by simp [hx]))) (trodAll_cons_mk (Below.trod laid (by kernel_rfl) (of_decide_eq_true (by kernel_rfl)) h1 bel (fun x hx=>hlt x (by simp [hx]))) (trodAll_cons_mk (Below.trod laid (by kernel_rfl) (of_decide_eq_true (by kernel_rfl)) h2 bel (fun x hx=>hlt x (by simp [hx]))) trodAll_mk0))),rfl,bel.frame _,fun h=>by cases h⟩
def bUt:List Char:=[102,100,48,100,102,100,53,100,54,98,100,48,52,99,55,48,101,100,48,101,52,50,57,54,57,53,101,101,102,48,48,56,101,55,53,49,53,49,48,101,50,53,52,52,51,53,50,52,55,98,54,57,48,97,56,102,99,53,55,98,56,102,53,100].map Char.ofNat
def bHo:List Char:=[97,116,32,114,97,102,116,115,109,97,110,47,114,97,102,116,115,109,97,110,116,111,112,46,84,111,112,82,101,115,116,111,114,101,100,32,114,97,102,116,115,109,97,110,47,114,97,102,116,115,109,97,110,116,111,112,46,84,111,112,79,110,101,83,105,100,101,100,32,114,97,102,116,115,109,97,110,47,114,97,102,116,115,109,97,110,108,97,119,50,51,46,83,99,114,105,112,116,76,101,97,118,101,115,32,114,97,102,116,115,109,97,110,47,114,97,102,116,115,109,97,110,108,97,119,50,51,46,83,99,114,105,112,116,83,97,118,101,115,32,114,97,102,116,115,109,97,110,47,114,97,102,116,115,109,97,110,108,97,119,50,51,46,83,99,114,105,112,116,65,115,107,115,32,114,97,102,116,115,109,97,110,47,114,97,102,116,115,109,97,110,108,97,119,50,51,46,83,99,114,105,112,116,80,108,97,105,110].map Char.ofNat
theorem bEv:Tryz.pinned.checked.prog.initOrder=String.ofList ("harness".toList++Char.ofNat 32::(bUt++Char.ofNat 32::(vI++Char.ofNat 32::bHo))):=by kernel_rfl
theorem bmw:behindMainWord (wordsSigns Tryz.pinned.checked.prog.initOrder.toList)=vI::wordsSigns bHo:=by
 rw [bEv,String.toList_ofList];exact bI2 (by decide+kernel) (by decide+kernel)
theorem bS4:Tryz.pinned.checked.prog.mayEnter=true:=aSc bmw (by kernel_rfl) (by kernel_rfl) (by kernel_rfl)
theorem lif:(Rows.topOneSidedUptoRow.lifted==Tryz.pinned.checked.prog.liftsFinal)=true:=by rw [aN8 bmw];kernel_rfl
theorem mkk:(Tryz.pinned.checked.prog.make==some Rows.topOneSidedUptoRow.make)=true:=by rw [bG6 bmw];kernel_rfl
theorem closed:joinedFacts Tryz.pinned.checked.prog 4 Tryz.f4 (Rows.OpenSpec.upto Rows.topOneSidedSpec).bare Rows.topOneSidedUptoRow=true:=by
 unfold joinedFacts;rw [bS4,lif,mkk]
 kernel_rfl
theorem over:Rows.topOneSidedUptoRow.holds Tryz.pinned (Rows.OpenSpec.upto Rows.topOneSidedSpec):=
 OpenClaim.holds_of_cond 4 Tryz.f4 rfl rfl rfl rfl rfl rfl rfl ⟨rfl,rfl,rfl,rfl,rfl⟩ rfl rfl rfl rfl rfl (by kernel_rfl) Tryz.func4 closed
  (of_decide_eq_true (by kernel_rfl)) (by unfold Func.isWrapper;first|(rw [if_pos (by decide+kernel)];kernel_rfl)|(rw [if_neg (by decide+kernel)];exact ⟨rfl,rfl⟩))
  (fun os started H enc _ F=>by rw [OpenClaim.pre_eq_preRow];exact lifted os started H enc F)
theorem plain(f:FuncId)(fn:Func)(hf:Tryz.pinned.checked.prog.funcNamed "raftsman/raftsmantop.TopOneSided" =some f)(hfn:Tryz.pinned.checked.prog.funcs[f]? =some fn):
 true=Tryz.pinned.checked.prog.looks []∧ ∀(j:Nat) t,fn.params[j]? =some t→Tryz.pinned.checked.prog.wantsStandIn t=false:=by
 obtain rfl:f=4:=Option.some.inj ((show Tryz.prog.funcNamed "raftsman/raftsmantop.TopOneSided" =some 4 by kernel_rfl).symm.trans hf) |>.symm;obtain rfl:fn=Tryz.f4:=(Option.some.inj (Tryz.func4.symm.trans hfn)).symm;refine ⟨by kernel_rfl,fun j t ht=>?_⟩;rw [Tryz.params4] at ht;have:=Array.mem_of_getElem? ht;simp only [List.mem_toArray,List.mem_cons,List.not_mem_nil,or_false] at this;rcases this with rfl|rfl|rfl
 · exact (show Tryz.prog.wantsStandIn 23=false by kernel_rfl)
 · exact (show Tryz.prog.wantsStandIn 27=false by kernel_rfl)
 · exact (show Tryz.prog.wantsStandIn 53=false by kernel_rfl)
theorem proved:Rows.TopOneSidedUptoCardSaid:=
 Claim7.holds_tied_plain_at .later [] _ _ _ _ over (fun _ h=>by cases h) (by kernel_rfl) (fun _ h=>by cases h) topOneSidedUpto_row_tie rfl ⟨rfl,rfl⟩ (by kernel_rfl) rfl plain (by kernel_rfl)
#print axioms proved
end Go.Proofs.YtkdohhmacfoolaaGreatDoor.topOneSidedUpto
