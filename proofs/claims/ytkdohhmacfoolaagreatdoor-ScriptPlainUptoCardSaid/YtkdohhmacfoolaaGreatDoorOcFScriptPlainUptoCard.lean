/- The statement,from the law's plain function. No condition. -/
import Derived.Test.YtkdohhmacfoolaaGreatDoorOcAmH
import Derived.Test.YtkdohhmacfoolaaGreatDoorCards
import Derived.Test.YtkdohhmacfoolaaGreatDoorTie
import Derived.Deep.DeepHandedRow
import Derived.Lib.LaidTab
set_option linter.unusedVariables false
set_option linter.unusedSimpArgs false
set_option maxRecDepth 20000
namespace Go.Proofs.YtkdohhmacfoolaaGreatDoor.scriptPlainUpto
open Go Go.AM Go.ChangeShapes Go.WideShapes Go.ChangeAt Go.RowKit
theorem bWe:Tryz.prog.cellsOf 40=1:=by kernel_rfl
theorem own:ownKnob Tryz.prog.godebug=none:=by kernel_rfl
theorem laid:laidOutB Tryz.prog=true:=by kernel_rfl
theorem walk(a0:Int)(a1:List Int)(w0:(Lit.int .u8 a0).wf=true)(w1:(∀y,y∈a1→(Lit.int .u64 y).wf=true)∧a1.length≤maxLen)(b1:a1.length≤1048576)(w:World)(v0:Value)(v1:Value)(o0:RV w Xno fZ v0 (.v (.int .u8 a0)))(o1:RV w Xno fZ v1 (.sl (a1.flatMap (ci .u64)) a1.length false)):
 Calls Tryz.prog 8 #[v0,v1] w fun e w'=>e= .returned (.bool true)∧Below w.heap.size w w':=by
 refine (aFo (aOd a0 a1 w0 w1 b1) w Xno #[v0,v1] (fun _ _ h=>h.elim) ⟨rfl,fun k a h=>?_⟩).mono fun e w' he=>?_
 ·
  match k,h with
  |0,h=>cases h;exact o0
  |1,h=>cases h;exact o1
  |k+2,h=>cases h
 · obtain ⟨v,rfl,hv,hb⟩:=he;rw [hv.v_inv];exact ⟨rfl,hb⟩
def put(c:Array Value):Obj→Obj
  | .cells _ t z=> .cells c t z
  |o=>o
def bZw:Array Value:=([0,1,28,2,29,14,24,3,30,22,20,15,25,17,4,8,31,27,13,23,21,19,16,7,26,12,18,6,11,5,10,9]:List Int).toArray.map fun x=> .int .u8 x
def bZx:Array Value:=([0,1,56,2,57,49,28,3,61,58,42,50,38,29,17,4,62,47,59,36,45,43,51,22,53,39,33,30,24,18,12,5,63,55,48,27,60,41,37,16,46,35,44,21,52,32,23,11,54,26,40,15,34,20,31,10,25,14,19,9,13,8,7,6]:List Int).toArray.map fun x=> .int .u8 x
def bZy:Array Value:=([1,10,100,1000,10000,100000,1000000,10000000,100000000,1000000000,10000000000,100000000000,1000000000000,10000000000000,100000000000000,1000000000000000,10000000000000000,100000000000000000,1000000000000000000,10000000000000000000]:List Int).toArray.map fun x=> .int .u64 x
noncomputable def aJi (os:Os):World:= { World.holding Tryz.prog os ⟨#[],#[],[]⟩ with heap:=((((World.holding Tryz.prog os ⟨#[],#[],[]⟩).heap.modify 4 (put bZw)).modify 5 (put bZx)).modify 3 (put bZy)) }
theorem bFx(os:Os):laidMet Tryz.prog Rows.scriptPlainUptoRow.laid ((aJi os).forCall (fun _ _=>0) ⟨#[],#[.int .u8 0,.slice none 0 0],[]⟩).memory:=
 laidMet_of_run' 8 (by kernel_rfl) (by kernel_rfl)
theorem reads(os:Os){H:Type}(enc:TypeId×Value→H): ∃places,DataW.whole enc Tryz.prog ((aJi os).forCall (fun _ _=>0) ⟨#[],#[.int .u8 0,.slice none 0 0],[]⟩).memory Tryz.f8.params.toList Rows.scriptPlainSpec.vars false (#[.int .u8 0,.slice none 0 0]:Array Value).toList 8=some ([.lit (.int .u8 0),.nil],[],places):=
 ⟨[],by kernel_rfl⟩
theorem bEj{H:Type}(d:DataW H):1≤Rows.uptoBulk d:=by
 cases d with
 |lit l=>cases l<;>simp [Rows.uptoBulk]
 |_=>simp [Rows.uptoBulk]
theorem bEi{H:Type}(l:List (DataW H)):l.length≤Rows.uptoBulkAll l:=by
 induction l with
 |nil=>simp [Rows.uptoBulkAll]
 |cons x r ih=>have:=bEj x;simp only [Rows.uptoBulkAll,List.length_cons];omega
theorem bKq{H:Type}{enc:TypeId×Value→H}{w:World}{t e:TypeId}{v:Value}{d:DataW H}{ps:List MemPlace}{xs:List AV}{n b0:Nat}{f:Bool}{r:Reach}(hu:Tryz.prog.underlying t=some (.slice e))(hv:Value.okWide Tryz.prog w r b0 t v)
 (hT:DataW.Trod enc Tryz.prog w 0 (fun _=>true) true t v d ps) (o:RV w Xno fZ v (.sl xs n f)):n≤Rows.uptoBulk d:=by
 obtain ⟨fuel,hf⟩:=hT;have hv':=bGj hu rfl hv;rcases DataW.trod_slice hu hf with ⟨hc,_⟩|⟨a,len,cap,elems,rest,m,_,hc,hx,_,_,_,hlen,_⟩
 ·
  have:v= .slice none 0 0:=by rw [hv'] at hc;simpa using hc
  subst this;cases o;exact Nat.zero_le _
 ·
  have:v= .slice (some a) len cap:=by rw [hv'] at hc;simpa using hc
  subst this;have hd:d= .slice (elems.map (·.1)) (rest.map (·.1)):=congrArg Prod.fst hx;subst hd;have:n=len:=by cases o<;>rfl
  have hb:=bEi (elems.map (·.1));rw [List.length_map] at hb;simp only [Rows.uptoBulk];omega
set_option maxRecDepth 100000 in
theorem lifted(os:Os)(started:os.Started)(H:Type)(enc:TypeId×Value→H)(F:Stop.Interp):
 ReturnsInHanded {} Tryz.checked os 8 .any ((Rows.OpenSpec.upto Rows.scriptPlainSpec).preRow enc Tryz.prog Tryz.f8 Rows.scriptPlainUptoRow.domain false Rows.scriptPlainUptoRow.laid) (((Rows.OpenSpec.upto Rows.scriptPlainSpec).at F).post enc Tryz.prog Tryz.f8 false true false false):=by
 obtain ⟨places,hx⟩:=reads os enc
 refine returnsInHanded_of_row (C:=Tryz.checked) (s:=(Rows.OpenSpec.upto Rows.scriptPlainSpec)) own started (by kernel_rfl) Tryz.func8
  (witness_row_at (enc:=enc) (C:=Tryz.checked) false (aJi os) #[.int .u8 0,.slice none 0 0] rfl (by kernel_rfl) (by kernel_rfl) (by kernel_rfl)
   (OpenSpec.preRow_of_cond 8 hx (by kernel_rfl) (fun k hk=>by cases hk;kernel_rfl) (by kernel_rfl) (bFx os))) ?_
 intro W base args ds gs before hval0 hW _ hk0 _ hL _ _;have hval: ∀(j:Nat) t v,Tryz.f8.params[j]? =some t→args[j]? =some v→Value.okWide Tryz.prog W .any base t v:=hval0;have hW':=hW;obtain ⟨p,q,hA0,hV,rfl,hfz,hnd⟩:=hW;have hA:DataW.TrodAll enc Tryz.prog W 0 (fun _=>true) true Tryz.f8.params.toList args.toList ds p:=hA0;rw [Tryz.params8] at hA hval;have hlt:=hA.lt;obtain ⟨v0,vs0,d0,ds0,p0,q0,hargs,rfl,rfl,h0,r0⟩:=trodAll_cons hA;obtain ⟨v1,vs1,d1,ds1,p1,q1,rfl,rfl,rfl,h1,r1⟩:=trodAll_cons r0;obtain ⟨rfl,rfl,rfl⟩:=trodAll_nil r1;obtain rfl:args= #[v0,v1]:=by cases args;simp_all
 obtain ⟨rfl,rfl⟩:=trodVars_none hV;obtain ⟨a0,w0,o0⟩:=bVz Tryz.underlying5 rfl (hval 0 5 v0 rfl rfl) h0 (aZm Tryz.underlying5);replace o0:=o0 _ rfl;obtain ⟨a1,w1,o1⟩:=bVz Tryz.underlying24 rfl (hval 1 24 v1 rfl rfl) h1 (bD7 (CFi .u64) (by decide) Tryz.underlying24 bWe (aZm Tryz.underlying40));replace o1:=o1 _ rfl;have hk:=hk0 _ rfl;have hb:Rows.uptoBulkAll ([d0,d1]++[])≤1048576:=of_decide_eq_true hk;simp only [List.append_nil,Rows.uptoBulkAll] at hb;have b1:a1.length≤1048576:=Nat.le_trans (bKq Tryz.underlying24 (hval 1 24 v1 rfl rfl) h1 o1) (by omega);refine (walk a0 a1 w0 w1 b1 W v0 v1 o0 o1).mono fun e W' ⟨he,bel⟩=>?_;subst he;exact ⟨_,rfl,_,_,_,[],_,[],hW',trodAll_mk1 (shut_bool Tryz.underlying4 _),(trodAll_cons_mk (Below.trod laid (by kernel_rfl) (of_decide_eq_true (by kernel_rfl)) h0 bel (fun x hx=>hlt x (by simp [hx]))) (trodAll_cons_mk (Below.trod laid (by kernel_rfl) (of_decide_eq_true (by kernel_rfl)) h1 bel (fun x hx=>hlt x (by simp [hx]))) trodAll_mk0)),rfl,bel.frame _,fun h=>by cases h⟩
def cA5:List Char:=[102,100,48,100,102,100,53,100,54,98,100,48,52,99,55,48,101,100,48,101,52,50,57,54,57,53,101,101,102,48,48,56,101,55,53,49,53,49,48,101,50,53,52,52,51,53,50,52,55,98,54,57,48,97,56,102,99,53,55,98,56,102,53,100].map Char.ofNat
def bM6:List Char:=[97,116,32,114,97,102,116,115,109,97,110,47,114,97,102,116,115,109,97,110,116,111,112,46,84,111,112,82,101,115,116,111,114,101,100,32,114,97,102,116,115,109,97,110,47,114,97,102,116,115,109,97,110,116,111,112,46,84,111,112,79,110,101,83,105,100,101,100,32,114,97,102,116,115,109,97,110,47,114,97,102,116,115,109,97,110,108,97,119,50,51,46,83,99,114,105,112,116,76,101,97,118,101,115,32,114,97,102,116,115,109,97,110,47,114,97,102,116,115,109,97,110,108,97,119,50,51,46,83,99,114,105,112,116,83,97,118,101,115,32,114,97,102,116,115,109,97,110,47,114,97,102,116,115,109,97,110,108,97,119,50,51,46,83,99,114,105,112,116,65,115,107,115,32,114,97,102,116,115,109,97,110,47,114,97,102,116,115,109,97,110,108,97,119,50,51,46,83,99,114,105,112,116,80,108,97,105,110].map Char.ofNat
theorem bIz:Tryz.pinned.checked.prog.initOrder=String.ofList ("harness".toList++Char.ofNat 32::(cA5++Char.ofNat 32::(yN++Char.ofNat 32::bM6))):=by kernel_rfl
theorem bmw:behindMainWord (wordsSigns Tryz.pinned.checked.prog.initOrder.toList)=yN::wordsSigns bM6:=by
 rw [bIz,String.toList_ofList];exact bMj (by decide+kernel) (by decide+kernel)
theorem bXg:Tryz.pinned.checked.prog.mayEnter=true:=aUq bmw (by kernel_rfl) (by kernel_rfl) (by kernel_rfl)
theorem lif:(Rows.scriptPlainUptoRow.lifted==Tryz.pinned.checked.prog.liftsFinal)=true:=by rw [aOy bmw];kernel_rfl
theorem mkk:(Tryz.pinned.checked.prog.make==some Rows.scriptPlainUptoRow.make)=true:=by rw [bKc bmw];kernel_rfl
theorem closed:joinedFacts Tryz.pinned.checked.prog 8 Tryz.f8 (Rows.OpenSpec.upto Rows.scriptPlainSpec).bare Rows.scriptPlainUptoRow=true:=by
 unfold joinedFacts;rw [bXg,lif,mkk]
 kernel_rfl
theorem over:Rows.scriptPlainUptoRow.holds Tryz.pinned (Rows.OpenSpec.upto Rows.scriptPlainSpec):=
 OpenClaim.holds_of_cond 8 Tryz.f8 rfl rfl rfl rfl rfl rfl rfl ⟨rfl,rfl,rfl,rfl,rfl⟩ rfl rfl rfl rfl rfl (by kernel_rfl) Tryz.func8 closed
  (of_decide_eq_true (by kernel_rfl)) (by unfold Func.isWrapper;first|(rw [if_pos (by decide+kernel)];kernel_rfl)|(rw [if_neg (by decide+kernel)];exact ⟨rfl,rfl⟩))
  (fun os started H enc _ F=>by rw [OpenClaim.pre_eq_preRow];exact lifted os started H enc F)
theorem plain(f:FuncId)(fn:Func)(hf:Tryz.pinned.checked.prog.funcNamed "raftsman/raftsmanlaw23.ScriptPlain" =some f)(hfn:Tryz.pinned.checked.prog.funcs[f]? =some fn):
 true=Tryz.pinned.checked.prog.looks []∧ ∀(j:Nat) t,fn.params[j]? =some t→Tryz.pinned.checked.prog.wantsStandIn t=false:=by
 obtain rfl:f=8:=Option.some.inj ((show Tryz.prog.funcNamed "raftsman/raftsmanlaw23.ScriptPlain" =some 8 by kernel_rfl).symm.trans hf) |>.symm;obtain rfl:fn=Tryz.f8:=(Option.some.inj (Tryz.func8.symm.trans hfn)).symm;refine ⟨by kernel_rfl,fun j t ht=>?_⟩;rw [Tryz.params8] at ht;have:=Array.mem_of_getElem? ht;simp only [List.mem_toArray,List.mem_cons,List.not_mem_nil,or_false] at this;rcases this with rfl|rfl
 · exact (show Tryz.prog.wantsStandIn 5=false by kernel_rfl)
 · exact (show Tryz.prog.wantsStandIn 24=false by kernel_rfl)
theorem proved:Rows.ScriptPlainUptoCardSaid:=
 Claim7.holds_tied_plain_at .later [] _ _ _ _ over (fun _ h=>by cases h) (by kernel_rfl) (fun _ h=>by cases h) scriptPlainUpto_row_tie rfl ⟨rfl,rfl⟩ (by kernel_rfl) rfl plain (by kernel_rfl)
#print axioms proved
end Go.Proofs.YtkdohhmacfoolaaGreatDoor.scriptPlainUpto
