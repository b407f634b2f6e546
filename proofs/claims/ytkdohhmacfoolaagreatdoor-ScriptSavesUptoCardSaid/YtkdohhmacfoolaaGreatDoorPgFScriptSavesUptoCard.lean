/- The statement,from the law's plain function. No condition. -/
import Derived.Test.YtkdohhmacfoolaaGreatDoorPgAmH
import Derived.Test.YtkdohhmacfoolaaGreatDoorCards
import Derived.Test.YtkdohhmacfoolaaGreatDoorTie
import Derived.Deep.DeepHandedRow
import Derived.Lib.LaidTab
set_option linter.unusedVariables false
set_option linter.unusedSimpArgs false
set_option maxRecDepth 20000
namespace Go.Proofs.YtkdohhmacfoolaaGreatDoor.scriptSavesUpto
open Go Go.AM Go.ChangeShapes Go.WideShapes Go.ChangeAt Go.RowKit
theorem co9:Tryz.prog.cellsOf 9=1:=by kernel_rfl
theorem cIa:Tryz.prog.cellsOf 40=1:=by kernel_rfl
theorem bZ2:Tryz.prog.cellsOf 69=1:=by kernel_rfl
theorem own:ownKnob Tryz.prog.godebug=none:=by kernel_rfl
theorem laid:laidOutB Tryz.prog=true:=by kernel_rfl
theorem tlx{P:Program}{x:String×DataW Unit}{r:List (String×DataW Unit)}{w:World}(h:laidMet P (x::r) w):laidMet P r w:=by
 obtain ⟨ps,hv,hnd,hrows⟩:=h;obtain ⟨n,d⟩:=x;obtain ⟨g,t,cs,fuel,p,q,_,_,_,_,hq,rfl⟩:=hv;exact ⟨q,hq,List.Nodup.sublist (List.sublist_append_right _ _) hnd,fun b off hm=>hrows b off (List.mem_append_right _ hm)⟩
theorem cHl:(Rows.laid_internal_strconv_uint64pow10:DataW Unit)=Lib.tabData .u64 Lib.pow10Tab:=by kernel_rfl
theorem bY9{W:World}(h:laidMet Tryz.prog Rows.scriptSavesUptoRow.laid W):Tab W:=by
 have h2:laidMet Tryz.prog [("internal/strconv.uint64pow10",Rows.laid_internal_strconv_uint64pow10)] W:=(tlx (tlx h))
 rw [cHl] at h2;have h3:=Lib.tabIs_of_head (g:=3) (t:=298) (e:=40) (n:=20) (by kernel_rfl) (by kernel_rfl) Tryz.underlying298 Tryz.underlying40 (by kernel_rfl) (by kernel_rfl) h2;unfold Lib.TabIs World.var? at h3;rw [show Tryz.prog.globalNamed "internal/strconv.uint64pow10" =some 3 by kernel_rfl,Option.bind_some] at h3
 have hp:(Lib.pow10Tab.map fun z=>Value.int .u64 z).toArray=((List.range 20).map fun (i:Nat)=>Value.int .u64 ((10^i:Nat):Int)).toArray:=by
  rw [Lib.pow10Tab,List.map_map];rfl
 rw [hp] at h3
 cases e:W.heap[(3:Nat)]? with
 |none=>rw [e] at h3;cases h3
 |some o=>
  rw [e] at h3
  cases o with
  |cells c t z=>injection h3 with h3;subst h3;exact ⟨t,z,e⟩
  |_=>cases h3
theorem walk(a0:List (List ByteArray))(a1:List (List ByteArray))(a2:List Int)(w0:(∀y,y∈a0→(∀z,z∈y→z.size≤maxLen)∧y.length≤maxLen)∧a0.length≤maxLen)(w1:(∀y,y∈a1→(∀z,z∈y→z.size≤maxLen)∧y.length≤maxLen)∧a1.length≤maxLen)(w2:(∀y,y∈a2→(Lit.int .u64 y).wf=true)∧a2.length≤maxLen)(b0:a0.length≤1048576)(b1:a1.length≤1048576)(b2:a2.length≤1048576)(w:World)(hT:Tab w)(v0:Value)(v1:Value)(v2:Value)(o0:RV w Xno jO v0 (.sl (a0.flatMap (csl kD)) a0.length false))(o1:RV w Xno jO v1 (.sl (a1.flatMap (csl kD)) a1.length false))(o2:RV w Xno jO v2 (.sl (a2.flatMap (ci .u64)) a2.length false)):
 Calls Tryz.prog 6 #[v0,v1,v2] w fun e w'=>e= .returned (.bool true)∧Below w.heap.size w w':=by
 refine (aKq (aTv a0 a1 a2 w0 w1 w2 b0 b1 b2) w Xno #[v0,v1,v2] ⟨fun _ _ h=>h.elim,hT⟩ ⟨rfl,fun k a h=>?_⟩).mono fun e w' he=>?_
 ·
  match k,h with
  |0,h=>cases h;exact o0
  |1,h=>cases h;exact o1
  |2,h=>cases h;exact o2
  |k+3,h=>cases h
 · obtain ⟨v,rfl,hv,hb⟩:=he;rw [hv.v_inv];exact ⟨rfl,hb⟩
def put(c:Array Value):Obj→Obj
  | .cells _ t z=> .cells c t z
  |o=>o
def cLt:Array Value:=([0,1,28,2,29,14,24,3,30,22,20,15,25,17,4,8,31,27,13,23,21,19,16,7,26,12,18,6,11,5,10,9]:List Int).toArray.map fun x=> .int .u8 x
def cLu:Array Value:=([0,1,56,2,57,49,28,3,61,58,42,50,38,29,17,4,62,47,59,36,45,43,51,22,53,39,33,30,24,18,12,5,63,55,48,27,60,41,37,16,46,35,44,21,52,32,23,11,54,26,40,15,34,20,31,10,25,14,19,9,13,8,7,6]:List Int).toArray.map fun x=> .int .u8 x
def cLv:Array Value:=([1,10,100,1000,10000,100000,1000000,10000000,100000000,1000000000,10000000000,100000000000,1000000000000,10000000000000,100000000000000,1000000000000000,10000000000000000,100000000000000000,1000000000000000000,10000000000000000000]:List Int).toArray.map fun x=> .int .u64 x
noncomputable def aOm (os:Os):World:= { World.holding Tryz.prog os ⟨#[],#[],[]⟩ with heap:=((((World.holding Tryz.prog os ⟨#[],#[],[]⟩).heap.modify 4 (put cLt)).modify 5 (put cLu)).modify 3 (put cLv)) }
theorem bOa(os:Os):laidMet Tryz.prog Rows.scriptSavesUptoRow.laid ((aOm os).forCall (fun _ _=>0) ⟨#[],#[.slice none 0 0,.slice none 0 0,.slice none 0 0],[]⟩).memory:=
 laidMet_of_run' 8 (by kernel_rfl) (by kernel_rfl)
theorem reads(os:Os){H:Type}(enc:TypeId×Value→H): ∃places,DataW.whole enc Tryz.prog ((aOm os).forCall (fun _ _=>0) ⟨#[],#[.slice none 0 0,.slice none 0 0,.slice none 0 0],[]⟩).memory Tryz.f6.params.toList Rows.scriptSavesSpec.vars false (#[.slice none 0 0,.slice none 0 0,.slice none 0 0]:Array Value).toList 8=some ([.nil,.nil,.nil],[],places):=
 ⟨[],by kernel_rfl⟩
theorem bMm{H:Type}(d:DataW H):1≤Rows.uptoBulk d:=by
 cases d with
 |lit l=>cases l<;>simp [Rows.uptoBulk]
 |_=>simp [Rows.uptoBulk]
theorem bMl{H:Type}(l:List (DataW H)):l.length≤Rows.uptoBulkAll l:=by
 induction l with
 |nil=>simp [Rows.uptoBulkAll]
 |cons x r ih=>have:=bMm x;simp only [Rows.uptoBulkAll,List.length_cons];omega
theorem aYq{H:Type}{enc:TypeId×Value→H}{w:World}{t e:TypeId}{v:Value}{d:DataW H}{ps:List MemPlace}{xs:List AV}{n b0:Nat}{f:Bool}{r:Reach}(hu:Tryz.prog.underlying t=some (.slice e))(hv:Value.okWide Tryz.prog w r b0 t v)
 (hT:DataW.Trod enc Tryz.prog w 0 (fun _=>true) true t v d ps) (o:RV w Xno jO v (.sl xs n f)):n≤Rows.uptoBulk d:=by
 obtain ⟨fuel,hf⟩:=hT;have hv':=bP7 hu rfl hv;rcases DataW.trod_slice hu hf with ⟨hc,_⟩|⟨a,len,cap,elems,rest,m,_,hc,hx,_,_,_,hlen,_⟩
 ·
  have:v= .slice none 0 0:=by rw [hv'] at hc;simpa using hc
  subst this;cases o;exact Nat.zero_le _
 ·
  have:v= .slice (some a) len cap:=by rw [hv'] at hc;simpa using hc
  subst this;have hd:d= .slice (elems.map (·.1)) (rest.map (·.1)):=congrArg Prod.fst hx;subst hd;have:n=len:=by cases o<;>rfl
  have hb:=bMl (elems.map (·.1));rw [List.length_map] at hb;simp only [Rows.uptoBulk];omega
set_option maxRecDepth 100000 in
theorem lifted(os:Os)(started:os.Started)(H:Type)(enc:TypeId×Value→H)(F:Stop.Interp):
 ReturnsInHanded {} Tryz.checked os 6 .any ((Rows.OpenSpec.upto Rows.scriptSavesSpec).preRow enc Tryz.prog Tryz.f6 Rows.scriptSavesUptoRow.domain false Rows.scriptSavesUptoRow.laid) (((Rows.OpenSpec.upto Rows.scriptSavesSpec).at F).post enc Tryz.prog Tryz.f6 false true false false):=by
 obtain ⟨places,hx⟩:=reads os enc
 refine returnsInHanded_of_row (C:=Tryz.checked) (s:=(Rows.OpenSpec.upto Rows.scriptSavesSpec)) own started (by kernel_rfl) Tryz.func6
  (witness_row_at (enc:=enc) (C:=Tryz.checked) false (aOm os) #[.slice none 0 0,.slice none 0 0,.slice none 0 0] rfl (by kernel_rfl) (by kernel_rfl) (by kernel_rfl)
   (OpenSpec.preRow_of_cond 8 hx (by kernel_rfl) (fun k hk=>by cases hk;kernel_rfl) (by kernel_rfl) (bOa os))) ?_
 intro W base args ds gs before hval0 hW _ hk0 _ hL _ _;have hval: ∀(j:Nat) t v,Tryz.f6.params[j]? =some t→args[j]? =some v→Value.okWide Tryz.prog W .any base t v:=hval0;have hW':=hW;obtain ⟨p,q,hA0,hV,rfl,hfz,hnd⟩:=hW;have hA:DataW.TrodAll enc Tryz.prog W 0 (fun _=>true) true Tryz.f6.params.toList args.toList ds p:=hA0;rw [Tryz.params6] at hA hval;have hlt:=hA.lt;obtain ⟨v0,vs0,d0,ds0,p0,q0,hargs,rfl,rfl,h0,r0⟩:=trodAll_cons hA;obtain ⟨v1,vs1,d1,ds1,p1,q1,rfl,rfl,rfl,h1,r1⟩:=trodAll_cons r0;obtain ⟨v2,vs2,d2,ds2,p2,q2,rfl,rfl,rfl,h2,r2⟩:=trodAll_cons r1;obtain ⟨rfl,rfl,rfl⟩:=trodAll_nil r2;obtain rfl:args= #[v0,v1,v2]:=by cases args;simp_all
 obtain ⟨rfl,rfl⟩:=trodVars_none hV;obtain ⟨a0,w0,o0⟩:=bYa Tryz.underlying65 rfl (hval 0 65 v0 rfl rfl) h0 (aGd (CFl CFs) (by decide) Tryz.underlying65 bZ2 (aGd CFs (by decide) Tryz.underlying69 co9 (bGs Tryz.underlying9)));replace o0:=o0 _ rfl;obtain ⟨a1,w1,o1⟩:=bYa Tryz.underlying65 rfl (hval 1 65 v1 rfl rfl) h1 (aGd (CFl CFs) (by decide) Tryz.underlying65 bZ2 (aGd CFs (by decide) Tryz.underlying69 co9 (bGs Tryz.underlying9)));replace o1:=o1 _ rfl;obtain ⟨a2,w2,o2⟩:=bYa Tryz.underlying24 rfl (hval 2 24 v2 rfl rfl) h2 (aGd (CFi .u64) (by decide) Tryz.underlying24 cIa (bUi Tryz.underlying40));replace o2:=o2 _ rfl;have hk:=hk0 _ rfl;have hb:Rows.uptoBulkAll ([d0,d1,d2]++[])≤1048576:=of_decide_eq_true hk;simp only [List.append_nil,Rows.uptoBulkAll] at hb;have b0:a0.length≤1048576:=Nat.le_trans (aYq Tryz.underlying65 (hval 0 65 v0 rfl rfl) h0 o0) (by omega);have b1:a1.length≤1048576:=Nat.le_trans (aYq Tryz.underlying65 (hval 1 65 v1 rfl rfl) h1 o1) (by omega);have b2:a2.length≤1048576:=Nat.le_trans (aYq Tryz.underlying24 (hval 2 24 v2 rfl rfl) h2 o2) (by omega);refine (walk a0 a1 a2 w0 w1 w2 b0 b1 b2 W (bY9 hL) v0 v1 v2 o0 o1 o2).mono fun e W' ⟨he,bel⟩=>?_;subst he;exact ⟨_,rfl,_,_,_,[],_,[],hW',trodAll_mk1 (shut_bool Tryz.underlying4 _),(trodAll_cons_mk (Below.trod laid (by kernel_rfl) (of_decide_eq_true (by kernel_rfl)) h0 bel (fun x hx=>hlt x (by simp [hx]))) (trodAll_cons_mk (Below.trod laid (by kernel_rfl) (of_decide_eq_true (by kernel_rfl)) h1 bel (fun x hx=>hlt x (by simp [hx]))) (trodAll_cons_mk (Below.trod laid (by kernel_rfl) (of_decide_eq_true (by kernel_rfl)) h2 bel (fun x hx=>hlt x (by simp [hx]))) trodAll_mk0))),rfl,bel.frame _,fun h=>by cases h⟩
def cM3:List Char:=[102,100,48,100,102,100,53,100,54,98,100,48,52,99,55,48,101,100,48,101,52,50,57,54,57,53,101,101,102,48,48,56,101,55,53,49,53,49,48,101,50,53,52,52,51,53,50,52,55,98,54,57,48,97,56,102,99,53,55,98,56,102,53,100].map Char.ofNat
def bW5:List Char:=[97,116,32,114,97,102,116,115,109,97,110,47,114,97,102,116,115,109,97,110,116,111,112,46,84,111,112,82,101,115,116,111,114,101,100,32,114,97,102,116,115,109,97,110,47,114,97,102,116,115,109,97,110,116,111,112,46,84,111,112,79,110,101,83,105,100,101,100,32,114,97,102,116,115,109,97,110,47,114,97,102,116,115,109,97,110,108,97,119,50,51,46,83,99,114,105,112,116,76,101,97,118,101,115,32,114,97,102,116,115,109,97,110,47,114,97,102,116,115,109,97,110,108,97,119,50,51,46,83,99,114,105,112,116,83,97,118,101,115,32,114,97,102,116,115,109,97,110,47,114,97,102,116,115,109,97,110,108,97,119,50,51,46,83,99,114,105,112,116,65,115,107,115,32,114,97,102,116,115,109,97,110,47,114,97,102,116,115,109,97,110,108,97,119,50,51,46,83,99,114,105,112,116,80,108,97,105,110].map Char.ofNat
theorem bSc:Tryz.pinned.checked.prog.initOrder=String.ofList ("harness".toList++Char.ofNat 32::(cM3++Char.ofNat 32::(aDg++Char.ofNat 32::bW5))):=by kernel_rfl
theorem bmw:behindMainWord (wordsSigns Tryz.pinned.checked.prog.initOrder.toList)=aDg::wordsSigns bW5:=by
 rw [bSc,String.toList_ofList];exact bWi (by decide+kernel) (by decide+kernel)
theorem cJc:Tryz.pinned.checked.prog.mayEnter=true:=bAs bmw (by kernel_rfl) (by kernel_rfl) (by kernel_rfl)
theorem lif:(Rows.scriptSavesUptoRow.lifted==Tryz.pinned.checked.prog.liftsFinal)=true:=by rw [aUj bmw];kernel_rfl
theorem mkk:(Tryz.pinned.checked.prog.make==some Rows.scriptSavesUptoRow.make)=true:=by rw [bU8 bmw];kernel_rfl
theorem closed:joinedFacts Tryz.pinned.checked.prog 6 Tryz.f6 (Rows.OpenSpec.upto Rows.scriptSavesSpec).bare Rows.scriptSavesUptoRow=true:=by
 unfold joinedFacts;rw [cJc,lif,mkk]
 kernel_rfl
theorem over:Rows.scriptSavesUptoRow.holds Tryz.pinned (Rows.OpenSpec.upto Rows.scriptSavesSpec):=
 OpenClaim.holds_of_cond 6 Tryz.f6 rfl rfl rfl rfl rfl rfl rfl ⟨rfl,rfl,rfl,rfl,rfl⟩ rfl rfl rfl rfl rfl (by kernel_rfl) Tryz.func6 closed
  (of_decide_eq_true (by kernel_rfl)) (by unfold Func.isWrapper;first|(rw [if_pos (by decide+kernel)];kernel_rfl)|(rw [if_neg (by decide+kernel)];exact ⟨rfl,rfl⟩))
  (fun os started H enc _ F=>by rw [OpenClaim.pre_eq_preRow];exact lifted os started H enc F)
theorem plain(f:FuncId)(fn:Func)(hf:Tryz.pinned.checked.prog.funcNamed "raftsman/raftsmanlaw23.ScriptSaves" =some f)(hfn:Tryz.pinned.checked.prog.funcs[f]? =some fn):
 true=Tryz.pinned.checked.prog.looks []∧ ∀(j:Nat) t,fn.params[j]? =some t→Tryz.pinned.checked.prog.wantsStandIn t=false:=by
 obtain rfl:f=6:=Option.some.inj ((show Tryz.prog.funcNamed "raftsman/raftsmanlaw23.ScriptSaves" =some 6 by kernel_rfl).symm.trans hf) |>.symm;obtain rfl:fn=Tryz.f6:=(Option.some.inj (Tryz.func6.symm.trans hfn)).symm;refine ⟨by kernel_rfl,fun j t ht=>?_⟩;rw [Tryz.params6] at ht;have:=Array.mem_of_getElem? ht;simp only [List.mem_toArray,List.mem_cons,List.not_mem_nil,or_false] at this;rcases this with rfl|rfl|rfl
 · exact (show Tryz.prog.wantsStandIn 65=false by kernel_rfl)
 · exact (show Tryz.prog.wantsStandIn 65=false by kernel_rfl)
 · exact (show Tryz.prog.wantsStandIn 24=false by kernel_rfl)
theorem proved:Rows.ScriptSavesUptoCardSaid:=
 Claim7.holds_tied_plain_at .later [] _ _ _ _ over (fun _ h=>by cases h) (by kernel_rfl) (fun _ h=>by cases h) scriptSavesUpto_row_tie rfl ⟨rfl,rfl⟩ (by kernel_rfl) rfl plain (by kernel_rfl)
#print axioms proved
end Go.Proofs.YtkdohhmacfoolaaGreatDoor.scriptSavesUpto
