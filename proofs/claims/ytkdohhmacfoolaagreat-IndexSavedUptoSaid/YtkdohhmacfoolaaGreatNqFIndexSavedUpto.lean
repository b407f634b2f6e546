/- The statement,from the law's plain function. No condition. -/
import Derived.Test.YtkdohhmacfoolaaGreatNqIxD
import Derived.Test.YtkdohhmacfoolaaGreatNqAmH
set_option linter.unusedVariables false
set_option linter.unusedSimpArgs false
set_option maxRecDepth 20000
namespace Go.Proofs.YtkdohhmacfoolaaGreat.indexSavedUpto
open Go Go.AM Go.ChangeShapes Go.WideShapes Go.ChangeAt Go.RowKit
theorem co3:Tryz.prog.cellsOf 3=1:=by kernel_rfl
theorem co9:Tryz.prog.cellsOf 9=1:=by kernel_rfl
theorem cEr:Tryz.prog.cellsOf 23=3:=by kernel_rfl
theorem bV5:Tryz.prog.cellsOf 43=1:=by kernel_rfl
theorem bV6:Tryz.prog.cellsOf 45=4:=by kernel_rfl
def aVn(e:bZ):Prop:=((Lit.int .i64 e.N).wf=true)∧((Lit.int .i64 e.L).wf=true)∧((Lit.int .i64 e.R).wf=true)
theorem bG5{w:World} :Opn Tryz.prog w 23 aH6 aVn:=by
 intro H enc fuel cs x h;obtain ⟨_,_,_,_,hcl,_,_⟩:=DataW.trod_struct Tryz.underlying23 h;obtain ⟨n0,y0,h0⟩:=aAa Tryz.underlying23 h 0 _ rfl;obtain ⟨e0,w0,l0,r0⟩:=(aIg Tryz.underlying3) H enc n0 _ _ h0;obtain ⟨n1,y1,h1⟩:=aAa Tryz.underlying23 h 1 _ rfl;obtain ⟨e1,w1,l1,r1⟩:=(aIg Tryz.underlying3) H enc n1 _ _ h1;obtain ⟨n2,y2,h2⟩:=aAa Tryz.underlying23 h 2 _ rfl;obtain ⟨e2,w2,l2,r2⟩:=(aIg Tryz.underlying3) H enc n2 _ _ h2;refine ⟨⟨e0,e1,e2⟩,⟨w0,w1,w2⟩,hcl.trans cEr,fun k a hk=>?_⟩
 match k,hk with
 |0,hk=>
  have this:RV w Xno oM (((cs.drop 0).take (Tryz.prog.cellsOf 3)).getD 0 undef) a:=r0 0 a hk;rw [aCa (show 0<Tryz.prog.cellsOf 3 by rw [co3];decide)] at this;exact this
 |1,hk=>
  have this:RV w Xno oM (((cs.drop 1).take (Tryz.prog.cellsOf 3)).getD 0 undef) a:=r1 0 a hk;rw [aCa (show 0<Tryz.prog.cellsOf 3 by rw [co3];decide)] at this;exact this
 |2,hk=>
  have this:RV w Xno oM (((cs.drop 2).take (Tryz.prog.cellsOf 3)).getD 0 undef) a:=r2 0 a hk;rw [aCa (show 0<Tryz.prog.cellsOf 3 by rw [co3];decide)] at this;exact this
 |k+3,hk=>cases hk
def aDm(e:bK):Prop:=((Lit.int .i64 e.Do).wf=true)∧((Lit.int .u64 e.A).wf=true)∧((Lit.int .u64 e.B).wf=true)∧(e.Text.size≤maxLen)
theorem aHg{w:World} :Opn Tryz.prog w 45 fI aDm:=by
 intro H enc fuel cs x h;obtain ⟨_,_,_,_,hcl,_,_⟩:=DataW.trod_struct Tryz.underlying45 h;obtain ⟨n0,y0,h0⟩:=aAa Tryz.underlying45 h 0 _ rfl;obtain ⟨e0,w0,l0,r0⟩:=(aIg Tryz.underlying3) H enc n0 _ _ h0;obtain ⟨n1,y1,h1⟩:=aAa Tryz.underlying45 h 1 _ rfl;obtain ⟨e1,w1,l1,r1⟩:=(aIg Tryz.underlying43) H enc n1 _ _ h1;obtain ⟨n2,y2,h2⟩:=aAa Tryz.underlying45 h 2 _ rfl;obtain ⟨e2,w2,l2,r2⟩:=(aIg Tryz.underlying43) H enc n2 _ _ h2;obtain ⟨n3,y3,h3⟩:=aAa Tryz.underlying45 h 3 _ rfl;obtain ⟨e3,w3,l3,r3⟩:=(bI7 Tryz.underlying9) H enc n3 _ _ h3;refine ⟨⟨e0,e1,e2,e3⟩,⟨w0,w1,w2,w3⟩,hcl.trans bV6,fun k a hk=>?_⟩
 match k,hk with
 |0,hk=>
  have this:RV w Xno oM (((cs.drop 0).take (Tryz.prog.cellsOf 3)).getD 0 undef) a:=r0 0 a hk;rw [aCa (show 0<Tryz.prog.cellsOf 3 by rw [co3];decide)] at this;exact this
 |1,hk=>
  have this:RV w Xno oM (((cs.drop 1).take (Tryz.prog.cellsOf 43)).getD 0 undef) a:=r1 0 a hk;rw [aCa (show 0<Tryz.prog.cellsOf 43 by rw [bV5];decide)] at this;exact this
 |2,hk=>
  have this:RV w Xno oM (((cs.drop 2).take (Tryz.prog.cellsOf 43)).getD 0 undef) a:=r2 0 a hk;rw [aCa (show 0<Tryz.prog.cellsOf 43 by rw [bV5];decide)] at this;exact this
 |3,hk=>
  have this:RV w Xno oM (((cs.drop 3).take (Tryz.prog.cellsOf 9)).getD 0 undef) a:=r3 0 a hk;rw [aCa (show 0<Tryz.prog.cellsOf 9 by rw [co9];decide)] at this;exact this
 |k+4,hk=>cases hk
theorem own:ownKnob Tryz.prog.godebug=none:=by kernel_rfl
theorem laid:laidOutB Tryz.prog=true:=by kernel_rfl
theorem walk(a0:bZ)(a1:List Int)(a2:List bK)(a3:List bK)(a4:ByteArray)(w0:aVn a0)(w1:(∀y,y∈a1→(Lit.int .u64 y).wf=true)∧a1.length≤maxLen)(w2:(∀y,y∈a2→aDm y)∧a2.length≤maxLen)(w3:(∀y,y∈a3→aDm y)∧a3.length≤maxLen)(w4:a4.size≤maxLen)(b1:a1.length≤1048576)(b2:a2.length≤1048576)(b3:a3.length≤1048576)(w:World)(v0:Value)(v1:Value)(v2:Value)(v3:Value)(v4:Value)(o0:RV w Xno oM v0 (.agg (aH6 a0)))(o1:RV w Xno oM v1 (.sl (a1.flatMap (ci .u64)) a1.length false))(o2:RV w Xno oM v2 (.sl (a2.flatMap fI) a2.length false))(o3:RV w Xno oM v3 (.sl (a3.flatMap fI) a3.length false))(o4:RV w Xno oM v4 (.v (.string a4))):
 Calls Tryz.prog 6 #[v0,v1,v2,v3,v4] w fun e w'=>e= .returned (.bool true)∧Below w.heap.size w w':=by
 refine (aN4 (aX0 a0 a1 a2 a3 a4 w0 w1 w2 w3 w4 b1 b2 b3) w Xno #[v0,v1,v2,v3,v4] (fun _ _ h=>h.elim) ⟨rfl,fun k a h=>?_⟩).mono fun e w' he=>?_
 ·
  match k,h with
  |0,h=>cases h;exact o0
  |1,h=>cases h;exact o1
  |2,h=>cases h;exact o2
  |3,h=>cases h;exact o3
  |4,h=>cases h;exact o4
  |k+5,h=>cases h
 · obtain ⟨v,rfl,hv,hb⟩:=he;rw [hv.v_inv];exact ⟨rfl,hb⟩
theorem bMz{H:Type}(d:DataW H):1≤Rows.uptoBulk d:=by
 cases d with
 |lit l=>cases l<;>simp [Rows.uptoBulk]
 |_=>simp [Rows.uptoBulk]
theorem bMy{H:Type}(l:List (DataW H)):l.length≤Rows.uptoBulkAll l:=by
 induction l with
 |nil=>simp [Rows.uptoBulkAll]
 |cons x r ih=>have:=bMz x;simp only [Rows.uptoBulkAll,List.length_cons];omega
theorem aZ5{H:Type}{enc:TypeId×Value→H}{w:World}{t e:TypeId}{v:Value}{d:DataW H}{ps:List MemPlace}{xs:List AV}{n b0:Nat}{f:Bool}{r:Reach}(hu:Tryz.prog.underlying t=some (.slice e))(hv:Value.okWide Tryz.prog w r b0 t v)
 (hT:DataW.Trod enc Tryz.prog w 0 (fun _=>true) true t v d ps) (o:RV w Xno oM v (.sl xs n f)):n≤Rows.uptoBulk d:=by
 obtain ⟨fuel,hf⟩:=hT;have hv':=bP9 hu rfl hv;rcases DataW.trod_slice hu hf with ⟨hc,_⟩|⟨a,len,cap,elems,rest,m,_,hc,hx,_,_,_,hlen,_⟩
 ·
  have:v= .slice none 0 0:=by rw [hv'] at hc;simpa using hc
  subst this;cases o;exact Nat.zero_le _
 ·
  have:v= .slice (some a) len cap:=by rw [hv'] at hc;simpa using hc
  subst this;have hd:d= .slice (elems.map (·.1)) (rest.map (·.1)):=congrArg Prod.fst hx;subst hd;have:n=len:=by cases o<;>rfl
  have hb:=bMy (elems.map (·.1));rw [List.length_map] at hb;simp only [Rows.uptoBulk];omega
set_option maxRecDepth 100000 in
theorem lifted(os:Os)(started:os.Started)(H:Type)(enc:TypeId×Value→H)(F:Stop.Interp):
 ReturnsInHanded {} Tryz.checked os 6 .any ((Rows.OpenSpec.upto Rows.indexSavedSpec).pre6 enc Tryz.prog Tryz.f6 Rows.indexSavedUptoRow.domain false) (((Rows.OpenSpec.upto Rows.indexSavedSpec).at F).post enc Tryz.prog Tryz.f6 false true false false):=by
 refine returnsInHanded_of_cond (C:=Tryz.checked) (s:=(Rows.OpenSpec.upto Rows.indexSavedSpec)) (k:=Rows.uptoSmall) rfl own started (by kernel_rfl) Tryz.func6
  (OpenSpec.witness (enc:=enc) (C:=Tryz.checked) (s:=(Rows.OpenSpec.upto Rows.indexSavedSpec)) (k:=Rows.uptoSmall) rfl false ⟨#[],#[.agg #[.int .i64 0,.int .i64 0,.int .i64 0],.slice none 0 0,.slice none 0 0,.slice none 0 0,.string ByteArray.empty],[]⟩ 8 (by kernel_rfl) (by kernel_rfl) (by kernel_rfl)
   (x:=([.agg [.lit (.int .i64 0),.lit (.int .i64 0),.lit (.int .i64 0)],.nil,.nil,.nil,.lit (.string [])],[],[])) (by kernel_rfl) rfl (by kernel_rfl)) ?_
 intro W base args ds gs before hval0 hW _ hk _;have hval: ∀(j:Nat) t v,Tryz.f6.params[j]? =some t→args[j]? =some v→Value.okWide Tryz.prog W .any base t v:=hval0;have hW':=hW;obtain ⟨p,q,hA0,hV,rfl,hfz,hnd⟩:=hW;have hA:DataW.TrodAll enc Tryz.prog W 0 (fun _=>true) true Tryz.f6.params.toList args.toList ds p:=hA0;rw [Tryz.params6] at hA hval;have hlt:=hA.lt;obtain ⟨v0,vs0,d0,ds0,p0,q0,hargs,rfl,rfl,h0,r0⟩:=trodAll_cons hA;obtain ⟨v1,vs1,d1,ds1,p1,q1,rfl,rfl,rfl,h1,r1⟩:=trodAll_cons r0;obtain ⟨v2,vs2,d2,ds2,p2,q2,rfl,rfl,rfl,h2,r2⟩:=trodAll_cons r1;obtain ⟨v3,vs3,d3,ds3,p3,q3,rfl,rfl,rfl,h3,r3⟩:=trodAll_cons r2;obtain ⟨v4,vs4,d4,ds4,p4,q4,rfl,rfl,rfl,h4,r4⟩:=trodAll_cons r3;obtain ⟨rfl,rfl,rfl⟩:=trodAll_nil r4;obtain rfl:args= #[v0,v1,v2,v3,v4]:=by cases args;simp_all
 obtain ⟨rfl,rfl⟩:=trodVars_none hV;obtain ⟨a0,w0,o0⟩:=cI6 Tryz.underlying23 (hval 0 23 v0 rfl rfl) h0 bG5;obtain ⟨a1,w1,o1⟩:=bTk Tryz.underlying24 rfl (hval 1 24 v1 rfl rfl) h1 (aPn (CFi .u64) (by decide) Tryz.underlying24 bV5 (aIg Tryz.underlying43));replace o1:=o1 _ rfl;obtain ⟨a2,w2,o2⟩:=bTk Tryz.underlying25 rfl (hval 2 25 v2 rfl rfl) h2 (aPn uL (by decide) Tryz.underlying25 bV6 aHg);replace o2:=o2 _ rfl;obtain ⟨a3,w3,o3⟩:=bTk Tryz.underlying25 rfl (hval 3 25 v3 rfl rfl) h3 (aPn uL (by decide) Tryz.underlying25 bV6 aHg);replace o3:=o3 _ rfl;obtain ⟨a4,w4,o4⟩:=bTk Tryz.underlying9 rfl (hval 4 9 v4 rfl rfl) h4 (bI7 Tryz.underlying9);replace o4:=o4 _ rfl;have hb:Rows.uptoBulkAll ([d0,d1,d2,d3,d4]++[])≤1048576:=of_decide_eq_true hk;simp only [List.append_nil,Rows.uptoBulkAll] at hb;have b1:a1.length≤1048576:=Nat.le_trans (aZ5 Tryz.underlying24 (hval 1 24 v1 rfl rfl) h1 o1) (by omega);have b2:a2.length≤1048576:=Nat.le_trans (aZ5 Tryz.underlying25 (hval 2 25 v2 rfl rfl) h2 o2) (by omega);have b3:a3.length≤1048576:=Nat.le_trans (aZ5 Tryz.underlying25 (hval 3 25 v3 rfl rfl) h3 o3) (by omega);refine (walk a0 a1 a2 a3 a4 w0 w1 w2 w3 w4 b1 b2 b3 W v0 v1 v2 v3 v4 o0 o1 o2 o3 o4).mono fun e W' ⟨he,bel⟩=>?_;subst he;exact ⟨_,rfl,_,_,_,[],_,[],hW',trodAll_mk1 (shut_bool Tryz.underlying4 _),(trodAll_cons_mk (Below.trod laid (by kernel_rfl) (of_decide_eq_true (by kernel_rfl)) h0 bel (fun x hx=>hlt x (by simp [hx]))) (trodAll_cons_mk (Below.trod laid (by kernel_rfl) (of_decide_eq_true (by kernel_rfl)) h1 bel (fun x hx=>hlt x (by simp [hx]))) (trodAll_cons_mk (Below.trod laid (by kernel_rfl) (of_decide_eq_true (by kernel_rfl)) h2 bel (fun x hx=>hlt x (by simp [hx]))) (trodAll_cons_mk (Below.trod laid (by kernel_rfl) (of_decide_eq_true (by kernel_rfl)) h3 bel (fun x hx=>hlt x (by simp [hx]))) (trodAll_cons_mk (Below.trod laid (by kernel_rfl) (of_decide_eq_true (by kernel_rfl)) h4 bel (fun x hx=>hlt x (by simp [hx]))) trodAll_mk0))))),rfl,bel.frame _,fun h=>by cases h⟩
def cIb:List Char:=[56,102,102,54,51,49,54,102,48,100,97,54,98,52,98,51,54,53,98,54,56,54,51,97,98,99,97,50,97,99,52,56,100,102,51,57,54,48,53,52,55,97,49,53,99,51,54,97,57,54,101,57,99,54,57,48,100,55,51,101,51,52,53,51].map Char.ofNat
def bUp:List Char:=[97,116,32,114,97,102,116,115,109,97,110,47,114,97,102,116,115,109,97,110,108,97,119,50,49,46,73,110,100,101,120,84,101,108,108,115,32,114,97,102,116,115,109,97,110,47,114,97,102,116,115,109,97,110,108,97,119,50,49,46,73,110,100,101,120,78,101,119,32,114,97,102,116,115,109,97,110,47,114,97,102,116,115,109,97,110,108,97,119,50,49,46,73,110,100,101,120,79,110,101,32,114,97,102,116,115,109,97,110,47,114,97,102,116,115,109,97,110,108,97,119,50,49,46,73,110,100,101,120,83,97,118,101,100,32,114,97,102,116,115,109,97,110,47,114,97,102,116,115,109,97,110,108,97,119,50,49,46,73,110,100,101,120,76,101,97,118,101,115,32,114,97,102,116,115,109,97,110,47,114,97,102,116,115,109,97,110,108,97,119,50,49,46,73,110,100,101,120,78,101,97,114,32,114,97,102,116,115,109,97,110,47,114,97,102,116,115,109,97,110,108,97,119,50,49,46,73,110,100,101,120,67,108,97,115,115,101,115,32,114,97,102,116,115,109,97,110,47,114,97,102,116,115,109,97,110,108,97,119,50,49,46,73,110,100,101,120,65,117,100,105,116,32,114,97,102,116,115,109,97,110,47,114,97,102,116,115,109,97,110,108,97,119,50,49,46,73,110,100,101,120,77,117,115,116].map Char.ofNat
theorem bRa:Tryz.pinned.checked.prog.initOrder=String.ofList ("harness".toList++Char.ofNat 32::(cIb++Char.ofNat 32::(aF2++Char.ofNat 32::bUp))):=by kernel_rfl
theorem bmw:behindMainWord (wordsSigns Tryz.pinned.checked.prog.initOrder.toList)=aF2::wordsSigns bUp:=by
 rw [bRa,String.toList_ofList];exact bV2 (by decide+kernel) (by decide+kernel)
theorem cFn:Tryz.pinned.checked.prog.mayEnter=true:=bBd bmw (by kernel_rfl) (by kernel_rfl) (by kernel_rfl)
theorem lif:(Rows.indexSavedUptoRow.lifted==Tryz.pinned.checked.prog.liftsFinal)=true:=by rw [aV2 bmw];kernel_rfl
theorem mkk:(Tryz.pinned.checked.prog.make==some Rows.indexSavedUptoRow.make)=true:=by rw [bT2 bmw];kernel_rfl
theorem closed:joinedFacts Tryz.pinned.checked.prog 6 Tryz.f6 (Rows.OpenSpec.upto Rows.indexSavedSpec).bare Rows.indexSavedUptoRow=true:=by
 unfold joinedFacts;rw [cFn,lif,mkk]
 kernel_rfl
theorem over:Rows.indexSavedUptoRow.holds Tryz.pinned (Rows.OpenSpec.upto Rows.indexSavedSpec):=
 OpenClaim.holds_of_cond 6 Tryz.f6 rfl rfl rfl rfl rfl rfl rfl ⟨rfl,rfl,rfl,rfl,rfl⟩ rfl rfl rfl rfl rfl (by kernel_rfl) Tryz.func6 closed
  (of_decide_eq_true (by kernel_rfl)) (by unfold Func.isWrapper;first|(rw [if_pos (by decide+kernel)];kernel_rfl)|(rw [if_neg (by decide+kernel)];exact ⟨rfl,rfl⟩))
  (fun os started H enc _ F=>lifted os started H enc F)
theorem proved:Rows.IndexSavedUptoSaid:=over
#print axioms proved
end Go.Proofs.YtkdohhmacfoolaaGreat.indexSavedUpto
