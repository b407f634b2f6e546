/- Facts. No condition. -/
import Derived.Test.YtkdohhmacfoolaaGreatDoorPfAmG
set_option linter.unusedSimpArgs false
set_option linter.unusedVariables false
set_option maxRecDepth 4000
namespace Go.AM
open Go.RowKit
attribute [local semireducible] aR KN aFf yK AIn AWp dW
theorem oU.app{lk:Bool}{H:aG}{xs ys xs' ys':List AV}(h:oU lk H xs ys)(h':oU lk H xs' ys'):oU lk H (xs++xs') (ys++ys'):=by
 induction h with
 |nil=>exact h'
 |cons h _ ih=>exact .cons h ih
section
variable {P:Program}{strict:Bool}{ops:Array Oper}{base i:Nat}{rest:List Oper}{K:St→Prop}{n:Nat}{t:Nat→AV}{H:aG}{d:Tmp}{op:Op}{ty:TypeId}{pos:String}{after:Array Edge}{r:AV}
theorem aR.callQC(hd:d<n){f:Operand}{args:Array Operand}{ats:Array TypeId}{g:FuncId}{args' cap:List AV}(hf:aval t f= .clo (.func g) [] cap)(hcap: ∀a,a∈cap→Data a)
 (hb:(P.funcs[g]?).any (fun fn=>fn.body.isSome&&fn.name != "runtime.NumGoroutine")=true) (hda: ∀H,oU true H (args.toList.map (aval t)) args')
 (hc:bY P g (args'++cap) r) (k:aR P strict ops base (i+1) rest K ⟨n,aF t d r,H⟩):
 aR P strict ops base i (⟨some d,.call { callee:= .value f,args:=args,argTypes:=ats },ty,pos,after,none⟩::rest) K ⟨n,t,H⟩:=by
 have hA: ∀H:aG,eQ P g ([]++args.toList.map (aval t)++cap) H r H:=fun H=>by
  have:=eQ.pure (H:=H) [] hc ((hda _).app (oU.data cap hcap));rw [List.nil_append]
  rwa [aF0] at this
 exact ⟨_,(⟨hd,g,[],cap,r,H,hf,hb,fun H _ _=>hA H,fun _=>rfl,hA H,rfl⟩:dW P strict ops (base+i) ⟨some d,.call { callee:= .value f,args:=args,argTypes:=ats },ty,pos,after,none⟩ ⟨n,t,H⟩ ⟨n,aF t d r,H⟩),k⟩
end
section
variable {P:Program}{ops:Array Oper}{base i:Nat}{rest:List Oper}{K:St→Prop}{n:Nat}{t:Nat→AV}{e:Nat→Ent}{N:Nat}{d:Tmp}{ty:TypeId}{pos:String}{after:Array Edge}{r:AV}
theorem aR.callM(hd:d<n){j:Nat}{y:Ent}{f:Operand}{args:Array Operand}{ats:Array TypeId}{g:FuncId}{args':List AV}(hf:aval t f= .clo (.func g) [] [])
 (hb:(P.funcs[g]?).any (fun fn=>fn.body.isSome&&fn.name != "runtime.NumGoroutine")=true) (ha:args.toList.map (aval t)=args')
 (hc:eQ P g args' ⟨e,N⟩ r (aG.put ⟨e,N⟩ j y)) (k:aR P false ops base (i+1) rest K ⟨n,aF t d r,⟨upd e j y,N⟩⟩):
 aR P false ops base i (⟨some d,.call { callee:= .value f,args:=args,argTypes:=ats },ty,pos,after,none⟩::rest) K ⟨n,t,⟨e,N⟩⟩:=
 aR.call hd hf hb (by rw [List.nil_append,List.append_nil,ha];exact hc) k
def aAb{α:Type}(len:α→Nat)(k:Nat)(o:Option α):Option α:=o.bind fun x=>bif len x==k then some x else none
theorem zJ{α:Type}{len:α→Nat}{k:Nat}{o:Option α}{x:α}(h:aAb len k o=some x):o=some x:=by
 unfold aAb at h
 cases o with
 |none=>cases h
 |some y=>
  simp only [Option.bind_some] at h
  cases c:len y==k with
  |true=>rw [c] at h;simpa using h
  |false=>rw [c] at h;cases h
theorem aAr{α:Type}{len:α→Nat}{k:Nat}{o:Option α}{x:α}(h:aAb len k o=some x):len x=k:=by
 have h1:=zJ h;subst h1;unfold aAb at h;simp only [Option.bind_some] at h
 cases c:len x==k with
 |true=>simpa using c
 |false=>rw [c] at h;cases h
attribute [go_sem] beq_self_eq_true
theorem aVn(xs:List AV):(AV.agg xs).cells? =some xs:=rfl
theorem aVo(k:IntKind)(n:Int):(AV.v (.int k n)).cells? =some [.v (.int k n)]:=rfl
theorem aSe(b:Bool):(AV.v (.bool b)).cells? =some [.v (.bool b)]:=rfl
theorem bNx{fn:Fn}{cap:List AV}(h: ∀a,a∈cap→Data a):Data (.clo fn [] cap):= .clo _ _ _ (fun _ h=>by cases h) h
theorem aLv: ∀a,a∈([]:List AV)→Data a:=fun _ h=>by cases h
theorem sJ{x:AV}{xs:List AV}(h:Data x)(h': ∀a,a∈xs→Data a): ∀a,a∈x::xs→Data a:=fun a ha=>by
 rcases List.mem_cons.1 ha with rfl|ha
 · exact h
 · exact h' a ha
end
section
variable {P:Program}{H:aG}{ρ:Operand→AV}
theorem aCt{op:Op}{xs:Operand→AV}{r r':AV}(h:bK P aG.empty xs op=some r)(hto: ∀H,ToD false H r r')(h0: ∀x,x∈op.operands→iX (xs x)=none):POp P op xs r':=by
 intro o w X ρ ho hX hρ;subst ho
 classical
 have hs:=Sim.start w X hX
 have h4:bK P aG.empty (fun x=>if x∈o.op.operands then xs x else .any) o.op=some r:=by
  rw [←h];refine (aBd (fun x hx=>by simp only [hx,if_true]) (fun x hx j hj=>?_)).symm;exact absurd (hj.symm.trans (h0 x hx)) (by simp)
 obtain ⟨v,h5,h6⟩:=aPx hs (ρ:=ρ) (ρa:=fun x=>if x∈o.op.operands then xs x else .any) (fun x=>by
  by_cases hx:x∈o.op.operands
  · simp only [hx,if_true];rw [aKc];exact hρ x hx
  · simp only [hx,if_false];exact .any _) h4
 refine ⟨v,w,h5,?_,Below.refl ..⟩;exact (hto _).sound hs (fun b i _ hm hx=>hm (.inl hx)) (fun _ id o i ho hx=>by cases ho) h6
theorem aYn{elem:TypeId}{x:Operand}{cs ys:List AV}(hx:(ρ x).cells? =some cs)(hd: ∀H,oU false H cs ys):POp P (.box elem x) ρ (.ptr ys):=by
 refine aNj (H1:=aG.empty.put 0 (.cells 1 cs 0)) (r:= .adr 0 0) rfl ?_ ?_
 · simp only [fE,hx];first|done|rfl
 · refine .adr 0 0 1 cs ys 0 (by simp [aG.put,upd]) (fun h=>by cases h) (by rw [(hd aG.empty).length_eq];omega) (fun k a b ha hb=>?_);rw [Nat.zero_add] at ha;obtain ⟨a',h1,h2⟩:=(hd _).get k b hb;rw [ha] at h1;cases h1;exact h2
theorem aT5{x:Operand}{a:AV}(h:ρ x=a)(hd:Data a): ∀y,y∈(#[x]:Array Operand)→aPp (ρ y):=fun y hy=>by
 have:y=x:=by simpa using hy
 subst this;rw [h];exact bH5 hd
theorem bYj{x y:Operand}{a b:AV}(h:ρ x=a)(h':ρ y=b)(hd:Data a)(hd':Data b): ∀z,z∈(#[x,y]:Array Operand)→aPp (ρ z):=fun z hz=>by
 have:z=x∨z=y:=by simpa using hz
 rcases this with rfl|rfl
 · rw [h];exact bH5 hd
 · rw [h'];exact bH5 hd'
theorem aTz{a:AV}(h:Data a):iX a=none:=by cases h<;>rfl
theorem bQg{x:Operand}{xt t el:TypeId}{g:GA}{i:TypeInfo}{l:List Int}{ok:Bool}(hu:P.underlying t=some (.slice el))(hi:P.info? t=some i)(hz:i.zero=some (.slice none 0 0))(hx:ρ x=g.av)(hv:bLi t g=some (l,ok)):
 POp P (.typeAssert x xt t true) ρ (.tup [.sl (l.flatMap (ci .u64)) l.length false,.v (.bool ok)]):=by
 have h0: ∀y,y∈(Op.typeAssert x xt t true).operands→iX (ρ y)=none:=fun y hy=>by
  have:y=x:=by simpa [Op.operands] using hy
  subst this;rw [hx];exact aTz g.data
 unfold bLi at hv
 by_cases q:g.ty=some t
 · rw [if_pos q] at hv;obtain ⟨y,h1,h2⟩:=map_some hv;cases h2;exact aCt (by show nE P (ρ x) t true=_;rw [hx,bOo h1];exact aBb hu (by simp)) (fun H=> .data _ (.tup _ (sJ ((CFi .u64).sl _ _ _) (sJ (.v _) aLv)))) h0
 ·
  rw [if_neg q] at hv;cases hv;refine aCt (r:= .tup [constAV (.slice none 0 0),.v (.bool false)]) (by show nE P (ρ x) t true=_;rw [hx];exact vE hu (by simp) hi hz q) (fun H=> .tup _ _ rfl (fun k a b ha hb=>?_)) h0
  match k,ha,hb with
  |0,ha,hb=>cases ha;cases hb;exact .nil _
  |1,ha,hb=>cases ha;cases hb;exact .data _ (.v _)
theorem bQf{x:Operand}{xt t el:TypeId}{g:GA}{i:TypeInfo}{l:List bG}{ok:Bool}(hu:P.underlying t=some (.slice el))(hi:P.info? t=some i)(hz:i.zero=some (.slice none 0 0))(hx:ρ x=g.av)(hv:bOk t g=some (l,ok)):
 POp P (.typeAssert x xt t true) ρ (.tup [.sl (l.flatMap iZ) l.length false,.v (.bool ok)]):=by
 have h0: ∀y,y∈(Op.typeAssert x xt t true).operands→iX (ρ y)=none:=fun y hy=>by
  have:y=x:=by simpa [Op.operands] using hy
  subst this;rw [hx];exact aTz g.data
 unfold bOk at hv
 by_cases q:g.ty=some t
 · rw [if_pos q] at hv;obtain ⟨y,h1,h2⟩:=map_some hv;cases h2;exact aCt (by show nE P (ρ x) t true=_;rw [hx,bOm h1];exact aBb hu (by simp)) (fun H=> .data _ (.tup _ (sJ (aGq.sl _ _ _) (sJ (.v _) aLv)))) h0
 ·
  rw [if_neg q] at hv;cases hv;refine aCt (r:= .tup [constAV (.slice none 0 0),.v (.bool false)]) (by show nE P (ρ x) t true=_;rw [hx];exact vE hu (by simp) hi hz q) (fun H=> .tup _ _ rfl (fun k a b ha hb=>?_)) h0
  match k,ha,hb with
  |0,ha,hb=>cases ha;cases hb;exact .nil _
  |1,ha,hb=>cases ha;cases hb;exact .data _ (.v _)
def aZx(P:Program)(xs ys:List AV):List Field→Option Bool
  |[]=>some true
  |f::fs=>if f.name= "_" then none else match P.underlying f.type,xs[f.offset]?,ys[f.offset]? with
    |some (.int _),some (.v (.int k a)),some (.v (.int k' b))=>if k=k' then (aZx P xs ys fs).map ((a==b)&& ·) else none
    |some .bool,some (.v (.bool a)),some (.v (.bool b))=>(aZx P xs ys fs).map ((a==b)&& ·)
    |_,_,_=>none
theorem aIn{w:World}{M:Nat→Nat→Prop}{O:Nat→OSt}{cs ds:Array Value}{xs ys:List AV}(hx:RV w M O (.agg cs) (.agg xs))(hy:RV w M O (.agg ds) (.agg ys))(d:Nat): ∀(fs:List Field) (b:Bool),aZx P xs ys fs=some b→(Op.eqFields (d+1) cs ds fs).run P w= .ok b w
 |[],b,h=>by cases h;rfl
 |f::fs,b,h=>by
  unfold aZx at h;split at h
  · cases h
  ·
   rename_i hn;split at h
   ·
    rename_i k0 k a k' a' hu h1 h2;split at h
    ·
     rename_i hk;subst hk;obtain ⟨b',hr,hb'⟩:=map_some h;subst hb';have ih:=aIn hx hy d fs b' hr
     have p1:(part f.type cs f.offset).run P w= .ok (.int k a) w:=by
      simp only [part,Sem.run_bind,rT hu,Result.andThen_ok,TypeDesc.isAgg,hx.aggAt h1];rfl
     have p2:(part f.type ds f.offset).run P w= .ok (.int k a') w:=by
      simp only [part,Sem.run_bind,rT hu,Result.andThen_ok,TypeDesc.isAgg,hy.aggAt h2];rfl
     simp only [Op.eqFields,ne_eq,hn,not_false_eq_true,if_true,Sem.run_bind,p1,p2,Result.andThen_ok,run_equalIn_int w d f.type k k0 a a' hu,Sem.run_ite]
     cases hb:(a==a') with
     |true=>simp [ih]
     |false=>simp
    · cases h
   ·
    rename_i a a' hu h1 h2;obtain ⟨b',hr,hb'⟩:=map_some h;subst hb';have ih:=aIn hx hy d fs b' hr
    have p1:(part f.type cs f.offset).run P w= .ok (.bool a) w:=by
     simp only [part,Sem.run_bind,rT hu,Result.andThen_ok,TypeDesc.isAgg,hx.aggAt h1];rfl
    have p2:(part f.type ds f.offset).run P w= .ok (.bool a') w:=by
     simp only [part,Sem.run_bind,rT hu,Result.andThen_ok,TypeDesc.isAgg,hy.aggAt h2];rfl
    simp only [Op.eqFields,ne_eq,hn,not_false_eq_true,if_true,Sem.run_bind,p1,p2,Result.andThen_ok,(run_equalIn_bool' w d f.type a a' hu),Sem.run_ite]
    cases hb:(a==a') with
    |true=>simp [ih]
    |false=>simp
   · cases h
theorem bGe{w:World}{M:Nat→Nat→Prop}{O:Nat→OSt}{v:Value}{xs:List AV}(h:RV w M O v (.agg xs)): ∃cs,v= .agg cs:=by cases h;exact ⟨_,rfl⟩
theorem bLu{x y:Operand}{t ty:TypeId}{fs:Array Field}{xs ys:List AV}{b:Bool}(ht:P.underlying t=some (.struct fs))(h1:P.stoodInHeld t=false)(hm:P.eqGuardType P.depth t=false)(hx:ρ x= .agg xs)(hy:ρ y= .agg ys)(hb:aZx P xs ys fs.toList=some b):
 POp P (.binOp .neq t x y ty) ρ (.v (.bool (!b))):=by
 intro o w X ρ' ho hX hρ;have r1:=hρ x (by simp [Op.operands]);rw [hx] at r1;have r2:=hρ y (by simp [Op.operands]);rw [hy] at r2;obtain ⟨cs,e1⟩:=bGe r1;obtain ⟨ds,e2⟩:=bGe r2;rw [e1] at r1;rw [e2] at r2;have hf:P.fieldsOf t=fs:=by simp [Program.fieldsOf,ht]
 have:=aIn r1 r2 9998 fs.toList b hb;refine ⟨.bool (!b),w,?_,.v _,Below.refl ..⟩;unfold execOp;rw [ho];simp only [e1,e2,Sem.run_bind,run_eqGuard_agg w _ t x y _ _ hm,Result.andThen_ok,run_neq_struct];rw [run_equalIn_agg w 9999 t cs ds (by rw [hf];exact ht) h1,hf,this];rfl
theorem bX6{t el:TypeId}{x y:Operand}{ty:TypeId}{a:AV}{b:Bool}(hu:P.underlying t=some (.pointer el))(hx:ρ x=a)(ha:(b=true∧a= .v (.pointer none))∨(b=false∧ ∃xs,a= .ptr xs))(hy:ρ y= .v (.pointer none)):
 bK P H ρ (.binOp .eql t x y ty)=some (.v (.bool b)):=by
 rcases ha with ⟨rfl,rfl⟩|⟨rfl,xs,rfl⟩<;>simp only [bK,hx,hy,iI,hu]<;>rfl
theorem bX7{t el:TypeId}{x y:Operand}{ty:TypeId}{a:AV}{b:Bool}(hu:P.underlying t=some (.pointer el))(hx:ρ x=a)(ha:(b=true∧a= .v (.pointer none))∨(b=false∧ ∃xs,a= .ptr xs))(hy:ρ y= .v (.pointer none)):
 bK P H ρ (.binOp .neq t x y ty)=some (.v (.bool (!b))):=by
 rcases ha with ⟨rfl,rfl⟩|⟨rfl,xs,rfl⟩<;>simp only [bK,hx,hy,iI,hu]<;>rfl
theorem yN{x:Operand}{a:AV}{xs:List AV}(hx:ρ x=a)(ha:a= .ptr xs):bK P H ρ (.nilCheck x)=some (.ptr xs):=by
 subst ha;simp only [bK,hx]
end
end Go.AM
