/- Facts. No condition. -/
import Derived.Test.YtkdohhmacfoolaaGreatNqAmG
set_option linter.unusedSimpArgs false
set_option linter.unusedVariables false
set_option maxRecDepth 4000
namespace Go.AM
open Go.RowKit
attribute [local semireducible] aI KN aGl aAr AIn AWp gJ
theorem sV.app{lk:Bool}{H:aM}{xs ys xs' ys':List AV}(h:sV lk H xs ys)(h':sV lk H xs' ys'):sV lk H (xs++xs') (ys++ys'):=by
 induction h with
 |nil=>exact h'
 |cons h _ ih=>exact .cons h ih
section
variable {P:Program}{strict:Bool}{ops:Array Oper}{base i:Nat}{rest:List Oper}{K:St→Prop}{n:Nat}{t:Nat→AV}{H:aM}{d:Tmp}{op:Op}{ty:TypeId}{pos:String}{after:Array Edge}{r:AV}
theorem aI.callQC(hd:d<n){f:Operand}{args:Array Operand}{ats:Array TypeId}{g:FuncId}{args' cap:List AV}(hf:aval t f= .clo (.func g) [] cap)(hcap: ∀a,a∈cap→Data a)
 (hb:(P.funcs[g]?).any (fun fn=>fn.body.isSome&&fn.name != "runtime.NumGoroutine")=true) (hda: ∀H,sV true H (args.toList.map (aval t)) args')
 (hc:dT P g (args'++cap) r) (k:aI P strict ops base (i+1) rest K ⟨n,aG t d r,H⟩):
 aI P strict ops base i (⟨some d,.call { callee:= .value f,args:=args,argTypes:=ats },ty,pos,after,none⟩::rest) K ⟨n,t,H⟩:=by
 have hA: ∀H:aM,dR P g ([]++args.toList.map (aval t)++cap) H r H:=fun H=>by
  have:=dR.pure (H:=H) [] hc ((hda _).app (sV.data cap hcap));rw [List.nil_append]
  rwa [aD4] at this
 exact ⟨_,(⟨hd,g,[],cap,r,H,hf,hb,fun H _ _=>hA H,fun _=>rfl,hA H,rfl⟩:gJ P strict ops (base+i) ⟨some d,.call { callee:= .value f,args:=args,argTypes:=ats },ty,pos,after,none⟩ ⟨n,t,H⟩ ⟨n,aG t d r,H⟩),k⟩
theorem aI.callQCG(hd:d<n){j:Nat}{want b:Bool}{dj:Tmp}{f:Operand}{args:Array Operand}{ats:Array TypeId}{g:FuncId}{args' cap:List AV}
 (hj:(ops[j]?).bind (·.dst)=some dj) (hg:aD0 want (aval t (.tmp dj))=some b) (hf:b=true→aval t f= .clo (.func g) [] cap) (hcap: ∀a,a∈cap→Data a)
 (hb:(P.funcs[g]?).any (fun fn=>fn.body.isSome&&fn.name != "runtime.NumGoroutine")=true) (hda:b=true→ ∀H,sV true H (args.toList.map (aval t)) args')
 (hc:b=true→dT P g (args'++cap) r)
 (k:aI P strict ops base (i+1) rest K ⟨n,aG t d (gd b r),H⟩):
 aI P strict ops base i (⟨some d,.call { callee:= .value f,args:=args,argTypes:=ats },ty,pos,after,some (j,want)⟩::rest) K ⟨n,t,H⟩:=by
 refine ⟨_,⟨hd,?_⟩,k⟩;have e:wF ops t ⟨some d,.call { callee:= .value f,args:=args,argTypes:=ats },ty,pos,after,some (j,want)⟩=some b:=by simp only [wF,hj,hg]
 simp only [e]
 cases b with
 |true=>
  have hA: ∀H:aM,dR P g ([]++args.toList.map (aval t)++cap) H r H:=fun H=>by
   have:=dR.pure (H:=H) [] (hc rfl) ((hda rfl _).app (sV.data cap hcap));rw [List.nil_append]
   rwa [aD4] at this
  exact ⟨g,[],cap,r,H,hf rfl,hb,fun H _ _=>hA H,fun _=>rfl,hA H,rfl⟩
 |false=>rfl
end
section
variable {P:Program}{ops:Array Oper}{base i:Nat}{rest:List Oper}{K:St→Prop}{n:Nat}{t:Nat→AV}{e:Nat→Ent}{N:Nat}{d:Tmp}{ty:TypeId}{pos:String}{after:Array Edge}{r:AV}
theorem aI.callM(hd:d<n){j:Nat}{y:Ent}{f:Operand}{args:Array Operand}{ats:Array TypeId}{g:FuncId}{args':List AV}(hf:aval t f= .clo (.func g) [] [])
 (hb:(P.funcs[g]?).any (fun fn=>fn.body.isSome&&fn.name != "runtime.NumGoroutine")=true) (ha:args.toList.map (aval t)=args')
 (hc:dR P g args' ⟨e,N⟩ r (aM.put ⟨e,N⟩ j y)) (k:aI P false ops base (i+1) rest K ⟨n,aG t d r,⟨upd e j y,N⟩⟩):
 aI P false ops base i (⟨some d,.call { callee:= .value f,args:=args,argTypes:=ats },ty,pos,after,none⟩::rest) K ⟨n,t,⟨e,N⟩⟩:=
 aI.call hd hf hb (by rw [List.nil_append,List.append_nil,ha];exact hc) k
def tM{α:Type}(len:α→Nat)(k:Nat)(o:Option α):Option α:=o.bind fun x=>bif len x==k then some x else none
theorem oU{α:Type}{len:α→Nat}{k:Nat}{o:Option α}{x:α}(h:tM len k o=some x):o=some x:=by
 unfold tM at h
 cases o with
 |none=>cases h
 |some y=>
  simp only [Option.bind_some] at h
  cases c:len y==k with
  |true=>rw [c] at h;simpa using h
  |false=>rw [c] at h;cases h
theorem pP{α:Type}{len:α→Nat}{k:Nat}{o:Option α}{x:α}(h:tM len k o=some x):len x=k:=by
 have h1:=oU h;subst h1;unfold tM at h;simp only [Option.bind_some] at h
 cases c:len x==k with
 |true=>simpa using c
 |false=>rw [c] at h;cases h
attribute [go_sem] beq_self_eq_true
theorem aVt(xs:List AV):(AV.agg xs).cells? =some xs:=rfl
theorem aVu(k:IntKind)(n:Int):(AV.v (.int k n)).cells? =some [.v (.int k n)]:=rfl
theorem aSv(b:Bool):(AV.v (.bool b)).cells? =some [.v (.bool b)]:=rfl
theorem bJe{fn:Fn}{cap:List AV}(h: ∀a,a∈cap→Data a):Data (.clo fn [] cap):= .clo _ _ _ (fun _ h=>by cases h) h
theorem aMc: ∀a,a∈([]:List AV)→Data a:=fun _ h=>by cases h
theorem zW{x:AV}{xs:List AV}(h:Data x)(h': ∀a,a∈xs→Data a): ∀a,a∈x::xs→Data a:=fun a ha=>by
 rcases List.mem_cons.1 ha with rfl|ha
 · exact h
 · exact h' a ha
end
section
variable {P:Program}{H:aM}{ρ:Operand→AV}
theorem aO8{op:Op}{xs:Operand→AV}{r r':AV}(h:cL P aM.empty xs op=some r)(hto: ∀H,ToD false H r r')(h0: ∀x,x∈op.operands→mW (xs x)=none):POp P op xs r':=by
 intro o w X ρ ho hX hρ;subst ho
 classical
 have hs:=Sim.start w X hX
 have h4:cL P aM.empty (fun x=>if x∈o.op.operands then xs x else .any) o.op=some r:=by
  rw [←h];refine (aCu (fun x hx=>by simp only [hx,if_true]) (fun x hx j hj=>?_)).symm;exact absurd (hj.symm.trans (h0 x hx)) (by simp)
 obtain ⟨v,h5,h6⟩:=aQc hs (ρ:=ρ) (ρa:=fun x=>if x∈o.op.operands then xs x else .any) (fun x=>by
  by_cases hx:x∈o.op.operands
  · simp only [hx,if_true];rw [aKz];exact hρ x hx
  · simp only [hx,if_false];exact .any _) h4
 refine ⟨v,w,h5,?_,Below.refl ..⟩;exact (hto _).sound hs (fun b i _ hm hx=>hm (.inl hx)) (fun _ id o i ho hx=>by cases ho) h6
theorem aYm{elem:TypeId}{x:Operand}{cs ys:List AV}(hx:(ρ x).cells? =some cs)(hd: ∀H,sV false H cs ys):POp P (.box elem x) ρ (.ptr ys):=by
 refine aO7 (H1:=aM.empty.put 0 (.cells 1 cs 0)) (r:= .adr 0 0) rfl ?_ ?_
 · simp only [kO,hx];first|done|rfl
 · refine .adr 0 0 1 cs ys 0 (by simp [aM.put,upd]) (fun h=>by cases h) (by rw [(hd aM.empty).length_eq];omega) (fun k a b ha hb=>?_);rw [Nat.zero_add] at ha;obtain ⟨a',h1,h2⟩:=(hd _).get k b hb;rw [ha] at h1;cases h1;exact h2
theorem aPm{x:Operand}{a:AV}(h:ρ x=a)(hd:Data a): ∀y,y∈(#[x]:Array Operand)→aN5 (ρ y):=fun y hy=>by
 have:y=x:=by simpa using hy
 subst this;rw [h];exact bHx hd
theorem aMl{x y:Operand}{a b:AV}(h:ρ x=a)(h':ρ y=b)(hd:Data a)(hd':Data b): ∀z,z∈(#[x,y]:Array Operand)→aN5 (ρ z):=fun z hz=>by
 have:z=x∨z=y:=by simpa using hz
 rcases this with rfl|rfl
 · rw [h];exact bHx hd
 · rw [h'];exact bHx hd'
theorem bGn{a:AV}(h:Data a):mW a=none:=by cases h<;>rfl
theorem aTo{x:Operand}{xt t el:TypeId}{g:GA}{i:TypeInfo}{l:List Int}{ok:Bool}(hu:P.underlying t=some (.slice el))(hi:P.info? t=some i)(hz:i.zero=some (.slice none 0 0))(hx:ρ x=g.av)(hv:aNp t g=some (l,ok)):
 POp P (.typeAssert x xt t true) ρ (.tup [.sl (l.flatMap (ci .u64)) l.length false,.v (.bool ok)]):=by
 have h0: ∀y,y∈(Op.typeAssert x xt t true).operands→mW (ρ y)=none:=fun y hy=>by
  have:y=x:=by simpa [Op.operands] using hy
  subst this;rw [hx];exact bGn g.data
 unfold aNp at hv
 by_cases q:g.ty=some t
 · rw [if_pos q] at hv;obtain ⟨y,h1,h2⟩:=map_some hv;cases h2;exact aO8 (by show qT P (ρ x) t true=_;rw [hx,bO0 h1];exact aFw hu (by simp)) (fun H=> .data _ (.tup _ (zW ((CFi .u64).sl _ _ _) (zW (.v _) aMc)))) h0
 ·
  rw [if_neg q] at hv;cases hv;refine aO8 (r:= .tup [constAV (.slice none 0 0),.v (.bool false)]) (by show qT P (ρ x) t true=_;rw [hx];exact aCo hu (by simp) hi hz q) (fun H=> .tup _ _ rfl (fun k a b ha hb=>?_)) h0
  match k,ha,hb with
  |0,ha,hb=>cases ha;cases hb;exact .nil _
  |1,ha,hb=>cases ha;cases hb;exact .data _ (.v _)
def aZu(P:Program)(xs ys:List AV):List Field→Option Bool
  |[]=>some true
  |f::fs=>if f.name= "_" then none else match P.underlying f.type,xs[f.offset]?,ys[f.offset]? with
    |some (.int _),some (.v (.int k a)),some (.v (.int k' b))=>if k=k' then (aZu P xs ys fs).map ((a==b)&& ·) else none
    |some .bool,some (.v (.bool a)),some (.v (.bool b))=>(aZu P xs ys fs).map ((a==b)&& ·)
    |_,_,_=>none
theorem aJm{w:World}{M:Nat→Nat→Prop}{O:Nat→OSt}{cs ds:Array Value}{xs ys:List AV}(hx:RV w M O (.agg cs) (.agg xs))(hy:RV w M O (.agg ds) (.agg ys))(d:Nat): ∀(fs:List Field) (b:Bool),aZu P xs ys fs=some b→(Op.eqFields (d+1) cs ds fs).run P w= .ok b w
 |[],b,h=>by cases h;rfl
 |f::fs,b,h=>by
  unfold aZu at h;split at h
  · cases h
  ·
   rename_i hn;split at h
   ·
    rename_i k0 k a k' a' hu h1 h2;split at h
    ·
     rename_i hk;subst hk;obtain ⟨b',hr,hb'⟩:=map_some h;subst hb';have ih:=aJm hx hy d fs b' hr
     have p1:(part f.type cs f.offset).run P w= .ok (.int k a) w:=by
      simp only [part,Sem.run_bind,vG hu,Result.andThen_ok,TypeDesc.isAgg,hx.aggAt h1];rfl
     have p2:(part f.type ds f.offset).run P w= .ok (.int k a') w:=by
      simp only [part,Sem.run_bind,vG hu,Result.andThen_ok,TypeDesc.isAgg,hy.aggAt h2];rfl
     simp only [Op.eqFields,ne_eq,hn,not_false_eq_true,if_true,Sem.run_bind,p1,p2,Result.andThen_ok,run_equalIn_int w d f.type k k0 a a' hu,Sem.run_ite]
     cases hb:(a==a') with
     |true=>simp [ih]
     |false=>simp
    · cases h
   ·
    rename_i a a' hu h1 h2;obtain ⟨b',hr,hb'⟩:=map_some h;subst hb';have ih:=aJm hx hy d fs b' hr
    have p1:(part f.type cs f.offset).run P w= .ok (.bool a) w:=by
     simp only [part,Sem.run_bind,vG hu,Result.andThen_ok,TypeDesc.isAgg,hx.aggAt h1];rfl
    have p2:(part f.type ds f.offset).run P w= .ok (.bool a') w:=by
     simp only [part,Sem.run_bind,vG hu,Result.andThen_ok,TypeDesc.isAgg,hy.aggAt h2];rfl
    simp only [Op.eqFields,ne_eq,hn,not_false_eq_true,if_true,Sem.run_bind,p1,p2,Result.andThen_ok,(run_equalIn_bool' w d f.type a a' hu),Sem.run_ite]
    cases hb:(a==a') with
    |true=>simp [ih]
    |false=>simp
   · cases h
theorem bGx{w:World}{M:Nat→Nat→Prop}{O:Nat→OSt}{v:Value}{xs:List AV}(h:RV w M O v (.agg xs)): ∃cs,v= .agg cs:=by cases h;exact ⟨_,rfl⟩
theorem bLs{x y:Operand}{t ty:TypeId}{fs:Array Field}{xs ys:List AV}{b:Bool}(ht:P.underlying t=some (.struct fs))(h1:P.stoodInHeld t=false)(hm:P.eqGuardType P.depth t=false)(hx:ρ x= .agg xs)(hy:ρ y= .agg ys)(hb:aZu P xs ys fs.toList=some b):
 POp P (.binOp .neq t x y ty) ρ (.v (.bool (!b))):=by
 intro o w X ρ' ho hX hρ;have r1:=hρ x (by simp [Op.operands]);rw [hx] at r1;have r2:=hρ y (by simp [Op.operands]);rw [hy] at r2;obtain ⟨cs,e1⟩:=bGx r1;obtain ⟨ds,e2⟩:=bGx r2;rw [e1] at r1;rw [e2] at r2;have hf:P.fieldsOf t=fs:=by simp [Program.fieldsOf,ht]
 have:=aJm r1 r2 9998 fs.toList b hb;refine ⟨.bool (!b),w,?_,.v _,Below.refl ..⟩;unfold execOp;rw [ho];simp only [e1,e2,Sem.run_bind,run_eqGuard_agg w _ t x y _ _ hm,Result.andThen_ok,run_neq_struct];rw [run_equalIn_agg w 9999 t cs ds (by rw [hf];exact ht) h1,hf,this];rfl
def aNo(g:GA)(t:TypeId)(k:IntKind)(n:Int):Option Bool:=if g.ty=some t then (aMf k t g).map (· ==n) else some false
theorem bVf{w:World}{M:Nat→Nat→Prop}{O:Nat→OSt}{v:Value}{g:GA}(h:RV w M O v g.av):(g.ty=none∧v= .nilIface)∨ ∃t x,g.ty=some t∧v= .iface t x∧ ∀k n,g.av= .ifc t (.v (.int k n))→x= .int k n:=by
 cases g with
 |nil=>exact .inl ⟨rfl,h.v_inv⟩
 |i t k n=>cases h with|ifc _ x _ h=>exact .inr ⟨t,x,rfl,rfl,fun k' n' e=>by cases e;exact h.v_inv⟩
 |s t z=>cases h with|ifc _ x _ h=>exact .inr ⟨t,x,rfl,rfl,fun k' n' e=>by cases e⟩
 |b t z=>cases h with|ifc _ x _ h=>exact .inr ⟨t,x,rfl,rfl,fun k' n' e=>by cases e⟩
 |lu t z=>cases h with|ifc _ x _ h=>exact .inr ⟨t,x,rfl,rfl,fun k' n' e=>by cases e⟩
 |lp t z=>cases h with|ifc _ x _ h=>exact .inr ⟨t,x,rfl,rfl,fun k' n' e=>by cases e⟩
theorem aV4{t:TypeId}{i:TypeInfo}(h:P.info? t=some i)(w:World):(typeInfo t).run P w= .ok i w:=by
 simp [typeInfo,h]
theorem aEp{x y:Operand}{t t' ty:TypeId}{k k':IntKind}{n:Int}{g:GA}{i:TypeInfo}{ms:Array (String×TypeId)}{b:Bool}(ht:P.underlying t=some (.interface ms))(hu:P.underlying t'=some (.int k'))(hi:P.info? t'=some i)(hc:i.comparable=true)
 (hx:ρ x=g.av) (hy:ρ y= .ifc t' (.v (.int k n))) (hv:aNo g t' k n=some b):POp P (.binOp .eql t x y ty) ρ (.v (.bool b)):=by
 intro o w X ρ' ho hX hρ;have r1:=hρ x (by simp [Op.operands]);rw [hx] at r1;have r2:=hρ y (by simp [Op.operands]);rw [hy] at r2
 have e2:ρ' y= .iface t' (.int k n):=by
  generalize ρ' y=v at r2;cases r2 with|ifc _ z _ h=>rw [h.v_inv]
 refine ⟨.bool b,w,?_,.v _,Below.refl ..⟩;unfold execOp;rw [ho];rcases bVf r1 with ⟨g1,e1⟩|⟨s,z,g1,e1,g2⟩
 ·
  unfold aNo at hv;rw [g1,if_neg (by simp)] at hv;cases hv
  have:(Op.equal t .nilIface (.iface t' (.int k n))).run P w= .ok false w:=by
   show (Op.equalIn (9999+1) t _ _).run P w=_;rw [Op.equalIn];simp [run_underlying ht]
  simp [e1,e2,eqGuard,binOp,this]
 ·
  unfold aNo at hv;rw [g1] at hv
  by_cases c:s=t'
  ·
   subst c;rw [if_pos rfl] at hv;obtain ⟨m,h1,h2⟩:=map_some hv;have e3:=g2 k m (aPh h1);subst e3
   have:(Op.equal t (.iface s (.int k m)) (.iface s (.int k n))).run P w= .ok (m==n) w:=by
    show (Op.equalIn (9999+1) t _ _).run P w=_;rw [Op.equalIn];simp only [Sem.run_bind,run_underlying ht,Result.andThen_ok,ne_eq,not_true_eq_false,if_false,aV4 hi,hc,Bool.not_true,Bool.false_eq_true];exact run_equalIn_int w 9998 s k k' m n hu
   rw [←h2];simp [e1,e2,eqGuard,binOp,this]
  ·
   rw [if_neg (fun q=>c (Option.some.inj q))] at hv;cases hv
   have:(Op.equal t (.iface s z) (.iface t' (.int k n))).run P w= .ok false w:=by
    show (Op.equalIn (9999+1) t _ _).run P w=_;rw [Op.equalIn];simp [run_underlying ht,c]
   simp [e1,e2,eqGuard,binOp,this]
theorem bUv{t el:TypeId}{x y:Operand}{ty:TypeId}{a:AV}{b:Bool}(hu:P.underlying t=some (.pointer el))(hx:ρ x=a)(ha:(b=true∧a= .v (.pointer none))∨(b=false∧ ∃xs,a= .ptr xs))(hy:ρ y= .v (.pointer none)):
 cL P H ρ (.binOp .eql t x y ty)=some (.v (.bool b)):=by
 rcases ha with ⟨rfl,rfl⟩|⟨rfl,xs,rfl⟩<;>simp only [cL,hx,hy,mG,hu]<;>rfl
theorem bUw{t el:TypeId}{x y:Operand}{ty:TypeId}{a:AV}{b:Bool}(hu:P.underlying t=some (.pointer el))(hx:ρ x=a)(ha:(b=true∧a= .v (.pointer none))∨(b=false∧ ∃xs,a= .ptr xs))(hy:ρ y= .v (.pointer none)):
 cL P H ρ (.binOp .neq t x y ty)=some (.v (.bool (!b))):=by
 rcases ha with ⟨rfl,rfl⟩|⟨rfl,xs,rfl⟩<;>simp only [cL,hx,hy,mG,hu]<;>rfl
theorem aAu{x:Operand}{a:AV}{xs:List AV}(hx:ρ x=a)(ha:a= .ptr xs):cL P H ρ (.nilCheck x)=some (.ptr xs):=by
 subst ha;simp only [cL,hx]
end
end Go.AM
