/- Facts. No condition. -/
import Derived.Test.YtkdohhmacfoolaaGreatDoorPgAmG
set_option linter.unusedSimpArgs false
set_option linter.unusedVariables false
set_option maxRecDepth 4000
namespace Go.AM
open Go.RowKit
attribute [local semireducible] aR KN aF8 yP AIn AWp dR
theorem oR.app{lk:Bool}{H:aH}{xs ys xs' ys':List AV}(h:oR lk H xs ys)(h':oR lk H xs' ys'):oR lk H (xs++xs') (ys++ys'):=by
 induction h with
 |nil=>exact h'
 |cons h _ ih=>exact .cons h ih
section
variable {P:Program}{strict:Bool}{ops:Array Oper}{base i:Nat}{rest:List Oper}{K:St→Prop}{n:Nat}{t:Nat→AV}{H:aH}{d:Tmp}{op:Op}{ty:TypeId}{pos:String}{after:Array Edge}{r:AV}
theorem aR.callQC(hd:d<n){f:Operand}{args:Array Operand}{ats:Array TypeId}{g:FuncId}{args' cap:List AV}(hf:aval t f= .clo (.func g) [] cap)(hcap: ∀a,a∈cap→Data a)
 (hb:(P.funcs[g]?).any (fun fn=>fn.body.isSome&&fn.name != "runtime.NumGoroutine")=true) (hda: ∀H,oR true H (args.toList.map (aval t)) args')
 (hc:cE P g (args'++cap) r) (k:aR P strict ops base (i+1) rest K ⟨n,aF t d r,H⟩):
 aR P strict ops base i (⟨some d,.call { callee:= .value f,args:=args,argTypes:=ats },ty,pos,after,none⟩::rest) K ⟨n,t,H⟩:=by
 have hA: ∀H:aH,eK P g ([]++args.toList.map (aval t)++cap) H r H:=fun H=>by
  have:=eK.pure (H:=H) [] hc ((hda _).app (oR.data cap hcap));rw [List.nil_append]
  rwa [aEt] at this
 exact ⟨_,(⟨hd,g,[],cap,r,H,hf,hb,fun H _ _=>hA H,fun _=>rfl,hA H,rfl⟩:dR P strict ops (base+i) ⟨some d,.call { callee:= .value f,args:=args,argTypes:=ats },ty,pos,after,none⟩ ⟨n,t,H⟩ ⟨n,aF t d r,H⟩),k⟩
end
section
variable {P:Program}{ops:Array Oper}{base i:Nat}{rest:List Oper}{K:St→Prop}{n:Nat}{t:Nat→AV}{e:Nat→Ent}{N:Nat}{d:Tmp}{ty:TypeId}{pos:String}{after:Array Edge}{r:AV}
theorem aR.callM(hd:d<n){j:Nat}{y:Ent}{f:Operand}{args:Array Operand}{ats:Array TypeId}{g:FuncId}{args':List AV}(hf:aval t f= .clo (.func g) [] [])
 (hb:(P.funcs[g]?).any (fun fn=>fn.body.isSome&&fn.name != "runtime.NumGoroutine")=true) (ha:args.toList.map (aval t)=args')
 (hc:eK P g args' ⟨e,N⟩ r (aH.put ⟨e,N⟩ j y)) (k:aR P false ops base (i+1) rest K ⟨n,aF t d r,⟨upd e j y,N⟩⟩):
 aR P false ops base i (⟨some d,.call { callee:= .value f,args:=args,argTypes:=ats },ty,pos,after,none⟩::rest) K ⟨n,t,⟨e,N⟩⟩:=
 aR.call hd hf hb (by rw [List.nil_append,List.append_nil,ha];exact hc) k
def aA9{α:Type}(len:α→Nat)(k:Nat)(o:Option α):Option α:=o.bind fun x=>bif len x==k then some x else none
theorem zL{α:Type}{len:α→Nat}{k:Nat}{o:Option α}{x:α}(h:aA9 len k o=some x):o=some x:=by
 unfold aA9 at h
 cases o with
 |none=>cases h
 |some y=>
  simp only [Option.bind_some] at h
  cases c:len y==k with
  |true=>rw [c] at h;simpa using h
  |false=>rw [c] at h;cases h
theorem aAo{α:Type}{len:α→Nat}{k:Nat}{o:Option α}{x:α}(h:aA9 len k o=some x):len x=k:=by
 have h1:=zL h;subst h1;unfold aA9 at h;simp only [Option.bind_some] at h
 cases c:len x==k with
 |true=>simpa using c
 |false=>rw [c] at h;cases h
attribute [go_sem] beq_self_eq_true
theorem aVd(xs:List AV):(AV.agg xs).cells? =some xs:=rfl
theorem aVe(k:IntKind)(n:Int):(AV.v (.int k n)).cells? =some [.v (.int k n)]:=rfl
theorem aRz(b:Bool):(AV.v (.bool b)).cells? =some [.v (.bool b)]:=rfl
theorem bN7{fn:Fn}{cap:List AV}(h: ∀a,a∈cap→Data a):Data (.clo fn [] cap):= .clo _ _ _ (fun _ h=>by cases h) h
theorem aLk: ∀a,a∈([]:List AV)→Data a:=fun _ h=>by cases h
theorem sH{x:AV}{xs:List AV}(h:Data x)(h': ∀a,a∈xs→Data a): ∀a,a∈x::xs→Data a:=fun a ha=>by
 rcases List.mem_cons.1 ha with rfl|ha
 · exact h
 · exact h' a ha
end
section
variable {P:Program}{H:aH}{ρ:Operand→AV}
theorem aCo{op:Op}{xs:Operand→AV}{r r':AV}(h:bJ P aH.empty xs op=some r)(hto: ∀H,ToD false H r r')(h0: ∀x,x∈op.operands→iW (xs x)=none):POp P op xs r':=by
 intro o w X ρ ho hX hρ;subst ho
 classical
 have hs:=Sim.start w X hX
 have h4:bJ P aH.empty (fun x=>if x∈o.op.operands then xs x else .any) o.op=some r:=by
  rw [←h];refine (aB6 (fun x hx=>by simp only [hx,if_true]) (fun x hx j hj=>?_)).symm;exact absurd (hj.symm.trans (h0 x hx)) (by simp)
 obtain ⟨v,h5,h6⟩:=aPl hs (ρ:=ρ) (ρa:=fun x=>if x∈o.op.operands then xs x else .any) (fun x=>by
  by_cases hx:x∈o.op.operands
  · simp only [hx,if_true];rw [aJz];exact hρ x hx
  · simp only [hx,if_false];exact .any _) h4
 refine ⟨v,w,h5,?_,Below.refl ..⟩;exact (hto _).sound hs (fun b i _ hm hx=>hm (.inl hx)) (fun _ id o i ho hx=>by cases ho) h6
theorem aYa{elem:TypeId}{x:Operand}{cs ys:List AV}(hx:(ρ x).cells? =some cs)(hd: ∀H,oR false H cs ys):POp P (.box elem x) ρ (.ptr ys):=by
 refine aNc (H1:=aH.empty.put 0 (.cells 1 cs 0)) (r:= .adr 0 0) rfl ?_ ?_
 · simp only [eZ,hx];first|done|rfl
 · refine .adr 0 0 1 cs ys 0 (by simp [aH.put,upd]) (fun h=>by cases h) (by rw [(hd aH.empty).length_eq];omega) (fun k a b ha hb=>?_);rw [Nat.zero_add] at ha;obtain ⟨a',h1,h2⟩:=(hd _).get k b hb;rw [ha] at h1;cases h1;exact h2
theorem aSs{x:Operand}{a:AV}(h:ρ x=a)(hd:Data a): ∀y,y∈(#[x]:Array Operand)→aRm (ρ y):=fun y hy=>by
 have:y=x:=by simpa using hy
 subst this;rw [h];exact bVq hd
theorem aTn{a:AV}(h:Data a):iW a=none:=by cases h<;>rfl
theorem bPo{x:Operand}{xt t el:TypeId}{g:GA}{i:TypeInfo}{l:List Int}{ok:Bool}(hu:P.underlying t=some (.slice el))(hi:P.info? t=some i)(hz:i.zero=some (.slice none 0 0))(hx:ρ x=g.av)(hv:bE8 t g=some (l,ok)):
 POp P (.typeAssert x xt t true) ρ (.tup [.sl (l.flatMap (ci .u64)) l.length false,.v (.bool ok)]):=by
 have h0: ∀y,y∈(Op.typeAssert x xt t true).operands→iW (ρ y)=none:=fun y hy=>by
  have:y=x:=by simpa [Op.operands] using hy
  subst this;rw [hx];exact aTn g.data
 unfold bE8 at hv
 by_cases q:g.ty=some t
 · rw [if_pos q] at hv;obtain ⟨y,h1,h2⟩:=map_some hv;cases h2;exact aCo (by show nD P (ρ x) t true=_;rw [hx,bNw h1];exact aB4 hu (by simp)) (fun H=> .data _ (.tup _ (sH ((CFi .u64).sl _ _ _) (sH (.v _) aLk)))) h0
 ·
  rw [if_neg q] at hv;cases hv;refine aCo (r:= .tup [constAV (.slice none 0 0),.v (.bool false)]) (by show nD P (ρ x) t true=_;rw [hx];exact vK hu (by simp) hi hz q) (fun H=> .tup _ _ rfl (fun k a b ha hb=>?_)) h0
  match k,ha,hb with
  |0,ha,hb=>cases ha;cases hb;exact .nil _
  |1,ha,hb=>cases ha;cases hb;exact .data _ (.v _)
theorem bPn{x:Operand}{xt t el:TypeId}{g:GA}{i:TypeInfo}{l:List bG}{ok:Bool}(hu:P.underlying t=some (.slice el))(hi:P.info? t=some i)(hz:i.zero=some (.slice none 0 0))(hx:ρ x=g.av)(hv:bKu t g=some (l,ok)):
 POp P (.typeAssert x xt t true) ρ (.tup [.sl (l.flatMap iY) l.length false,.v (.bool ok)]):=by
 have h0: ∀y,y∈(Op.typeAssert x xt t true).operands→iW (ρ y)=none:=fun y hy=>by
  have:y=x:=by simpa [Op.operands] using hy
  subst this;rw [hx];exact aTn g.data
 unfold bKu at hv
 by_cases q:g.ty=some t
 · rw [if_pos q] at hv;obtain ⟨y,h1,h2⟩:=map_some hv;cases h2;exact aCo (by show nD P (ρ x) t true=_;rw [hx,bNu h1];exact aB4 hu (by simp)) (fun H=> .data _ (.tup _ (sH (aGi.sl _ _ _) (sH (.v _) aLk)))) h0
 ·
  rw [if_neg q] at hv;cases hv;refine aCo (r:= .tup [constAV (.slice none 0 0),.v (.bool false)]) (by show nD P (ρ x) t true=_;rw [hx];exact vK hu (by simp) hi hz q) (fun H=> .tup _ _ rfl (fun k a b ha hb=>?_)) h0
  match k,ha,hb with
  |0,ha,hb=>cases ha;cases hb;exact .nil _
  |1,ha,hb=>cases ha;cases hb;exact .data _ (.v _)
theorem bWb{t el:TypeId}{x y:Operand}{ty:TypeId}{a:AV}{b:Bool}(hu:P.underlying t=some (.pointer el))(hx:ρ x=a)(ha:(b=true∧a= .v (.pointer none))∨(b=false∧ ∃xs,a= .ptr xs))(hy:ρ y= .v (.pointer none)):
 bJ P H ρ (.binOp .eql t x y ty)=some (.v (.bool b)):=by
 rcases ha with ⟨rfl,rfl⟩|⟨rfl,xs,rfl⟩<;>simp only [bJ,hx,hy,iI,hu]<;>rfl
theorem bWc{t el:TypeId}{x y:Operand}{ty:TypeId}{a:AV}{b:Bool}(hu:P.underlying t=some (.pointer el))(hx:ρ x=a)(ha:(b=true∧a= .v (.pointer none))∨(b=false∧ ∃xs,a= .ptr xs))(hy:ρ y= .v (.pointer none)):
 bJ P H ρ (.binOp .neq t x y ty)=some (.v (.bool (!b))):=by
 rcases ha with ⟨rfl,rfl⟩|⟨rfl,xs,rfl⟩<;>simp only [bJ,hx,hy,iI,hu]<;>rfl
theorem yR{x:Operand}{a:AV}{xs:List AV}(hx:ρ x=a)(ha:a= .ptr xs):bJ P H ρ (.nilCheck x)=some (.ptr xs):=by
 subst ha;simp only [bJ,hx]
end
end Go.AM
