/- Facts. No condition. -/
import Derived.Test.YtkdohhmacfoolaaGreatDoorOaRuS
import Derived.Shelf.Strings.Builder1
import Derived.Shelf.Small.Strs
import Derived.Shelf.Strconv.Itoa3
import Derived.Shelf.Strings.Search1
import Derived.Test.YtkdohhmacfoolaaGreatDoorProg
set_option linter.unusedVariables false
set_option linter.unusedSimpArgs false
set_option maxRecDepth 20000
set_option maxHeartbeats 1000000
namespace Go.Proofs.YtkdohhmacfoolaaGreatDoor
open Go.Proofs.Tryz Go Go.AM Go.Pl Go.Pt
def bar(e:aC):aC:=⟨e.U,e.V,0⟩
theorem bBo(l:List aC):en (l.map bar)=en l:=by unfold en;rw [List.map_map];rfl
theorem aU0: ∀ {l m:List aC},en l=en m→l.map bar=m.map bar
 |[],[],_=>rfl
 |[],b::m,h=>by simp [en] at h
 |a::l,[],h=>by simp [en] at h
 |a::l,b::m,h=>by
  rw [aB5,aB5,List.cons.injEq,Prod.mk.injEq] at h;rw [List.map_cons,List.map_cons,aU0 h.2];unfold bar;rw [h.1.1,h.1.2]
theorem aG8(l:List aC):(l.map bar).length=l.length:=List.length_map _
theorem bGe{n:Int}{e:aC}(h:okE n e=true):okE n (bar e)=true:=by
 rw [jC] at h ⊢; unfold bar;simp only;omega
theorem aQt{n:Int}{l:List aC}(h:trB n l=true):trB n (l.map bar)=true:=by
 rw [uM] at h⊢;refine ⟨h.1,h.2.1,⟨by rw [bBo];exact h.2.2.pw,fun e he=>?_⟩⟩;obtain ⟨x,hx,rfl⟩:=List.mem_map.1 he;exact bGe (h.2.2.ok x hx)
theorem aI7(u v:Int)(e:aC):fB u v (bar e)=fB u v e:=rfl
theorem aOb(a x:aC):nG (bar a) x=nG a x:=rfl
theorem uU.bar{l:List aC}{x:aC}{l':List aC}(h:uU l x l')(hx:bar x=x):uU (l.map bar) x (l'.map bar):=by
 obtain ⟨q,q1,q2,q3,q4⟩:=h;refine ⟨q,by rw [aG8];exact q1,?_,fun j e hj he=>?_,fun e he=>?_⟩
 · rw [q2,List.map_append,List.map_cons,List.map_take,List.map_drop,hx]
 · rw [List.getElem?_map] at he;obtain ⟨y,hy,rfl⟩:=Option.map_eq_some_iff.1 he;rw [aOb];exact q3 j y hj hy
 · rw [List.getElem?_map] at he;obtain ⟨y,hy,rfl⟩:=Option.map_eq_some_iff.1 he;rw [aOb];exact q4 y hy
theorem aPk(u v:Int): ∀(l:List aC) (i:Nat),fnd (fB u v) (l.map bar) i=fnd (fB u v) l i
 |[],_=>rfl
 |a::l,i=>by
  rw [List.map_cons,aL3,aL3,aI7,aPk u v l (i+1)]
theorem bEx{g:aE}{u v:Int}{r:aE×Int}{s:List aC×Int}(h:bHr g u v r)(k:aT9 g.Config.N (g.Edges.map bar) u v s):r.2=s.2∧s.1=r.1.Edges.map bar:=by
 rcases h with ⟨h1,rfl⟩|⟨h1,h2,rfl⟩|⟨h1,h2,⟨e,h3,h4⟩,rfl⟩|⟨h1,h2,h3,l',g2,h4,hg,h5,h6,rfl⟩<;>rcases k with ⟨k1,rfl⟩|⟨k1,k2,rfl⟩|⟨k1,k2,⟨f,k3,k4⟩,rfl⟩|⟨k1,k2,k3,y,k4,rfl⟩<;>first|(exfalso;contradiction)|skip
 · exact ⟨rfl,rfl⟩
 · exact ⟨rfl,rfl⟩
 · exact ⟨rfl,rfl⟩
 · have:=k3 (bar e) (List.mem_map.2 ⟨e,h3,rfl⟩);rw [aI7,h4] at this;cases this
 · obtain ⟨x,hx,rfl⟩:=List.mem_map.1 k3;have:=h3 x hx;rw [aI7,this] at k4;cases k4
 · have F:=h5.facts (gok hg.ok).gc (Int.le_refl _);have e1:=k4.uniq (h4.bar rfl);refine ⟨rfl,?_⟩;show y=g2.Edges.map bar;rw [e1];exact (aU0 F.al.e).symm
theorem bEm{g:aE}{u v:Int}{r:aE×Int}{s:List aC×Int}(h:bHq g u v r)(k:aTb g.Config.N (g.Edges.map bar) u v s):r.2=s.2∧s.1=r.1.Edges.map bar:=by
 unfold aTb at k;rw [aPk] at k;rcases h with ⟨h1,rfl⟩|⟨h1,h2,rfl⟩|⟨h1,i,g2,h2,hg,h5,h6,rfl⟩<;>rcases k with ⟨k1,rfl⟩|⟨k1,k2,rfl⟩|⟨k1,j,k2,rfl⟩<;>first|(exfalso;contradiction)|skip
 · exact ⟨rfl,rfl⟩
 · exact ⟨rfl,rfl⟩
 · rw [h2] at k2;cases k2
 · rw [h2] at k2;cases k2
 · rw [h2] at k2;cases k2;have F:=h5.facts (gok hg.ok).gc (Int.le_refl _);refine ⟨rfl,?_⟩;show (g.Edges.map bar).take i++(g.Edges.map bar).drop (i+1)=g2.Edges.map bar;rw [aU0 F.al.e,List.map_append,List.map_take,List.map_drop]
end Go.Proofs.YtkdohhmacfoolaaGreatDoor
namespace Go.Proofs
open Go.Shelf
def Tryz.lays169_ren:Go.Shelf.Ren:=⟨fun|169=>72|n=>n,fun|70=>131|9=>9|0=>0|72=>133|37=>91|127=>191|3=>3|5=>5|n=>n,fun|n=>n⟩
theorem Tryz.lays169:Go.Proofs.Lays.n169 prog Tryz.lays169_ren:= {
 mixed:=by kernel_rfl
 f169:=Tryz.func72.trans (congrArg some (by kernel_rfl))
 t0:=underlying0
 a0:=Tryz.isAgg0
 z0:=Tryz.sizeOf0
 v0:=Tryz.zeroValue0
 t3:=underlying3
 a3:=Tryz.isAgg3
 z3:=Tryz.sizeOf3
 v3:=Tryz.zeroValue3
 t9:=underlying9
 a9:=Tryz.isAgg9
 z9:=Tryz.sizeOf9
 v9:=Tryz.zeroValue9
 t37:=underlying91
 a37:=Tryz.isAgg91
 z37:=Tryz.sizeOf91
 v37:=Tryz.zeroValue91
 t70:=underlying131
 a70:=Tryz.isAgg131
 z70:=Tryz.sizeOf131
 v70:=Tryz.zeroValue131
 t72:=underlying133
 a72:=Tryz.isAgg133
 z72:=Tryz.sizeOf133
 v72:=Tryz.zeroValue133
 t127:=underlying191
 a127:=Tryz.isAgg191
 z127:=Tryz.sizeOf191
 v127:=Tryz.zeroValue191 }
theorem Tryz.Builder_Extra_169:Builder.Extra prog Tryz.lays169_ren:= {
 sizeBuilder:=by kernel_rfl
 liesBuilder:=by kernel_rfl
 t5:=underlying5
 a5:=Tryz.isAgg5
 z5:=Tryz.sizeOf5
 v5:=Tryz.zeroValue5
 infoByte:=by kernel_rfl
 cellsByte:=by kernel_rfl
 sizeByte:=by kernel_rfl
 neB5:=by decide }
open Go.RowKit in
theorem Tryz.Builder_String_any(B b:Nat)(l:List UInt8)(w:World)(h:Lib.IsBuilder 133 5 B b (Lib.byteCells l) w)(hBw:B≤w.heap.size):
 Calls prog 72 #[.pointer (some ⟨b,0,none⟩)] w fun e w'=>e= .returned (.string ⟨l.toArray⟩)∧Below B w w':=Any.Builder_String_any Tryz.lays169 Tryz.Builder_Extra_169 B b l w h hBw
def Tryz.lays171_ren:Go.Shelf.Ren:=⟨fun|171=>69|243=>116|246=>151|283=>187|284=>188|285=>189|286=>190|129=>203|317=>232|318=>233|319=>234|320=>235|337=>253|338=>254|n=>n,fun|3=>3|9=>9|2=>2|4=>4|171=>261|0=>0|53=>40|37=>91|5=>5|173=>264|212=>298|51=>277|20=>20|213=>299|46=>162|232=>316|233=>317|n=>n,fun|17=>3|18=>4|19=>5|n=>n⟩
theorem Tryz.lays171:Go.Proofs.Lays.n171 prog Tryz.lays171_ren:= {
 mixed:=by kernel_rfl
 f129:=Tryz.func203.trans (congrArg some (by kernel_rfl))
 f171:=Tryz.func69.trans (congrArg some (by kernel_rfl))
 f243:=Tryz.func116.trans (congrArg some (by kernel_rfl))
 f246:=Tryz.func151.trans (congrArg some (by kernel_rfl))
 f283:=Tryz.func187.trans (congrArg some (by kernel_rfl))
 f284:=Tryz.func188.trans (congrArg some (by kernel_rfl))
 f285:=Tryz.func189.trans (congrArg some (by kernel_rfl))
 f286:=Tryz.func190.trans (congrArg some (by kernel_rfl))
 f317:=Tryz.func232.trans (congrArg some (by kernel_rfl))
 f318:=Tryz.func233.trans (congrArg some (by kernel_rfl))
 f319:=Tryz.func234.trans (congrArg some (by kernel_rfl))
 f320:=Tryz.func235.trans (congrArg some (by kernel_rfl))
 f337:=Tryz.func253.trans (congrArg some (by kernel_rfl))
 f338:=Tryz.func254.trans (congrArg some (by kernel_rfl))
 t0:=underlying0
 a0:=Tryz.isAgg0
 z0:=Tryz.sizeOf0
 v0:=Tryz.zeroValue0
 t2:=underlying2
 a2:=Tryz.isAgg2
 z2:=Tryz.sizeOf2
 v2:=Tryz.zeroValue2
 t3:=underlying3
 a3:=Tryz.isAgg3
 z3:=Tryz.sizeOf3
 v3:=Tryz.zeroValue3
 t4:=underlying4
 a4:=Tryz.isAgg4
 z4:=Tryz.sizeOf4
 v4:=Tryz.zeroValue4
 t5:=underlying5
 a5:=Tryz.isAgg5
 z5:=Tryz.sizeOf5
 v5:=Tryz.zeroValue5
 t9:=underlying9
 a9:=Tryz.isAgg9
 z9:=Tryz.sizeOf9
 v9:=Tryz.zeroValue9
 t20:=underlying20
 a20:=Tryz.isAgg20
 z20:=Tryz.sizeOf20
 v20:=Tryz.zeroValue20
 t37:=underlying91
 a37:=Tryz.isAgg91
 z37:=Tryz.sizeOf91
 v37:=Tryz.zeroValue91
 t46:=underlying162
 a46:=Tryz.isAgg162
 z46:=Tryz.sizeOf162
 v46:=Tryz.zeroValue162
 t51:=underlying277
 a51:=Tryz.isAgg277
 z51:=Tryz.sizeOf277
 v51:=Tryz.zeroValue277
 t53:=underlying40
 a53:=Tryz.isAgg40
 z53:=Tryz.sizeOf40
 v53:=Tryz.zeroValue40
 t171:=underlying261
 a171:=Tryz.isAgg261
 z171:=Tryz.sizeOf261
 v171:=Tryz.zeroValue261
 t173:=underlying264
 a173:=Tryz.isAgg264
 z173:=Tryz.sizeOf264
 v173:=Tryz.zeroValue264
 t212:=underlying298
 a212:=Tryz.isAgg298
 z212:=Tryz.sizeOf298
 v212:=Tryz.zeroValue298
 t213:=underlying299
 a213:=Tryz.isAgg299
 z213:=Tryz.sizeOf299
 t232:=underlying316
 a232:=Tryz.isAgg316
 z232:=Tryz.sizeOf316
 v232:=Tryz.zeroValue316
 t233:=underlying317
 a233:=Tryz.isAgg317
 z233:=Tryz.sizeOf317
 v233:=Tryz.zeroValue317
 g17:=by kernel_rfl
 g18:=by kernel_rfl
 g19:=by kernel_rfl }
open Go.RowKit Go.Sort Go.Lib in
theorem Tryz.strconv_Itoa_small(i:Nat)(hi:i<100)(w:World):
 Calls prog 69 #[.int .i64 i] w fun e w'=>e= .returned (.string ⟨(Lib.decDigits i).toArray⟩)∧w'=w:=Any.strconv_Itoa_small Tryz.lays171 i hi w
end Go.Proofs
