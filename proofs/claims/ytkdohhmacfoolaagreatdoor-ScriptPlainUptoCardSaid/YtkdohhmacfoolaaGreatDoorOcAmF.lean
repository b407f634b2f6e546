/- Facts. No condition. -/
import Derived.Test.YtkdohhmacfoolaaGreatDoorOcAmD
set_option linter.unusedVariables false
namespace Go.AM
open Go Go.RowKit
variable {P:Program}{B:Nat→Prop}
unseal aV AWp KN
def KC(P:Program)(B:Nat→Prop)(ops:Array Oper)(base i:Nat)(rest:List Oper)(K:St→Prop)(s:St):Prop:= ∃s',St.Le B s s'∧aV P false ops base i rest K s'
theorem aTo{C:Ctx}{ops:Array Oper}{base:Nat}{Q:Exit→Act→World→Prop}(l2:List Oper): ∀(l:List Oper) (i:Nat) (K:St→Prop) (s:St) (a:Act) (w:World),
 aV P false ops base i l K s→Real C s a w→(∀s' a' w',K s'→Real C s' a' w'→wpList P ops Q l2 a' w')→wpList P ops Q (l++l2) a w
 |[],i,K,s,a,w,h,hr,hQ=>hQ s a w h hr
 |o::rest,i,K,s,a,w,h,hr,hQ=>by
  obtain ⟨s',h1,h2⟩:=h;have:=uG (Q:=Q) h1 hr (K:=wpList P ops Q (rest++l2)) (fun a' w' hr'=>aTo l2 rest (i+1) K s' a' w' h2 hr' hQ);rw [List.cons_append];unfold wpList;split at this
  · rename_i hw;simp only [hw,if_true];exact .inl this
  · rename_i hw;simp only [hw];exact this
theorem AWp.regC(m j:Nat){id:Nat}{l:List Oper}{Q:Exit→St→Prop}{n N N':Nat}{f:Nat→AV}{e:Nat→Ent}(hN:N+m=N')
 (h:aV P false l.toArray N 0 (l.take j) (KC P B l.toArray N j (l.drop j) (KN Q N')) ⟨n,f,⟨e,N⟩⟩):AWp P B (.region id l.toArray false) Q ⟨n,f,⟨e,N⟩⟩:=by
 subst hN;intro C a w hb hr;refine wp_region_lit ?_
 have:=aTo (Q:=fun e a w=> ∃s',Real C s' a w∧Q e s') (l.drop j) (l.take j) 0 _ _ a w h hr (fun s' a' w' hK hr'=>by
  obtain ⟨s'',hle,hrun⟩:=hK;exact aGa (l.drop j) j _ s'' a' w' hrun (hle C a' w' hb hr') (fun s3 a3 w3 hK3 hr3=>⟨_,hr3.nxt _,hK3⟩))
 rw [List.take_append_drop] at this;exact this
theorem aV.cut{ops:Array Oper}{base i i':Nat}{rest:List Oper}{K:St→Prop}{s s':St}(hle:St.Le B s s')(h:aV P false ops base i' rest K s'):aV P false ops base i [] (KC P B ops base i' rest K) s:=⟨s',hle,h⟩
end Go.AM
