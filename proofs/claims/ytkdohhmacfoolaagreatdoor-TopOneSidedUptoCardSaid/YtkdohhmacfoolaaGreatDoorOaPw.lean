/- Facts. No condition. -/
import Derived.Test.YtkdohhmacfoolaaGreatDoorOaPt
import Derived.Test.YtkdohhmacfoolaaGreatDoorOaPl
set_option linter.unusedSimpArgs false
set_option linter.unusedVariables false
namespace Go.Pt
variable {l:List E}{n:Nat}
def Tch(l:List E)(i:Nat)(x y:Int):Prop:=l[i]? =some (x,y)∨l[i]? =some (y,x)
theorem Tch.symm{i:Nat}{x y:Int}(h:Tch l i x y):Tch l i y x:=h.elim .inr .inl
theorem Tch.lt{i:Nat}{x y:Int}(h:Tch l i x y):i<l.length:=by
 rcases h with h|h<;>exact (List.getElem?_eq_some_iff.1 h).1
theorem Tch.conn{i:Nat}{x y:Int}(h:Tch l i x y):bF l x y:=by
 rcases h with h|h
 · exact .one (List.mem_of_getElem? h)
 · exact .eno (List.mem_of_getElem? h)
def Br(l:List E)(u v:Int)(i:Nat):Prop:=i<l.length∧ ¬bF (l.eraseIdx i) u v
theorem aOc{i j:Nat}{e:E}(h:l[j]? =some e)(hij:j≠i):e∈l.eraseIdx i:=by
 rw [List.mem_eraseIdx_iff_getElem?];exact ⟨j,hij,h⟩
theorem Tch.conn_erase{i j:Nat}{x y:Int}(h:Tch l j x y)(hij:j≠i):bF (l.eraseIdx i) x y:=by
 rcases h with h|h
 · exact .one (aOc h hij)
 · exact .eno (aOc h hij)
theorem vK{i:Nat}{e:E}(h:l[i]? =some e):l.Perm (e::l.eraseIdx i):=by
 obtain ⟨hi,he⟩:=List.getElem?_eq_some_iff.1 h;rw [List.eraseIdx_eq_take_drop_succ];have:l=l.take i++e::l.drop (i+1):=by rw [←he,List.getElem_cons_drop,List.take_append_drop]
 exact (List.Perm.of_eq this).trans List.perm_middle
theorem aCj{i:Nat}{e:E}(h:l[i]? =some e)(x y:Int):bF l x y↔bF (e::l.eraseIdx i) x y:=kI (fun _=>(vK h).mem_iff) x y
theorem cU.bridge(hr:InR n l)(hf:cU n l){i:Nat}{x y:Int}(h:Tch l i x y): ¬bF (l.eraseIdx i) x y:=by
 rcases h with h|h
 · exact ((cU.cons (hr.perm (vK h))).1 (hf.perm (vK h))).2
 · exact fun c=>((cU.cons (hr.perm (vK h))).1 (hf.perm (vK h))).2 c.symm
theorem aM8{i:Nat}{x y:Int}(h:Tch l i x y){a b:Int}(hc:bF l a b):bF (l.eraseIdx i) a b∨(bF (l.eraseIdx i) a x∧bF (l.eraseIdx i) y b)∨(bF (l.eraseIdx i) a y∧bF (l.eraseIdx i) x b):=by
 rcases h with h|h
 · exact bF.cons_iff.1 ((aCj h _ _).1 hc)
 ·
  rcases bF.cons_iff.1 ((aCj h _ _).1 hc) with h|h|h
  · exact .inl h
  · exact .inr (.inr h)
  · exact .inr (.inl h)
theorem aNw(hr:InR n l)(hf:cU n l){x v y y':Int}{i j:Nat}(hi:Tch l i x y)(hj:Tch l j x y')(bi:Br l x v i)(bj:Br l x v j)(hc:bF l x v):i=j:=by
 refine Classical.byContradiction fun hij=>?_
 have hy:bF (l.eraseIdx i) y v:=by
  rcases aM8 hi hc with h|⟨_,h⟩|⟨h,_⟩
  · exact absurd h bi.2
  · exact h
  · exact absurd h (hf.bridge hr hi)
 have hxy':bF (l.eraseIdx i) x y':=hj.conn_erase (fun h=>hij h.symm)
 have hj': ∃k,Tch (l.eraseIdx i) k x y'∧ ∀a b,bF ((l.eraseIdx i).eraseIdx k) a b→bF (l.eraseIdx j) a b:=by
  by_cases hlt:j<i
  ·
   refine ⟨j,?_,fun a b h=>h.mono fun e he=>?_⟩
   ·
    rcases hj with h|h
    · exact .inl (by rw [List.getElem?_eraseIdx_of_lt hlt,h])
    · exact .inr (by rw [List.getElem?_eraseIdx_of_lt hlt,h])
   ·
    rw [List.mem_eraseIdx_iff_getElem?] at he⊢;obtain ⟨k,h1,h2⟩:=he;rw [List.getElem?_eraseIdx] at h2;split at h2
    · exact ⟨k,h1,h2⟩
    · exact ⟨k+1,by omega,h2⟩
  ·
   refine ⟨j-1,?_,fun a b h=>h.mono fun e he=>?_⟩
   ·
    have e:j-1+1=j:=by omega
    rcases hj with h|h
    · exact .inl (by rw [List.getElem?_eraseIdx_of_ge (by omega),e,h])
    · exact .inr (by rw [List.getElem?_eraseIdx_of_ge (by omega),e,h])
   ·
    rw [List.mem_eraseIdx_iff_getElem?] at he⊢;obtain ⟨k,h1,h2⟩:=he;rw [List.getElem?_eraseIdx] at h2;split at h2
    · exact ⟨k,by omega,h2⟩
    · exact ⟨k+1,by omega,h2⟩
 obtain ⟨k,hk,hsub⟩:=hj';have hxi:bF (l.eraseIdx j) x y:=hi.conn_erase hij;rcases aM8 hk hy with h|⟨_,h⟩|⟨_,h⟩
 · exact bj.2 (hxi.trans (hsub _ _ h))
 ·
  
  rename_i h0;exact hf.bridge hr hi (h0.mono fun e he=>List.mem_of_mem_eraseIdx he).symm
 · exact bj.2 (hsub _ _ h)
theorem aPb(hr:InR n l)(hf:cU n l){x v y:Int}{i:Nat}(hi:Tch l i x y)(bi:Br l x v i)(hc:bF l x v)(j:Nat):Br l y v j↔Br l x v j∧j≠i:=by
 have hy:bF (l.eraseIdx i) y v:=by
  rcases aM8 hi hc with h|⟨_,h⟩|⟨h,_⟩
  · exact absurd h bi.2
  · exact h
  · exact absurd h (hf.bridge hr hi)
 by_cases h:j=i
 · subst h;exact ⟨fun h=>absurd hy h.2,fun h=>absurd rfl h.2⟩
 · have hxy:bF (l.eraseIdx j) x y:=hi.conn_erase (fun k=>h k.symm);exact ⟨fun k=>⟨⟨k.1,fun c=>k.2 (hxy.symm.trans c)⟩,h⟩,fun k=>⟨k.1.1,fun c=>k.1.2 (hxy.trans c)⟩⟩
theorem bEb(hr:InR n l)(hf:cU n l){x v y:Int}{i:Nat}(hi:Tch l i x y)(bi: ¬Br l x v i)(j:Nat):Br l y v j↔Br l x v j∨j=i:=by
 have hx:bF (l.eraseIdx i) x v:=Classical.byContradiction fun c=>bi ⟨hi.lt,c⟩
 by_cases h:j=i
 · subst h;exact ⟨fun _=> .inr rfl,fun _=>⟨hi.lt,fun c=>hf.bridge hr hi (hx.trans c.symm)⟩⟩
 · have hxy:bF (l.eraseIdx j) x y:=hi.conn_erase (fun k=>h k.symm);exact ⟨fun k=> .inl ⟨k.1,fun c=>k.2 (hxy.symm.trans c)⟩,fun k=>(k.resolve_right h).elim fun k1 k2=>⟨k1,fun c=>k2 (hxy.trans c)⟩⟩
theorem aPa{v:Int}(j:Nat): ¬Br l v v j:=fun h=>h.2 (.refl _)
open Classical in
noncomputable def dep (l:List E) (u v:Int):Nat:=(List.range l.length).countP fun i=>decide (Br l u v i)
open Classical in
theorem bBm(hr:InR n l)(hf:cU n l){x v y:Int}{i:Nat}(hi:Tch l i x y)(bi:Br l x v i)(hc:bF l x v):dep l y v+1=dep l x v:=by
 unfold dep;rw [←aI3 (f:=fun i=>decide (Br l x v i)) (a:=i) List.nodup_range (List.mem_range.2 hi.lt) (by simpa using bi)];refine congrArg (· +1) (List.countP_congr fun k _=>?_);simp [aPb hr hf hi bi hc]
theorem bI5(l:List E)(u v:Int):dep l u v≤l.length:=by
 unfold dep;exact Nat.le_trans List.countP_le_length (by simp)
end Go.Pt
namespace Go.Pl
open Go Go.AM
variable {α β:Type}
theorem fT(l:List α)(k:Nat):idx l (k:Int)=l[k]? :=by simp [idx]
theorem vR{l:List α}{i:Int}{k:Nat}(h:i=k):idx l i=l[k]? :=by subst h;exact fT l k
theorem dH{l:List α}{k:Nat}(h:k<l.length):idx l (k:Int)=some l[k]:=by rw [fT];exact List.getElem?_eq_getElem h
theorem oN{l:List α}{k:Nat}(h:k<l.length)(x:α):stt l (k:Int) x=some (l.set k x):=by
 unfold stt;rw [if_pos ⟨by omega,by omega⟩];simp
theorem aQr{l:List α}{i:Int}{k:Nat}(hi:i=k)(h:k<l.length)(x:α):stt l i x=some (l.set k x):=by subst hi;exact oN h x
theorem wr1(k:Nat)(h:k<4611686018427387904):IntKind.i64.wrap ((k:Int)+1)=((k+1:Nat):Int):=by rw [bDr om om];omega
theorem wr0{n:Int}(h1: -4611686018427387904≤n)(h2:n≤4611686018427387904):IntKind.i64.wrap n=n:=bDr om om
theorem aA(x:α)(f:α→Option β):(some x).bind f=f x:=by cases h:f x<;>simp [h]
theorem bt{c:Bool}{x y:β}(h:c=true):(bif c then x else y)=x:=by subst h;simp
theorem bf{c:Bool}{x y:β}(h:c=false):(bif c then x else y)=y:=by subst h;simp
theorem gt'{b:Bool}{d:α}{o:Option α}(h:b=true):dT b d o=o:=by subst h;simp [dT]
theorem gf'{b:Bool}{d:α}{o:Option α}(h:b=false):dT b d o=some d:=by subst h;simp [dT]
theorem ck{b:Bool}(h:b=true):chk b=some ():=by subst h;simp [chk]
theorem aWa{b:Nat}{l xs:List α}(h:(l.length+xs.length)*b≤140737488355328):aP6 b l xs=some (l++xs):=by unfold aP6;rw [if_pos h]
theorem jH{l xs:List α}(h:l.length+xs.length≤4294967296):app l xs=some (l++xs):=by unfold app;rw [if_pos h]
theorem aVf{n:Int}(h:0≤n)(h':n≤4294967296)(z:α):mkc n n z=some (List.replicate n.toNat z):=by unfold mkc;rw [if_pos ⟨h,Int.le_refl _,h'⟩]
theorem aQ4{n c:Int}{k:Nat}(h:n=k)(hc:n≤c)(h':c≤4294967296)(z:α):mkc n c z=some (List.replicate k z):=by
 subst h;unfold mkc;rw [if_pos ⟨by omega,hc,h'⟩];simp
theorem aQl{l:List α}{lo hi:Int}{a b:Nat}(h1:lo=a)(h2:hi=b)(h3:a≤b)(h4:b≤l.length):slc l lo hi=some ((l.drop a).take (b-a)):=by
 subst h1;subst h2;unfold slc;rw [if_pos ⟨by omega,by omega,by omega⟩];simp
theorem aAk{l:List α}{lo:Int}{a:Nat}(h1:lo=a)(h4:a≤l.length):slc l lo (l.length:Int)=some (l.drop a):=by
 rw [aQl h1 rfl h4 (Nat.le_refl _)];congr 1;apply List.take_of_length_le;simp
theorem aQm{l:List α}{hi:Int}{b:Nat}(h2:hi=b)(h4:b≤l.length):slc l 0 hi=some (l.take b):=by
 have:=aQl (l:=l) (lo:=((0:Nat):Int)) (a:=0) rfl h2 (Nat.zero_le _) h4
 simpa using this
theorem gH{l:List α}{k:Nat}(h:k<l.length):l.drop k=l[k]::l.drop (k+1):=List.drop_eq_getElem_cons h
theorem sE{l:List α}{k:Nat}(h:k<l.length):l.take (k+1)=l.take k++[l[k]]:=by rw [List.take_add_one,List.getElem?_eq_getElem h];rfl
theorem aKb:(1000000000:Nat)<aZ:=by unfold aZ;decide
def tab(n:Int)(f:Int→Int):List Int:=(List.range n.toNat).map fun (k:Nat)=>f (k:Int)
theorem lN(n:Int)(f:Int→Int):(tab n f).length=n.toNat:=by simp [tab]
theorem aHl{n:Int}{f:Int→Int}{k:Nat}(h:(k:Int)<n):(tab n f)[k]? =some (f k):=by
 unfold tab;rw [List.getElem?_map,List.getElem?_range om];rfl
theorem sJ{n:Int}{f:Int→Int}{x:Int}(h0:0≤x)(h:x<n):idx (tab n f) x=some (f x):=by
 rw [vR (k:=x.toNat) om,aHl om];congr 2;omega
theorem bGm{n:Int}{f g:Int→Int}(h: ∀x,0≤x→x<n→f x=g x):tab n f=tab n g:=by
 unfold tab;apply List.map_congr_left;intro k hk;rw [List.mem_range] at hk;exact h k om om
theorem aPj{n:Int}{f:Int→Int}{p:List Int}(hl:p.length=n.toNat)(h: ∀k:Nat,(k:Int)<n→p[k]? =some (f k)):p=tab n f:=by
 apply List.ext_getElem?;intro k
 by_cases hk:k<p.length
 · rw [h k om,aHl om]
 · rw [List.getElem?_eq_none om,List.getElem?_eq_none (by rw [lN];omega)]
end Go.Pl
