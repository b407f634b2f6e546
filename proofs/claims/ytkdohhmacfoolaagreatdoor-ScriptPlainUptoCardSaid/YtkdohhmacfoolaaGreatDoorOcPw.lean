/- Facts. No condition. -/
import Derived.Test.YtkdohhmacfoolaaGreatDoorOcPt
set_option linter.unusedSimpArgs false
set_option linter.unusedVariables false
namespace Go.Pt
variable {l:List E}{n:Nat}
def Tch(l:List E)(i:Nat)(x y:Int):Prop:=l[i]? =some (x,y)∨l[i]? =some (y,x)
theorem Tch.symm{i:Nat}{x y:Int}(h:Tch l i x y):Tch l i y x:=h.elim .inr .inl
theorem Tch.lt{i:Nat}{x y:Int}(h:Tch l i x y):i<l.length:=by
 rcases h with h|h<;>exact (List.getElem?_eq_some_iff.1 h).1
theorem Tch.conn{i:Nat}{x y:Int}(h:Tch l i x y):bO l x y:=by
 rcases h with h|h
 · exact .one (List.mem_of_getElem? h)
 · exact .eno (List.mem_of_getElem? h)
def Br(l:List E)(u v:Int)(i:Nat):Prop:=i<l.length∧ ¬bO (l.eraseIdx i) u v
theorem aQ5{i j:Nat}{e:E}(h:l[j]? =some e)(hij:j≠i):e∈l.eraseIdx i:=by
 rw [List.mem_eraseIdx_iff_getElem?];exact ⟨j,hij,h⟩
theorem Tch.conn_erase{i j:Nat}{x y:Int}(h:Tch l j x y)(hij:j≠i):bO (l.eraseIdx i) x y:=by
 rcases h with h|h
 · exact .one (aQ5 h hij)
 · exact .eno (aQ5 h hij)
theorem yP{i:Nat}{e:E}(h:l[i]? =some e):l.Perm (e::l.eraseIdx i):=by
 obtain ⟨hi,he⟩:=List.getElem?_eq_some_iff.1 h;rw [List.eraseIdx_eq_take_drop_succ];have:l=l.take i++e::l.drop (i+1):=by rw [←he,List.getElem_cons_drop,List.take_append_drop]
 exact (List.Perm.of_eq this).trans List.perm_middle
theorem aDp{i:Nat}{e:E}(h:l[i]? =some e)(x y:Int):bO l x y↔bO (e::l.eraseIdx i) x y:=mZ (fun _=>(yP h).mem_iff) x y
theorem dC.bridge(hr:InR n l)(hf:dC n l){i:Nat}{x y:Int}(h:Tch l i x y): ¬bO (l.eraseIdx i) x y:=by
 rcases h with h|h
 · exact ((dC.cons (hr.perm (yP h))).1 (hf.perm (yP h))).2
 · exact fun c=>((dC.cons (hr.perm (yP h))).1 (hf.perm (yP h))).2 c.symm
theorem aNt{i:Nat}{x y:Int}(h:Tch l i x y){a b:Int}(hc:bO l a b):bO (l.eraseIdx i) a b∨(bO (l.eraseIdx i) a x∧bO (l.eraseIdx i) y b)∨(bO (l.eraseIdx i) a y∧bO (l.eraseIdx i) x b):=by
 rcases h with h|h
 · exact bO.cons_iff.1 ((aDp h _ _).1 hc)
 ·
  rcases bO.cons_iff.1 ((aDp h _ _).1 hc) with h|h|h
  · exact .inl h
  · exact .inr (.inr h)
  · exact .inr (.inl h)
theorem aPl(hr:InR n l)(hf:dC n l){x v y y':Int}{i j:Nat}(hi:Tch l i x y)(hj:Tch l j x y')(bi:Br l x v i)(bj:Br l x v j)(hc:bO l x v):i=j:=by
 refine Classical.byContradiction fun hij=>?_
 have hy:bO (l.eraseIdx i) y v:=by
  rcases aNt hi hc with h|⟨_,h⟩|⟨h,_⟩
  · exact absurd h bi.2
  · exact h
  · exact absurd h (hf.bridge hr hi)
 have hxy':bO (l.eraseIdx i) x y':=hj.conn_erase (fun h=>hij h.symm)
 have hj': ∃k,Tch (l.eraseIdx i) k x y'∧ ∀a b,bO ((l.eraseIdx i).eraseIdx k) a b→bO (l.eraseIdx j) a b:=by
  by_cases hlt:j<i
  ·
   refine ⟨j,?_,fun a b h=>h.mono fun e he=>?_⟩
   ·
    rcases hj with h|h
    · exact .inl (by rw [List.getElem?_eraseIdx_of_lt hlt,h])
    · exact .inr (by rw [List.getElem?_eraseIdx_of_lt hlt,h])
   ·
    rw [List.mem_eraseIdx_iff_getElem?] at he⊢;obtain ⟨k,h1,h2⟩:=he;rw [List.getElem?_eraseIdx] at h2;split at h2
    · exact ⟨k,h1,h2⟩
    · exact ⟨k+1,by omega,h2⟩
  ·
   refine ⟨j-1,?_,fun a b h=>h.mono fun e he=>?_⟩
   ·
    have e:j-1+1=j:=by omega
    rcases hj with h|h
    · exact .inl (by rw [List.getElem?_eraseIdx_of_ge (by omega),e,h])
    · exact .inr (by rw [List.getElem?_eraseIdx_of_ge (by omega),e,h])
   ·
    rw [List.mem_eraseIdx_iff_getElem?] at he⊢;obtain ⟨k,h1,h2⟩:=he;rw [List.getElem?_eraseIdx] at h2;split at h2
    · exact ⟨k,by omega,h2⟩
    · exact ⟨k+1,by omega,h2⟩
 obtain ⟨k,hk,hsub⟩:=hj';have hxi:bO (l.eraseIdx j) x y:=hi.conn_erase hij;rcases aNt hk hy with h|⟨_,h⟩|⟨_,h⟩
 · exact bj.2 (hxi.trans (hsub _ _ h))
 ·
  
  rename_i h0;exact hf.bridge hr hi (h0.mono fun e he=>List.mem_of_mem_eraseIdx he).symm
 · exact bj.2 (hsub _ _ h)
theorem aRa(hr:InR n l)(hf:dC n l){x v y:Int}{i:Nat}(hi:Tch l i x y)(bi:Br l x v i)(hc:bO l x v)(j:Nat):Br l y v j↔Br l x v j∧j≠i:=by
 have hy:bO (l.eraseIdx i) y v:=by
  rcases aNt hi hc with h|⟨_,h⟩|⟨h,_⟩
  · exact absurd h bi.2
  · exact h
  · exact absurd h (hf.bridge hr hi)
 by_cases h:j=i
 · subst h;exact ⟨fun h=>absurd hy h.2,fun h=>absurd rfl h.2⟩
 · have hxy:bO (l.eraseIdx j) x y:=hi.conn_erase (fun k=>h k.symm);exact ⟨fun k=>⟨⟨k.1,fun c=>k.2 (hxy.symm.trans c)⟩,h⟩,fun k=>⟨k.1.1,fun c=>k.1.2 (hxy.trans c)⟩⟩
theorem bId(hr:InR n l)(hf:dC n l){x v y:Int}{i:Nat}(hi:Tch l i x y)(bi: ¬Br l x v i)(j:Nat):Br l y v j↔Br l x v j∨j=i:=by
 have hx:bO (l.eraseIdx i) x v:=Classical.byContradiction fun c=>bi ⟨hi.lt,c⟩
 by_cases h:j=i
 · subst h;exact ⟨fun _=> .inr rfl,fun _=>⟨hi.lt,fun c=>hf.bridge hr hi (hx.trans c.symm)⟩⟩
 · have hxy:bO (l.eraseIdx j) x y:=hi.conn_erase (fun k=>h k.symm);exact ⟨fun k=> .inl ⟨k.1,fun c=>k.2 (hxy.symm.trans c)⟩,fun k=>(k.resolve_right h).elim fun k1 k2=>⟨k1,fun c=>k2 (hxy.trans c)⟩⟩
theorem aR9{v:Int}(j:Nat): ¬Br l v v j:=fun h=>h.2 (.refl _)
open Classical in
noncomputable def dep (l:List E) (u v:Int):Nat:=(List.range l.length).countP fun i=>decide (Br l u v i)
open Classical in
theorem bF3(hr:InR n l)(hf:dC n l){x v y:Int}{i:Nat}(hi:Tch l i x y)(bi:Br l x v i)(hc:bO l x v):dep l y v+1=dep l x v:=by
 unfold dep;rw [←aJd (f:=fun i=>decide (Br l x v i)) (a:=i) List.nodup_range (List.mem_range.2 hi.lt) (by simpa using bi)];refine congrArg (· +1) (List.countP_congr fun k _=>?_);simp [aRa hr hf hi bi hc]
theorem bMm(l:List E)(u v:Int):dep l u v≤l.length:=by
 unfold dep;exact Nat.le_trans List.countP_le_length (by simp)
end Go.Pt
namespace Go.Pl
open Go Go.AM
variable {α β:Type}
theorem iI(l:List α)(k:Nat):idx l (k:Int)=l[k]? :=by simp [idx]
theorem tX{l:List α}{i:Int}{k:Nat}(h:i=k):idx l i=l[k]? :=by subst h;exact iI l k
theorem dD{l:List α}{k:Nat}(h:k<l.length):idx l (k:Int)=some l[k]:=by rw [iI];exact List.getElem?_eq_getElem h
theorem lM{l:List α}{k:Nat}(h:k<l.length)(x:α):stt l (k:Int) x=some (l.set k x):=by
 unfold stt;rw [if_pos ⟨by omega,by omega⟩];simp
theorem aYo{l:List α}{i:Int}{k:Nat}(hi:i=k)(h:k<l.length)(x:α):stt l i x=some (l.set k x):=by subst hi;exact lM h x
theorem wr1(k:Nat)(h:k<4611686018427387904):IntKind.i64.wrap ((k:Int)+1)=((k+1:Nat):Int):=by rw [bHo om om];omega
theorem wr0{n:Int}(h1: -4611686018427387904≤n)(h2:n≤4611686018427387904):IntKind.i64.wrap n=n:=bHo om om
theorem aA(x:α)(f:α→Option β):(some x).bind f=f x:=by cases h:f x<;>simp [h]
theorem bt{c:Bool}{x y:β}(h:c=true):(bif c then x else y)=x:=by subst h;simp
theorem bf{c:Bool}{x y:β}(h:c=false):(bif c then x else y)=y:=by subst h;simp
theorem gt'{b:Bool}{d:α}{o:Option α}(h:b=true):gO b d o=o:=by subst h;simp [gO]
theorem gf'{b:Bool}{d:α}{o:Option α}(h:b=false):gO b d o=some d:=by subst h;simp [gO]
theorem ck{b:Bool}(h:b=true):chk b=some ():=by subst h;simp [chk]
theorem aZ8{b:Nat}{l xs:List α}(h:(l.length+xs.length)*b≤140737488355328):aR5 b l xs=some (l++xs):=by unfold aR5;rw [if_pos h]
theorem fV{l xs:List α}(h:l.length+xs.length≤4294967296):app l xs=some (l++xs):=by unfold app;rw [if_pos h]
theorem aY8{n:Int}(h:0≤n)(h':n≤4294967296)(z:α):mkc n n z=some (List.replicate n.toNat z):=by unfold mkc;rw [if_pos ⟨h,Int.le_refl _,h'⟩]
theorem aLx{n c:Int}{k:Nat}(h:n=k)(hc:n≤c)(h':c≤4294967296)(z:α):mkc n c z=some (List.replicate k z):=by
 subst h;unfold mkc;rw [if_pos ⟨by omega,hc,h'⟩];simp
theorem aSu{l:List α}{lo hi:Int}{a b:Nat}(h1:lo=a)(h2:hi=b)(h3:a≤b)(h4:b≤l.length):slc l lo hi=some ((l.drop a).take (b-a)):=by
 subst h1;subst h2;unfold slc;rw [if_pos ⟨by omega,by omega,by omega⟩];simp
theorem sZ{l:List α}{lo:Int}{a:Nat}(h1:lo=a)(h4:a≤l.length):slc l lo (l.length:Int)=some (l.drop a):=by
 rw [aSu h1 rfl h4 (Nat.le_refl _)];congr 1;apply List.take_of_length_le;simp
theorem aGr{l:List α}{hi:Int}{b:Nat}(h2:hi=b)(h4:b≤l.length):slc l 0 hi=some (l.take b):=by
 have:=aSu (l:=l) (lo:=((0:Nat):Int)) (a:=0) rfl h2 (Nat.zero_le _) h4
 simpa using this
theorem eC{l:List α}{k:Nat}(h:k<l.length):l.drop k=l[k]::l.drop (k+1):=List.drop_eq_getElem_cons h
theorem xR{l:List α}{k:Nat}(h:k<l.length):l.take (k+1)=l.take k++[l[k]]:=by rw [List.take_add_one,List.getElem?_eq_getElem h];rfl
theorem aH6:(1000000000:Nat)<bF:=by unfold bF;decide
def tab(n:Int)(f:Int→Int):List Int:=(List.range n.toNat).map fun (k:Nat)=>f (k:Int)
theorem xG(n:Int)(f:Int→Int):(tab n f).length=n.toNat:=by simp [tab]
theorem aM1{n:Int}{f:Int→Int}{k:Nat}(h:(k:Int)<n):(tab n f)[k]? =some (f k):=by
 unfold tab;rw [List.getElem?_map,List.getElem?_range om];rfl
theorem aM2{n:Int}{f:Int→Int}{x:Int}(h0:0≤x)(h:x<n):idx (tab n f) x=some (f x):=by
 rw [tX (k:=x.toNat) om,aM1 om];congr 2;omega
theorem aX5{n:Int}{f:Int→Int}{p:List Int}(hl:p.length=n.toNat)(h: ∀k:Nat,(k:Int)<n→p[k]? =some (f k)):p=tab n f:=by
 apply List.ext_getElem?;intro k
 by_cases hk:k<p.length
 · rw [h k om,aM1 om]
 · rw [List.getElem?_eq_none om,List.getElem?_eq_none (by rw [xG];omega)]
end Go.Pl
