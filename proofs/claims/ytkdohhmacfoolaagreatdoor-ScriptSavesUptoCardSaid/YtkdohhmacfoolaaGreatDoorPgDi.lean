/- Facts. No condition. -/
import Derived.Test.YtkdohhmacfoolaaGreatDoorPgDsh
import Derived.Shelf.RegionOpenPlain
import Derived.Lib.Strings
import Derived.Lib.Slices
import Derived.Lib.Walk
import Derived.Lib.Builder
import Derived.Lib.AppendStr
import Derived.Lib.UnsafeStr
import Derived.Laws.Externs
import Derived.Laws.IdiomCopy
import Derived.Laws.BitsLemmas
set_option linter.unusedVariables false
set_option linter.unusedSimpArgs false
namespace Go.Proofs.YtkdohhmacfoolaaGreatDoor
open Go.Proofs.Tryz Go Go.RowKit Go.Lib
def Bld(B b:Nat)(p:Value)(g:Option Nat)(l:List UInt8)(w:World):Prop:=
  ∃v,B≤b∧w.heap[b]? =some (.cells #[p,v] 133 (0,0))∧w.ownsRow B 5 1 v l.length (byteCells l)∧v.ownBlock=g∧g≠some b
theorem Bld.lt{B b:Nat}{p:Value}{g:Option Nat}{l:List UInt8}{w:World}(h:Bld B b p g l w):b<w.heap.size:=by
 obtain ⟨v,_,hb,_⟩:=h;exact (Array.getElem?_eq_some_iff.1 hb).1
theorem bRe{P:Program}(w:World)(base:Nat)(t u ty e:TypeId)(i:TypeInfo)(ht:P.underlying t=some (.slice e))(hu:P.underlying u=some .string)(hi:P.info? e=some i)(hz:i.zero=some (.int .u8 0))
 (hsize:i.size=1) (hby:i.bytes=1) (v:Value) (n:Nat) (xs:List Value) (hown:w.ownsRow base e 1 v n xs) (s:ByteArray) (hbytes:n+s.size≤140737488355328) (hn:n+s.size≤maxLen) (hbase:base≤w.heap.size):
 ∃v' w',(Builtin.append_ #[t,u] ty #[v,.string s]).run P w= .ok v' w'∧w'.ownsRow base e 1 v' (n+s.size) (xs++strCells s)∧w.grownBy w' v.ownBlock∧(v'.ownBlock=v.ownBlock∨v'.ownBlock=some w.heap.size):=by
 obtain ⟨v',w',hr,h1,h2,h3⟩:=run_append_own_string (P:=P) w base t u ty e i ht hu hi hz hsize hby v n xs hown s hn hbytes hbase;refine ⟨v',w',hr,h1,h2,?_⟩;have hm:n+s.size≤9223372036854775807:=by unfold maxLen at hn;omega
 rcases hown.2 with ⟨rfl,rfl⟩|⟨g,cap,cur,rfl,hB,hg,hnc,hcm,hcs,htk⟩
 ·
  rcases Nat.eq_zero_or_pos s.size with h0|h0
  · rw [h3.2 ⟨rfl,h0⟩];exact .inl rfl
  · rw [run_append_nil_string w t u ty e i _ ht hu hi hz s h0 (by omega) (by rw [hby];omega)] at hr;cases hr;exact .inr rfl
 ·
  by_cases hroom:n+s.size≤cap
  · rw [run_append_room_string w t u ty e i ht hu hi hsize g n cap cur hg s hroom (by omega)] at hr;cases hr;exact .inl rfl
  · rw [run_append_grow_string w t u ty e i _ ht hu hi hz ⟨g,0,none⟩ n cap xs (by rw [hsize];exact hown.1) (fun j x hx=>hown.cells (g:=g) rfl j x hx) s (by omega) (by omega) (growslice_fits (by omega) (by rw [hby];omega))] at hr;cases hr;exact .inr rfl
section
set_option maxHeartbeats 1000000
set_option maxRecDepth 100000
theorem bHt(b:Nat)(w:World)(h0:w.cell? ⟨b,0,none⟩=some (.pointer (some ⟨b,0,none⟩))):
 Calls prog 117 #[.pointer (some ⟨b,0,none⟩)] w fun e w'=>e= .returned (.tuple #[])∧w'=w:=by
 obtain ⟨j,hj,_⟩:=Option.map_eq_some_iff.1 Tryz.Builder_Extra_169.sizeBuilder;have mixed:=Tryz.lays169.mixed;have u72:=run_underlying underlying133;have u70:=run_underlying underlying131;have u4:=run_underlying underlying4
 go_enter func117,ntmps117
 go_wp2
 rw [Lib.run_neq_ptr_same w _ underlying131 hj]
 go_wp2
 go_end0
 exact ⟨rfl,rfl⟩
theorem bD8(b:Nat)(w:World)(h0:w.cell? ⟨b,0,none⟩=some (.pointer none))(hsh:w.shape? b=some (133,2))(hfz:w.frozen? ⟨b,0,none⟩=false):
 Calls prog 117 #[.pointer (some ⟨b,0,none⟩)] w fun e w'=>e= .returned (.tuple #[])∧w'=w.setCell ⟨b,0,none⟩ (.pointer (some ⟨b,0,none⟩)):=by
 obtain ⟨j,hj,hjs⟩:=Option.map_eq_some_iff.1 Tryz.Builder_Extra_169.sizeBuilder;have mixed:=Tryz.lays169.mixed;have u72:=run_underlying underlying133;have u70:=run_underlying underlying131;have u4:=run_underlying underlying4;have u164:=run_underlying underlying225
 go_enter func117,ntmps117
 go_wp2
 rw [Lib.run_to_unsafe w ⟨b,0,none⟩ underlying131 underlying225 hj (by rw [hjs];decide) hsh (Nat.zero_lt_succ 1)];simp only [Result.andThen];rw [Oper.upon_value]
 go_wp2
 rw [run_callFunc_extern func152 (by kernel_rfl) (by kernel_rfl) (by kernel_rfl) (e:=Extern.AbiNoEscape.same) (by kernel_rfl)];rw [Lib.run_noEscape];simp only [Result.andThen];rw [Oper.upon_value]
 go_wp2
 rw [Lib.run_from_unsafe w ⟨b,0,none⟩ underlying225 underlying131 hj hsh Tryz.Builder_Extra_169.liesBuilder];simp only [Result.andThen];rw [Oper.upon_value]
 go_wp2
 go_end0
 exact ⟨rfl,rfl⟩
theorem aZq{B b:Nat}{p:Value}(hp:p= .pointer none∨p= .pointer (some ⟨b,0,none⟩)){g:Option Nat}{l:List UInt8}{w:World}(h:Bld B b p g l w):
 Calls prog 117 #[.pointer (some ⟨b,0,none⟩)] w fun e w'=>e= .returned (.tuple #[])∧Bld B b (.pointer (some ⟨b,0,none⟩)) g l w'∧Below B w w'∧w'.heap.size=w.heap.size∧ ∀k,k≠b→w'.heap[k]? =w.heap[k]? :=by
 obtain ⟨v,hB,hb,hown,hv,hg⟩:=h;have hne:v.ownBlock≠some b:=by rw [hv];exact hg
 rcases hp with rfl|rfl
 ·
  have hA:BuilderAt 133 5 B b (.pointer none) (byteCells l) w:=⟨hB,v,hb,by rw [byteCells_length];exact hown,hne⟩
  refine (bD8 b w hA.cell0 hA.shape hA.frozen0).mono ?_;rintro e w' ⟨rfl,rfl⟩;refine ⟨rfl,⟨v,hB,by simp [World.setCell,Array.getElem?_modify,hb],hown.kept (row:=some b) ⟨rfl,rfl,rfl,by simp [World.setCell],fun k _ hk=>Below.heap_setCell _ _ _ _ (fun e=>hk (by simp [e]))⟩ (Or.inr hne),hv,hg⟩,(Below.refl B w).setCell (p:=⟨b,0,none⟩) hB _,by simp [World.setCell],fun k hk=>Below.heap_setCell _ _ _ _ hk⟩
 · refine (bHt b w (by rw [Lib.cell_of_heap hb];rfl)).mono ?_;rintro e w' ⟨rfl,rfl⟩;exact ⟨rfl,⟨v,hB,hb,hown,hv,hg⟩,Below.refl B _,rfl,fun k _=>rfl⟩
theorem bCg{P:Program}{w:World}{ops:Array Oper}{rest:List Oper}{o:Oper}{a:Act}{Q:Exit→Act→World→Prop}(hgd:o.guard=none)(sl x:Operand)(t u:TypeId)
 (ho:o.op= .call { callee:= .builtin .append,args:= #[sl,x],argTypes:= #[t,u] })
 (base:Nat) (e:TypeId) (i:TypeInfo) (ht:P.underlying t=some (.slice e)) (hu:P.underlying u=some .string) (hi:P.info? e=some i) (hz:i.zero=some (.int .u8 0))
 (hsize:i.size=1) (hby:i.bytes=1)
 (v:Value) (n:Nat) (xs:List Value) (hs:a.eval sl=v) (hown:w.ownsRow base e 1 v n xs) (s:ByteArray) (hx:a.eval x= .string s)
 (hbytes:n+s.size≤140737488355328) (h63:n+s.size≤maxLen) (hbase:base≤w.heap.size)
 (h: ∀v' w',w'.ownsRow base e 1 v' (n+s.size) (xs++strCells s)→w.grownBy w' v.ownBlock→(v'.ownBlock=v.ownBlock∨v'.ownBlock=some w.heap.size)→wpList P ops Q rest (a.put o.dst v') w'):wpList P ops Q (o::rest) a w:=by
 refine wpList_plain hgd fun K hK=>?_;obtain ⟨v',w',hr,h2,h3,h4⟩:=bRe (P:=P) w base t u o.type e i ht hu hi hz hsize hby v n xs hown s hbytes h63 hbase;unfold Oper.wp execOp;simp only [ho,resolve,invoke,builtin,Sem.run_bind,Sem.run_pure,Result.andThen_ok,List.map_toArray,List.map_cons,List.map_nil,hs,hx,hr];exact hK _ _ (h v' w' h2 h3 h4)
theorem aMl{B b:Nat}{p:Value}(hp:p= .pointer none∨p= .pointer (some ⟨b,0,none⟩)){g:Option Nat}{l:List UInt8}{w:World}(h:Bld B b p g l w)(s:ByteArray)(hlen:l.length+s.size≤140737488355328)(hBw:B≤w.heap.size):
 Calls prog 70 #[.pointer (some ⟨b,0,none⟩),.string s] w fun e w'=>e= .returned (.tuple #[.int .i64 s.size,.nilIface])∧ ∃g',Bld B b (.pointer (some ⟨b,0,none⟩)) g' (l++s.data.toList) w'∧Below B w w'∧
  (∀k,k<w.heap.size→k≠b→some k≠g→w'.heap[k]? =w.heap[k]?)∧(g'=g∨ ∃k,g'=some k∧w.heap.size≤k):=by
 obtain ⟨i0,hi,hz0,hz1,hz2⟩:=info_parts Tryz.Builder_Extra_169.infoByte;have mixed:=Tryz.lays169.mixed;have u72:=run_underlying underlying133;have u70:=run_underlying underlying131;have u37:=run_underlying underlying91;have u4:=run_underlying underlying4;have e240: ∀args w,(callFunc 117 args).run prog w= .ok (.enter 117 args) w:=enters_of func117 (by kernel_rfl) rfl
 go_enter func70,ntmps70
 go_wp2_with (go_at_fn 117;refine (aZq hp h).mono ?_)
 rintro e w1 ⟨rfl,h1,hb1,hsz,hfr⟩;obtain ⟨v,hB,hbk,hown,hv,hg⟩:=h1;have hne:v.ownBlock≠some b:=by rw [hv];exact hg
 have c0:w1.cell? ⟨b,0,none⟩=some (.pointer (some ⟨b,0,none⟩)):=by rw [Lib.cell_of_heap hbk];rfl
 have c1:w1.cell? ⟨b,1,none⟩=some v:=by rw [Lib.cell_of_heap hbk];rfl
 go_wp2_with (at_builtin;refine bCg rfl _ _ 91 9 rfl B 5 i0 underlying91 underlying9 hi hz0 hz1 hz2 _ _ _ rfl hown s rfl ?c3 ?c4 ?c5 ?_)
 case c3=>omega
 case c4=>unfold maxLen;omega
 case c5=>omega
 intro v' w2 hown' hgrow hwh;have hlt:b<w1.heap.size:=(Array.getElem?_eq_some_iff.1 hbk).1
 have hb2:w2.heap[b]? =some (.cells #[.pointer (some ⟨b,0,none⟩),v] 133 (0,0)):=by
  rw [hgrow.block b hlt (fun e=>hg e.symm)];exact hbk
 have d0:w2.cell? ⟨b,0,none⟩=some (.pointer (some ⟨b,0,none⟩)):=by rw [Lib.cell_of_heap hb2];rfl
 have d1:w2.cell? ⟨b,1,none⟩=some v:=by rw [Lib.cell_of_heap hb2];rfl
 have f1:w2.frozen? ⟨b,1,none⟩=false:=Lib.frozen_of_heap hb2 1;have hne':=Lib.ownBlock_ne hown' hb2 Tryz.Builder_Extra_169.neB5
 obtain ⟨ao,n',cap,rfl⟩: ∃ao n' cap,v'= .slice ao n' cap:=by
  rcases hown'.2 with ⟨hv,_⟩|⟨g,cap,cur,hv,_⟩
  · exact ⟨_,_,_,hv⟩
  · exact ⟨_,_,_,hv⟩
 go_wp2
 go_ret2
 refine ⟨rfl,_,⟨_,hB,by simp [World.setCell,Array.getElem?_modify,hb2],?_,rfl,hne'⟩,?_,?_,?_⟩
 · have:=hown'.kept (w':=w2.setCell ⟨b,1,none⟩ (.slice ao n' cap)) (row:=some b) ⟨rfl,rfl,rfl,by simp [World.setCell],fun k _ hk=>Below.heap_setCell _ _ _ _ (fun e=>hk (by simp [e]))⟩ (Or.inr hne');rw [byteCells_append,List.length_append,←strCells_eq];exact this
 · exact (hb1.grown hgrow (by omega) (fun k hk=>(hown.lt k (hv.trans hk)).1)).setCell (p:=⟨b,1,none⟩) hB _
 · intro k hk hkb hkg;rw [Below.heap_setCell _ _ _ _ hkb,hgrow.block k (by omega) hkg,hfr k hkb]
 ·
  rcases hwh with hwh|hwh
  · exact .inl hwh
  · exact .inr ⟨_,hwh,by omega⟩
theorem bRd{P:Program}(w:World)(base:Nat)(t ty e:TypeId)(i:TypeInfo)(z:Value)(ht:P.underlying t=some (.slice e))(hi:P.info? e=some i)(hz:i.zero=some z)
 (hsize:i.size=1) (hby:i.bytes=1) (hzs:z.cells.size=1) (v:Value) (n:Nat) (xs:List Value) (hown:w.ownsRow base e 1 v n xs)
 (a:Addr) (m c:Nat) (news:List Value) (hl:news.length=m*1) (hnews: ∀j u,news[j]? =some u→w.cell? (a.add j)=some u) (h1: ∀u∈news,u.oneCell'=true)
 (hm0:0<m) (hbytes:n+m≤140737488355328) (hn:n+m≤maxLen) (hbase:base≤w.heap.size):
 ∃v' w',(Builtin.append_ #[t,t] ty #[v,.slice (some a) m c]).run P w= .ok v' w'∧w'.ownsRow base e 1 v' (n+m) (xs++news)∧w.grownBy w' v.ownBlock∧(v'.ownBlock=v.ownBlock∨v'.ownBlock=some w.heap.size):=by
 obtain ⟨v',w',hr,h2,h3,h4⟩:=run_append_own (P:=P) w base t ty e i z 1 1 ht hi hz hsize hby hzs (by decide) v n xs hown a m c news hl hnews h1 hn (by omega) hbase;refine ⟨v',w',hr,h2,h3,?_⟩;rcases hown.2 with ⟨rfl,rfl⟩|⟨g,cap,cur,rfl,hB,hg,hnc,hcm,hcs,htk⟩
 · rw [run_append_nil w t ty e i z ht hi hz a m c news (by rw [hsize];exact hl) hnews hm0 (by omega) (by rw [hby];omega)] at hr;cases hr;exact .inr rfl
 ·
  by_cases hroom:n+m≤cap
  · rw [run_append_room w t ty e i ht hi g n cap cur hg a m c news (by rw [hsize];exact hl) hnews h1 hroom (by rw [hsize];omega)] at hr;cases hr;exact .inl rfl
  · rw [run_append_grow w t ty e i z ht hi hz ⟨g,0,none⟩ n cap xs (by rw [hsize];exact hown.1) (fun j x hx=>hown.cells (g:=g) rfl j x hx) a m c news (by rw [hsize];exact hl) hnews (by omega) (by omega) (growslice_fits (by omega) (by rw [hby];omega))] at hr;cases hr;exact .inr rfl
theorem bCf{P:Program}{w:World}{ops:Array Oper}{rest:List Oper}{o:Oper}{a:Act}{Q:Exit→Act→World→Prop}(hgd:o.guard=none)(sl x:Operand)(t:TypeId)
 (ho:o.op= .call { callee:= .builtin .append,args:= #[sl,x],argTypes:= #[t,t] })
 (base:Nat) (e:TypeId) (i:TypeInfo) (z:Value) (ht:P.underlying t=some (.slice e)) (hi:P.info? e=some i) (hz:i.zero=some z)
 (hsize:i.size=1) (hby:i.bytes=1) (hzs:z.cells.size=1)
 (v:Value) (n:Nat) (xs:List Value) (hs:a.eval sl=v) (hown:w.ownsRow base e 1 v n xs) (ad:Addr) (m c:Nat) (news:List Value) (hx:a.eval x= .slice (some ad) m c)
 (hl:news.length=m*1) (hnews: ∀j u,news[j]? =some u→w.cell? (ad.add j)=some u) (h1: ∀u∈news,u.oneCell'=true)
 (hm0:0<m) (hbytes:n+m≤140737488355328) (h63:n+m≤maxLen) (hbase:base≤w.heap.size)
 (h: ∀v' w',w'.ownsRow base e 1 v' (n+m) (xs++news)→w.grownBy w' v.ownBlock→(v'.ownBlock=v.ownBlock∨v'.ownBlock=some w.heap.size)→wpList P ops Q rest (a.put o.dst v') w'):wpList P ops Q (o::rest) a w:=by
 refine wpList_plain hgd fun K hK=>?_;obtain ⟨v',w',hr,h2,h3,h4⟩:=bRd (P:=P) w base t o.type e i z ht hi hz hsize hby hzs v n xs hown ad m c news hl hnews h1 hm0 hbytes h63 hbase;unfold Oper.wp execOp;simp only [ho,resolve,invoke,builtin,Sem.run_bind,Sem.run_pure,Result.andThen_ok,List.map_toArray,List.map_cons,List.map_nil,hs,hx,hr];exact hK _ _ (h v' w' h2 h3 h4)
theorem bHo{B b:Nat}{p:Value}(hp:p= .pointer none∨p= .pointer (some ⟨b,0,none⟩)){g:Option Nat}{l:List UInt8}{w:World}(h:Bld B b p g l w)(c:UInt8)(hlen:l.length+1≤140737488355328)(hBw:B≤w.heap.size):
 Calls prog 71 #[.pointer (some ⟨b,0,none⟩),.int .u8 c.toNat] w fun e w'=>e= .returned .nilIface∧ ∃g',Bld B b (.pointer (some ⟨b,0,none⟩)) g' (l++[c]) w'∧Below B w w'∧
  (∀k,k<w.heap.size→k≠b→some k≠g→w'.heap[k]? =w.heap[k]?)∧(g'=g∨ ∃k,g'=some k∧w.heap.size≤k):=by
 obtain ⟨i0,hi,hz0,hz1,hz2⟩:=info_parts Tryz.Builder_Extra_169.infoByte;have mixed:=Tryz.lays169.mixed;have u72:=run_underlying underlying133;have u70:=run_underlying underlying131;have t5:=underlying5;have a5:=Tryz.isAgg5;have z5:=Tryz.sizeOf5;have v5:=Tryz.zeroValue5;have u5:=run_underlying t5;have u37:=run_underlying underlying91;have u4:=run_underlying underlying4;have e240: ∀args w,(callFunc 117 args).run prog w= .ok (.enter 117 args) w:=enters_of func117 (by kernel_rfl) rfl
 go_enter func71,ntmps71
 go_wp2_with (go_at_fn 117;refine (aZq hp h).mono ?_)
 rintro e w1 ⟨rfl,h1,hb1,hsz,hfr⟩;obtain ⟨v,hB,hbk,hown,hv,hg⟩:=h1;have hne:v.ownBlock≠some b:=by rw [hv];exact hg
 have c0:w1.cell? ⟨b,0,none⟩=some (.pointer (some ⟨b,0,none⟩)):=by rw [Lib.cell_of_heap hbk];rfl
 have c1:w1.cell? ⟨b,1,none⟩=some v:=by rw [Lib.cell_of_heap hbk];rfl
 go_wp2_with (at_builtin;refine bCf rfl _ _ 91 rfl B 5 i0 (.int .u8 0) underlying91 hi hz0 hz1 hz2 rfl _ _ _ rfl (hown.alloc _) ⟨w1.heap.size,0,none⟩ 1 1 [.int .u8 c.toNat] ?c0 rfl ?c1 ?c2 (by decide) ?c3 ?c4 ?c5 ?_)
 case c0=>first|rfl|(rw [hsz];rfl)
 case c1=>
  intro j u hj
  match j,hj with
  |0,hj=>simp at hj;subst hj;simp [Addr.add]
 case c2=>intro u hu;simp at hu;subst hu;rfl
 case c3=>omega
 case c4=>unfold maxLen;omega
 case c5=>simp;omega
 intro v' w2 hown' hgrow hwh;have hlt:b<w1.heap.size:=(Array.getElem?_eq_some_iff.1 hbk).1
 have hb2:w2.heap[b]? =some (.cells #[.pointer (some ⟨b,0,none⟩),v] 133 (0,0)):=by
  rw [hgrow.block b (by simp;omega) (fun e=>hg e.symm),Lib.alloc_old w1 _ b hlt];exact hbk
 have d0:w2.cell? ⟨b,0,none⟩=some (.pointer (some ⟨b,0,none⟩)):=by rw [Lib.cell_of_heap hb2];rfl
 have d1:w2.cell? ⟨b,1,none⟩=some v:=by rw [Lib.cell_of_heap hb2];rfl
 have f1:w2.frozen? ⟨b,1,none⟩=false:=Lib.frozen_of_heap hb2 1;have hne':=Lib.ownBlock_ne hown' hb2 Tryz.Builder_Extra_169.neB5
 obtain ⟨ao,n',cap,rfl⟩: ∃ao n' cap,v'= .slice ao n' cap:=by
  rcases hown'.2 with ⟨hv,_⟩|⟨g,cap,cur,hv,_⟩
  · exact ⟨_,_,_,hv⟩
  · exact ⟨_,_,_,hv⟩
 go_wp2
 go_ret
 refine ⟨rfl,_,⟨_,hB,by simp [World.setCell,Array.getElem?_modify,hb2],?_,rfl,hne'⟩,?_,?_,?_⟩
 · have:=hown'.kept (w':=w2.setCell ⟨b,1,none⟩ (.slice ao n' cap)) (row:=some b) ⟨rfl,rfl,rfl,by simp [World.setCell],fun k _ hk=>Below.heap_setCell _ _ _ _ (fun e=>hk (by simp [e]))⟩ (Or.inr hne');rw [byteCells_append,List.length_append];exact this
 · exact ((hb1.alloc (by omega) _).grown hgrow (by simp;omega) (fun k hk=>(hown.lt k (hv.trans hk)).1)).setCell (p:=⟨b,1,none⟩) hB _
 · intro k hk hkb hkg;rw [Below.heap_setCell _ _ _ _ hkb,hgrow.block k (by simp;omega) hkg,Lib.alloc_old w1 _ k (by omega),hfr k hkb]
 ·
  rcases hwh with hwh|hwh
  · exact .inl hwh
  · exact .inr ⟨_,hwh,by simp⟩
end
open Go.Proofs.Tryz Go Go.AM
def qE(s:ByteArray)(c:Int):Option Int:=some (Lib.indexByte s.data.toList c.toNat.toUInt8)
theorem aIs{s:ByteArray}{c:Int}{r:Int}(hm:qE s c=some r):cE prog 109 [.v (.string s),.v (.int .u8 c)] (.v (.int .i64 r)):=by
 cases hm;exact cE.of_val fun w=>Tryz.strings_IndexByte s c w
instance:Ct prog 109 (K2 prog vs (vk .u8) vi 109 qE):=⟨fun hm=>aIs hm⟩
end Go.Proofs.YtkdohhmacfoolaaGreatDoor
