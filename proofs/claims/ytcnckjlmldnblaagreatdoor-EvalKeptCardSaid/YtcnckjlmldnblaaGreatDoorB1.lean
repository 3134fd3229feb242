import Derived.Test.YtcnckjlmldnblaaGreatDoorK5
import Derived.Maps.AppendAt
import Derived.OwnWalk
import Derived.Laws.CopyOwn
import Derived.SliceStrings
import Derived.Deep.Slices
import Derived.Laws.AppendOwnNone
import Derived.Lib.SlBytesRow
import Derived.Test.YtcnckjlmldnblaaGreatDoorE1
import Derived.Test.YtcnckjlmldnblaaGreatDoorK4
import Derived.OpenShut
import Derived.OrdersHeld
import Derived.Deep.DeepHandedRow
import Derived.SizedLaws
namespace Go.Proofs.YtcnckjlmldnblaaGreatDoor
open Go Go.RowKit
set_option maxRecDepth 100000
set_option maxHeartbeats 4000000
set_option linter.unusedVariables false
set_option linter.unusedSimpArgs false
/-- A read of a drawn region is taken. -/
theorem tkH {P:Program} {md:Region.Mode} {ops:Array Oper} {Q:Exit→Act→World→Prop} {S:World→Prop} {i:Nat} {oi:Oper} {v:Value} {fuel:Nat} {listed:Array Bool} {a:Act} {w:World} (hi:ops[i]?=some oi) (hy:YieldsIf P ops S oi v a)
 (h:wpAnyH P md ops Q S fuel (listed.setIfInBounds i true) (a.put oi.dst v) w) (hs:Region.noSelect ops=true:=by kernel_rfl) (hf:Region.free md ops listed i=true:=by kernel_rfl) (hr:(Region.ready md ops listed).contains i=true:=by kernel_rfl)
 (hQ:∀ c a w,Q (.panic c) (a.put oi.dst v) w→Q (.panic c) a w:=by exact fun _ _ _ h=>h) (hS:S w:=by assumption):wpAnyH P md ops Q S (fuel+1) listed a w:=wpAnyH_take hi hs hf hr hQ hy hS h
theorem tkI {P:Program} {md:Region.Mode} {ops:Array Oper} {Q:Exit→Act→World→Prop} {S:World→Prop} {i:Nat} {oi:Oper} {v:Value} {fuel:Nat} {listed:Array Bool} {a:Act} {w:World} (hi:ops[i]?=some oi) (hy:∀ w,S w→(execOp a.eval oi).run P w=.ok (.value v) w)
 (h:wpAnyH P md ops Q S fuel (listed.setIfInBounds i true) (a.put oi.dst v) w) (hw:Region.wanted oi (yielded ops a.tmps)=true:=by rfl) (hs:Region.noSelect ops=true:=by kernel_rfl) (hf:Region.free md ops listed i=true:=by kernel_rfl) (hr:(Region.ready md ops listed).contains i=true:=by kernel_rfl)
 (hQ:∀ c a w,Q (.panic c) (a.put oi.dst v) w→Q (.panic c) a w:=by exact fun _ _ _ h=>h) (hS:S w:=by assumption):wpAnyH P md ops Q S (fuel+1) listed a w:=wpAnyH_take hi hs hf hr hQ (.inl ⟨hw,hy⟩) hS h
theorem RS.addr {α:Type} {s:Nat} {enc:α→List Value} {w:World} {a:Option Addr} {len cap:Nat} {xs:List α} (h:RS s enc w a len cap xs) (h0:0 < len) :
 ∃ b off,a=some ⟨b,off,none⟩∧∀ i x,xs[i]?=some x→∀ j v,(enc x)[j]?=some v→w.cell? ⟨b,off+i * s+j,none⟩=some v:=by
 obtain ⟨b,off,x,rfl,-,-⟩:=h.at h0
 refine ⟨b,off,rfl,fun i x hx j v hv=>?_⟩
 obtain ⟨b',off',e,hc⟩:=h.2.2.2 i x hx
 obtain ⟨rfl,rfl⟩:b=b'∧off=off':=by simpa using e
 exact hc j v hv
theorem RS.cell {α:Type} {s:Nat} {enc:α→List Value} {w:World} {b off len cap:Nat} {xs:List α} (h:RS s enc w (some ⟨b,off,none⟩) len cap xs) (i:Nat) (x:α) (hx:xs[i]?=some x) (j:Nat) (v:Value) (hv:(enc x)[j]?=some v) :
 w.cell? ⟨b,off+i * s+j,none⟩=some v:=by
 obtain ⟨b',off',e,hc⟩:=h.2.2.2 i x hx
 obtain ⟨rfl,rfl⟩:b=b'∧off=off':=by simpa using e
 exact hc j v hv
/-- A slice type with one-cell elements in the program's table. -/
structure Sl (P:Program) (t e:TypeId) (z:Value) (size bytes:Nat):Prop where
 und:P.underlying t=some (.slice e)
 inf:(P.info? e).map (fun i=>(i.zero,i.size,i.bytes))=some (some z,size,bytes)
 zs:z.cells.size=size
 pos:0 < size
section
variable {P : Program} {w : World} {ops : Array Oper} {rest : List Oper} {o : Oper} {a : Act} {Q : Exit → Act → World → Prop}
/-- make([]T, n). -/
theorem L_make (hgd:o.guard=none) (l c:Operand) (t:TypeId) (ho:o.op=Op.makeSlice t l c) {e:TypeId} {z:Value} {size bytes:Nat} (T:Sl P t e z size bytes)
 (base:Nat) (kl kc:IntKind) (L:Int) (n:Nat) (hl:a.eval l=.int kl L) (hc:a.eval c=.int kc L) (hL:L=(n:Int)) (hb:bytes * n≤281474976710656) (hn:n≤maxLen) (hbase:base≤w.heap.size)
 (h:∀ w',w'.ownsRow base e size (.slice (some ⟨w.heap.size,0,none⟩) n n) n (madeCells z.cells (n * size)).toList→w.grownBy w' none→wpList P ops Q rest (a.put o.dst (.slice (some ⟨w.heap.size,0,none⟩) n n)) w') :
 wpList P ops Q (o :: rest) a w:=by
 obtain ⟨i,hi,hz0,hz1,hz2⟩:=info_parts T.inf
 exact wpList_make_full w hgd l c t ho base e i z size T.und hi hz0 hz1 kl kc L L n hl hc hL hL (by rw [hz2];exact hb) hn hbase h
end
theorem gwk {w1 w2:World} (hb:Below w1.heap.size w1 w2):w1.grownBy w2 none:=⟨hb.os,hb.tape,hb.output,hb.size,fun k hk _=>hb.block k hk⟩
theorem own_below {w w':World} {B e s:Nat} {v:Value} {n:Nat} {xs:List Value} (h:w.ownsRow B e s v n xs) (hb:Below w.heap.size w w'):w'.ownsRow B e s v n xs:=h.kept (gwk hb) (by cases v.ownBlock <;> simp)
theorem owns_shape {w:World} {base e size:Nat} {v:Value} {n:Nat} {xs:List Value} (h:w.ownsRow base e size v n xs) :
 ∃ a c,v=.slice a n c∧(0 < n→∃ g,a=some ⟨g,0,none⟩∧base≤g∧g < w.heap.size):=by
 rcases h.2 with ⟨rfl,rfl⟩ | ⟨g,cap,cur,rfl,hb,hh,_⟩
 · exact ⟨none,0,rfl,fun h=>by omega⟩
 · exact ⟨_,_,rfl,fun _=>⟨g,rfl,hb,(Array.getElem?_eq_some_iff.1 hh).1⟩⟩
theorem owns_mono {w:World} {B B' e size:Nat} {v:Value} {n:Nat} {xs:List Value} (h:w.ownsRow B e size v n xs) (hb:B'≤B):w.ownsRow B' e size v n xs:=by
 refine ⟨h.1,?_⟩
 rcases h.2 with h | ⟨g,cap,cur,hv,hg,r⟩
 · exact .inl h
 · exact .inr ⟨g,cap,cur,hv,Nat.le_trans hb hg,r⟩
section
variable {P : Program} {w : World} {ops : Array Oper} {rest : List Oper} {o : Oper} {a : Act} {Q : Exit → Act → World → Prop}
/-- append(v, src...), v owned, src a slice whose cells are known. -/
theorem W_appendN {K:Act→World→Prop} (s x:Operand) (t:TypeId) (ho:o.op=.call { callee:=.builtin .append,args:=#[s,x],argTypes:=#[t,t] })
 {e:TypeId} {z:Value} {size bytes:Nat} (T:Sl P t e z size bytes) (base:Nat) (v:Value) (n:Nat) (xs:List Value) (hs:a.eval s=v) (hown:w.ownsRow base e size v n xs)
 (ad:Addr) (m c:Nat) (l:List Value) (hx:a.eval x=.slice (some ad) m c) (hl:l.length=m * size) (hr:∀ j u,l[j]?=some u→w.cell? (ad.add j)=some u) (h1:∀ u ∈ l,u.oneCell'=true) (hb:(n+m) * bytes≤140737488355328) (hm:n+m≤maxLen) (hbase:base≤w.heap.size)
 (h:∀ a' c' w',w'.ownsRow base e size (.slice a' (n+m) c') (n+m) (xs++l)→w.grownBy w' v.ownBlock→((Value.slice a' (n+m) c').ownBlock=v.ownBlock∨(Value.slice a' (n+m) c').ownBlock=some w.heap.size)→K (a.put o.dst (.slice a' (n+m) c')) w'):o.wp P a w K Q:=by
 obtain ⟨i,hi,hz0,hz1,hz2⟩:=info_parts T.inf
 obtain ⟨v',w',hr2,h2,h3,_,h5⟩:=run_append_own_at (P:=P) w base t o.type e i z size bytes T.und hi hz0 hz1 hz2 T.zs T.pos v n xs hown ad m c l hl hr h1 hm hb hbase
 unfold Oper.wp execOp
 simp only [ho,resolve,invoke,builtin,Sem.run_bind,Sem.run_pure,Result.andThen_ok,List.map_toArray,List.map_cons,List.map_nil,hs,hx,hr2]
 obtain ⟨a',c',rfl,_⟩:=owns_shape h2
 exact h a' c' w' h2 h3 h5
end
section
variable {P : Program} {w : World} {ops : Array Oper} {rest : List Oper} {o : Oper} {a : Act} {Q : Exit → Act → World → Prop}
theorem L_appendN (hgd:o.guard=none) (s x:Operand) (t:TypeId) (ho:o.op=.call { callee:=.builtin .append,args:=#[s,x],argTypes:=#[t,t] })
 {e:TypeId} {z:Value} {size bytes:Nat} (T:Sl P t e z size bytes) (base:Nat) (v:Value) (n:Nat) (xs:List Value) (hs:a.eval s=v) (hown:w.ownsRow base e size v n xs)
 (ad:Addr) (m c:Nat) (l:List Value) (hx:a.eval x=.slice (some ad) m c) (hl:l.length=m * size) (hr:∀ j u,l[j]?=some u→w.cell? (ad.add j)=some u) (h1:∀ u ∈ l,u.oneCell'=true) (hb:(n+m) * bytes≤140737488355328) (hm:n+m≤maxLen) (hbase:base≤w.heap.size)
 (h:∀ a' c' w',w'.ownsRow base e size (.slice a' (n+m) c') (n+m) (xs++l)→w.grownBy w' v.ownBlock→((Value.slice a' (n+m) c').ownBlock=v.ownBlock∨(Value.slice a' (n+m) c').ownBlock=some w.heap.size)→wpList P ops Q rest (a.put o.dst (.slice a' (n+m) c')) w'):wpList P ops Q (o :: rest) a w :=
 wpList_plain hgd fun _ hK=>W_appendN s x t ho T base v n xs hs hown ad m c l hx hl hr h1 hb hm hbase fun a' c' w' h2 h3 h4=>hK _ _ (h a' c' w' h2 h3 h4)
end
section
variable {P : Program} {w : World} {ops : Array Oper} {rest : List Oper} {o : Oper} {a : Act} {Q : Exit → Act → World → Prop}
theorem S_appendN {K:Act→World→Prop} {E:Prop} (hgd:o.guard=none) (s x:Operand) (t:TypeId) (ho:o.op=.call { callee:=.builtin .append,args:=#[s,x],argTypes:=#[t,t] })
 {e:TypeId} {z:Value} {size bytes:Nat} (T:Sl P t e z size bytes) (base:Nat) (v:Value) (n:Nat) (xs:List Value) (hs:a.eval s=v) (hown:w.ownsRow base e size v n xs)
 (ad:Addr) (m c:Nat) (l:List Value) (hx:a.eval x=.slice (some ad) m c) (hl:l.length=m * size) (hr:∀ j u,l[j]?=some u→w.cell? (ad.add j)=some u) (h1:∀ u ∈ l,u.oneCell'=true) (hb:(n+m) * bytes≤140737488355328) (hm:n+m≤maxLen) (hbase:base≤w.heap.size)
 (h:∀ a' c' w',w'.ownsRow base e size (.slice a' (n+m) c') (n+m) (xs++l)→w.grownBy w' v.ownBlock→((Value.slice a' (n+m) c').ownBlock=v.ownBlock∨(Value.slice a' (n+m) c').ownBlock=some w.heap.size)→K (a.put o.dst (.slice a' (n+m) c')) w') :
 if Region.wanted o (yielded ops a.tmps)=true then Oper.wp P o a w K Q else E:=by
 rw [if_pos (by simp [Region.wanted,hgd])]
 exact W_appendN s x t ho T base v n xs hs hown ad m c l hx hl hr h1 hb hm hbase h
end
theorem flat_len {α:Type} (enc:α→List Value) (s:Nat) (he:∀ x,(enc x).length=s) (xs:List α):(xs.flatMap enc).length=xs.length * s:=by
 induction xs with
 | nil=>simp
 | cons x t ih=>simp [List.flatMap_cons,he,ih,Nat.add_mul];omega
theorem flat_get {α:Type} (enc:α→List Value) (s:Nat) (he:∀ x,(enc x).length=s) (xs:List α):∀ (i:Nat) (x:α),xs[i]?=some x→∀ j v,(enc x)[j]?=some v→(xs.flatMap enc)[i * s+j]?=some v:=by
 induction xs with
 | nil=>intro i x h;simp at h
 | cons y t ih =>
   intro i x h j v hv
   have hj:j < s:=by rw [← he x];exact (List.getElem?_eq_some_iff.1 hv).1
   cases i with
   | zero =>
     simp at h
     subst h
     rw [List.flatMap_cons,Nat.zero_mul,Nat.zero_add,List.getElem?_append_left (by rw [he];exact hj),hv]
   | succ i =>
     simp only [List.getElem?_cons_succ] at h
     rw [List.flatMap_cons,List.getElem?_append_right (by rw [he,Nat.add_mul];omega),he,show (i+1) * s+j - s=i * s+j by rw [Nat.add_mul];omega]
     exact ih i x h j v hv
theorem RS.of_owns {α:Type} {s:Nat} {enc:α→List Value} {w:World} {base e:Nat} {a:Option Addr} {n c:Nat} {xs:List α} (h:w.ownsRow base e s (.slice a n c) n (xs.flatMap enc)) (hs:0 < s) (he:∀ x,(enc x).length=s) (hn:n≤281474976710656):RS s enc w a n c xs:=by
 have hl:xs.length=n:=by
  have:=h.1
  rw [flat_len enc s he] at this
  exact Nat.eq_of_mul_eq_mul_right hs this
 rcases h.2 with ⟨hv,h0⟩ | ⟨g,cap,cur,hv,hg,hh,hnc,hcm,hcs,htk⟩
 · obtain ⟨rfl,rfl,rfl⟩:=Value.slice.inj hv
   refine ⟨hl,Nat.le_refl _,by omega,fun i x hx=>?_⟩
   have:=(List.getElem?_eq_some_iff.1 hx).1
   omega
 · obtain ⟨rfl,-,rfl⟩:=Value.slice.inj hv
   refine ⟨hl,hnc,hn,fun i x hx=>⟨g,0,rfl,fun j v hv=>?_⟩⟩
   have hi:=(List.getElem?_eq_some_iff.1 hx).1
   have hj:j < s:=by rw [← he x];exact (List.getElem?_eq_some_iff.1 hv).1
   have h1:=flat_get enc s he xs i x hx j v hv
   have hlt:i * s+j < n * s:=by
    have:(i+1) * s≤n * s:=Nat.mul_le_mul_right s (by omega)
    rw [Nat.add_mul] at this;omega
   rw [cell_of_row w g _ cur e (0,0) hh,Nat.zero_add]
   rw [← htk,List.getElem?_take,if_pos hlt] at h1
   simpa using h1
theorem own_ne {w:World} {B e s n:Nat} {v:Value} {xs:List Value} (h:w.ownsRow B e s v n xs) {g:Nat} {cs:Array Value} {t:TypeId} {fz:Nat × Nat} (hg:w.heap[g]?=some (.cells cs t fz)) (hne:t ≠ e):v.ownBlock ≠ some g:=by
 rcases h.2 with ⟨rfl,_⟩ | ⟨g',cap,cur,rfl,_,hh,_⟩
 · simp [Value.ownBlock]
 · simp only [Value.ownBlock,ne_eq,Option.some.injEq]
   rintro rfl
   rw [hh] at hg
   simp at hg
   exact hne hg.2.1.symm
theorem RS.of_row {α:Type} {s:Nat} (enc:α→List Value) (he:∀ x,(enc x).length=s) {w:World} {g:Nat} {t:TypeId} {fz:Nat × Nat} (xs:List α) (h:w.heap[g]?=some (.cells (xs.flatMap enc).toArray t fz)) (n c:Nat) (hn:xs.length=n) (hc:n≤c) (hs:n≤281474976710656) :
 RS s enc w (some ⟨g,0,none⟩) n c xs:=by
 refine ⟨hn,hc,hs,fun i x hx=>⟨g,0,rfl,fun j v hv=>?_⟩⟩
 rw [cell_of_row w g _ _ _ _ h,Nat.zero_add]
 simpa using flat_get enc s he xs i x hx j v hv
theorem RS.take {α:Type} {s:Nat} {enc:α→List Value} {w:World} {a:Option Addr} {n c:Nat} {xs:List α} (h:RS s enc w a n c xs) (m:Nat) (hm:m≤n):RS s enc w a m c (xs.take m):=by
 obtain ⟨h1,h2,h3,h4⟩:=h
 refine ⟨by simp;omega,by omega,by omega,fun i x hx=>h4 i x ?_⟩
 rw [List.getElem?_take] at hx
 split at hx
 · exact hx
 · cases hx
theorem c3:Tryz.prog.cellsOf 3=1:=by kernel_rfl
theorem c9:Tryz.prog.cellsOf 9=1:=by kernel_rfl
theorem c4:Tryz.prog.cellsOf 4=1:=by kernel_rfl
theorem c28:Tryz.prog.cellsOf 41=1:=by kernel_rfl
theorem by3:Tryz.prog.bytesOf 3=8:=by kernel_rfl
theorem by9:Tryz.prog.bytesOf 9=16:=by kernel_rfl
theorem RS.cut {α:Type} {s:Nat} {enc:α→List Value} {w:World} {a:Option Addr} {n c:Nat} {xs ys:List α} (h:RS s enc w a n c (xs++ys)):RS s enc w a xs.length c xs:=by
 obtain ⟨h1,h2,h3,h4⟩:=h
 rw [List.length_append] at h1
 exact ⟨rfl,by omega,by omega,fun i x hx=>h4 i x (by rw [List.getElem?_append_left (List.getElem?_eq_some_iff.1 hx).1];exact hx)⟩
theorem RS.cells {α:Type} {s:Nat} {enc:α→List Value} (he:∀ x,(enc x).length=s) (hs:0 < s) {w:World} {a:Option Addr} {n c:Nat} {xs:List α} (h:RS s enc w a n c xs) {ad:Addr} (ha:a=some ad) :
 ∀ j v,(xs.flatMap enc)[j]?=some v→w.cell? (ad.add j)=some v:=by
 intro j v hv
 have hj:j < xs.length * s:=by have:=(List.getElem?_eq_some_iff.1 hv).1;rwa [flat_len enc s he] at this
 have hi:j / s < xs.length:=(Nat.div_lt_iff_lt_mul hs).2 hj
 have hx:=List.getElem?_eq_getElem hi
 obtain ⟨b,off,e,hc⟩:=h.2.2.2 (j / s) _ hx
 rw [ha] at e
 obtain rfl:=Option.some.inj e
 rw [Addr.add_lit]
 have hm:j % s < s:=Nat.mod_lt _ hs
 have hd:j=j / s * s+j % s:=by rw [Nat.mul_comm];exact (Nat.div_add_mod j s).symm
 have hv2:(enc xs[j / s])[j % s]?=some v:=by
  have hlt:j % s < (enc xs[j / s]).length:=by rw [he];exact hm
  have:=flat_get enc s he xs (j / s) _ hx (j % s) _ (List.getElem?_eq_getElem hlt)
  rw [← hd,hv] at this
  rw [List.getElem?_eq_getElem hlt,← this]
 have:=hc (j % s) v hv2
 rwa [Nat.add_assoc,← hd] at this
/-- Cells written one behind the other. -/
def setChain (w:World) (g:Nat):Nat→List Value→World
 | _,[]=>w
 | o,v :: t=>setChain (w.setCell ⟨g,o,none⟩ v) g (o+1) t
def setList (xs:List Value):Nat→List Value→List Value
 | _,[]=>xs
 | o,v :: t=>setList (xs.set o v) (o+1) t
theorem setList_eq:∀ (vs xs:List Value) (o:Nat),o+vs.length≤xs.length→setList xs o vs=xs.take o++vs++xs.drop (o+vs.length)
 | [],xs,o,h=>by simp [setList]
 | v :: t,xs,o,h=>by
   simp only [List.length_cons] at h
   rw [setList,setList_eq t (xs.set o v) (o+1) (by simp;omega)]
   rw [List.take_set,List.drop_set_of_lt (by omega),List.take_add_one,List.getElem?_eq_getElem (by omega),Option.toList_some,List.set_append_right _ _ (by simp;omega)]
   rw [show o - (xs.take o).length=0 by simp;omega]
   simp only [List.set_cons_zero,List.append_assoc,List.cons_append,List.nil_append,List.length_cons]
   rw [show o+1+t.length=o+(t.length+1) by omega]
theorem setList_flat {α:Type} (enc:α→List Value) (s:Nat) (he:∀ x,(enc x).length=s) (l:List α) (k:Nat) (x:α) (hk:k < l.length):setList (l.flatMap enc) (k * s) (enc x)=(l.set k x).flatMap enc:=by
 have hfl:=flat_len enc s he
 have h1:l=l.take k++l[k] :: l.drop (k+1):=by rw [List.getElem_cons_drop,List.take_append_drop]
 have hlen:k * s+s≤l.length * s:=by rw [← Nat.succ_mul];exact Nat.mul_le_mul_right s hk
 rw [setList_eq _ _ _ (by rw [hfl,he];exact hlen),he]
 have h2:l.set k x=l.take k++x :: l.drop (k+1):=by rw [List.set_eq_take_append_cons_drop,if_pos hk]
 have htk:(l.take k).length * s=k * s:=by rw [List.length_take,Nat.min_eq_left (Nat.le_of_lt hk)]
 rw [h2]
 generalize l.take k=A at *
 generalize l.drop (k+1)=C at *
 rw [h1]
 have e1:k * s=(A.flatMap enc).length:=by rw [hfl,htk]
 simp only [List.flatMap_append,List.flatMap_cons]
 rw [e1,List.take_left,List.append_assoc]
 congr 2
 rw [← List.append_assoc,← he l[k],← List.length_append,List.drop_left]
theorem own_chain {B e size g n c:Nat}:∀ (vs xs:List Value) (w:World) (o:Nat),w.ownsRow B e size (.slice (some ⟨g,0,none⟩) n c) n xs→(setChain w g o vs).ownsRow B e size (.slice (some ⟨g,0,none⟩) n c) n (setList xs o vs)∧w.grownBy (setChain w g o vs) (some g)
 | [],xs,w,o,h=>⟨h,rfl,rfl,rfl,Nat.le_refl _,fun _ _ _=>rfl⟩
 | v :: t,xs,w,o,h=>by
   obtain ⟨h1,h2⟩:=h.stored o v
   obtain ⟨h3,h4⟩:=own_chain t _ _ (o+1) h1
   exact ⟨h3,h4.os.trans h2.os,h4.tape.trans h2.tape,h4.output.trans h2.output,Nat.le_trans h2.size h4.size,fun k hk hne=>(h4.block k (Nat.lt_of_lt_of_le hk h2.size) hne).trans (h2.block k hk hne)⟩
theorem own_at {α:Type} {enc:α→List Value} {s:Nat} (he:∀ x,(enc x).length=s) {w:World} {B e g n c:Nat} {l:List α} (h:w.ownsRow B e s (.slice (some ⟨g,0,none⟩) n c) n (l.flatMap enc)) {k:Nat} {x:α} (hx:l[k]?=some x) (j:Nat) (v:Value) (hv:(enc x)[j]?=some v) :
 w.cell? ⟨g,k * s+j,none⟩=some v:=by
 have hj:j < s:=by have:=(List.getElem?_eq_some_iff.1 hv).1;rwa [he] at this
 have hk:k < l.length:=(List.getElem?_eq_some_iff.1 hx).1
 have hln:l.length * s=n * s:=by rw [← flat_len enc s he];exact h.1
 have hlt:k * s+j < n * s:=by
  rw [← hln]
  have:(k+1) * s≤l.length * s:=Nat.mul_le_mul_right s hk
  rw [Nat.succ_mul] at this;omega
 rw [h.cellAt _ hlt]
 exact flat_get enc s he l k x hx j v hv
section
variable {P : Program} {w : World} {ops : Array Oper} {rest : List Oper} {o : Oper} {a : Act} {Q : Exit → Act → World → Prop}
/-- copy(dst, src), dst the head of an owned row, elements of whatever size. -/
theorem L_copyN (hgd:o.guard=none) (d s:Operand) (t:TypeId) (ho:o.op=.call { callee:=.builtin .copy,args:=#[d,s],argTypes:=#[t,t] }) {e:TypeId} {z:Value} {size bytes:Nat} (T:Sl P t e z size bytes)
 (base:Nat) (g n cap:Nat) (xs:List Value) (hd:a.eval d=.slice (some ⟨g,0,none⟩) n cap) (hown:w.ownsRow base e size (.slice (some ⟨g,0,none⟩) n cap) n xs)
 {α:Type} {enc:α→List Value} (he:∀ x,(enc x).length=size) (h1:∀ x,∀ v ∈ enc x,v.oneCell'=true)
 (sa:Option Addr) (m c:Nat) (l:List α) (hs:a.eval s=.slice sa m c) (hr:RS size enc w sa m c l) (hmn:m≤n)
 (h:∀ w',w'.ownsRow base e size (.slice (some ⟨g,0,none⟩) n cap) n (l.flatMap enc++xs.drop (m * size))→w.grownBy w' (some g)→wpList P ops Q rest (a.put o.dst (goInt m)) w') :
 wpList P ops Q (o :: rest) a w:=by
 obtain ⟨i,hi,hz0,hz1,hz2⟩:=info_parts T.inf
 have hlm:=hr.1
 have hx:=hown.1
 rcases hown.2 with ⟨hv,_⟩ | ⟨g',cap',cur,hv,hbg,hh,hnc,hcm,hcs,ht⟩
 · cases hv
 · injection hv with e1 _ e3
   injection e1 with e1
   injection e1 with e1
   subst e1 e3
   refine wpList_plain hgd fun K hK=>?_
   have hmin:Nat.min m n=m:=Nat.min_eq_left hmn
   by_cases h0:m=0
   · subst h0
     obtain rfl:l=[]:=List.eq_nil_of_length_eq_zero hlm
     have hrun:(Builtin.copy_ #[t,t] o.type #[.slice (some ⟨g,0,none⟩) n cap,.slice sa 0 c]).run P w=.ok (goInt 0) w:=by
      have hl0:∀ x,(loadCells x 0).run P w=.ok #[] w:=fun x=>by have:=run_loadCells_list (P:=P) w x [] (by simp);simpa using this
      have hst0:=run_storeCells_at P g 0 e [] 0 cur w hh (by simp) (by simp)
      cases sa <;> simp [Builtin.copy_,run_underlying T.und,Builtin.lenOf,Builtin.firstCells,sizeOf,typeInfo,hi,hz1,hl0,storeCells]
     unfold Oper.wp
     simp [execOp,ho,resolve,invoke,builtin,hd,hs,hrun,Result.andThen]
     exact hK _ _ (h w (by simpa using hown) ⟨rfl,rfl,rfl,Nat.le_refl _,fun _ _ _=>rfl⟩)
   · obtain ⟨b,off,x,e1,_,_⟩:=hr.at (i:=0) (by omega)
     subst e1
     have hcl:=hr.cells he T.pos rfl
     have hfl:(l.flatMap enc).length=m * size:=by rw [flat_len enc size he,hlm]
     have hmn2:m * size≤cap * size:=Nat.mul_le_mul_right size (Nat.le_trans hmn hnc)
     have hl:=run_loadCells_list (P:=P) w ⟨b,off,none⟩ (l.flatMap enc) hcl
     have hst:=run_storeCells_at P g 0 e (l.flatMap enc) 0 cur w hh (by rw [hfl,hcs];omega) (fun v hv=>by
      obtain ⟨x,_,hx⟩:=List.mem_flatMap.1 hv
      exact h1 x v hx)
     rw [hfl] at hl hst
     have hrun:(Builtin.copy_ #[t,t] o.type #[.slice (some ⟨g,0,none⟩) n cap,.slice (some ⟨b,off,none⟩) m c]).run P w=.ok (goInt m) (w.setRow g ((l.flatMap enc)++cur.toList.drop (m * size)).toArray):=by
      simp [Builtin.copy_,run_underlying T.und,Builtin.lenOf,Builtin.firstCells,sizeOf,typeInfo,hi,hz1,hmin,Nat.min_eq_left hmn,hl,hst]
     unfold Oper.wp
     simp only [execOp,ho,resolve,invoke,builtin,List.map_toArray,List.map_cons,List.map_nil,hd,hs,hrun,Result.andThen,Sem.run_bind,Sem.run_pure]
     refine hK _ _ (h _ ⟨?_,.inr ⟨g,cap,_,rfl,hbg,setRow_heap w g cur _ e _ hh,hnc,hcm,?_,?_⟩⟩ ⟨rfl,rfl,rfl,by simp,fun k _ hk=>setRow_other w g k _ (fun e=>hk (by simp [e]))⟩)
     · have:=Nat.mul_le_mul_right size hmn
       simp [hfl,hx];omega
     · have:cur.toList.length=cap * size:=by simpa using hcs
       simp [hfl];omega
     · have:=Nat.mul_le_mul_right size hmn
       simp only []
       rw [List.take_append,List.take_of_length_le (by rw [hfl];exact this),hfl,← ht,List.drop_take]
end
theorem below_chain {B g:Nat} {a:World} (hg:B≤g):∀ (vs:List Value) (w:World) (o:Nat),Below B a w→Below B a (setChain w g o vs)
 | [],_,_,h=>h
 | v :: t,w,o,h=>below_chain hg t _ _ (h.setCell (p:=⟨g,o,none⟩) hg v)
theorem grown_set' (w:World) (g o:Nat) (v:Value):w.grownBy (w.setCell ⟨g,o,none⟩ v) (some g):=⟨rfl,rfl,rfl,by simp,fun k _ hk=>heap_setCell_other w ⟨g,o,none⟩ k v (fun e=>hk (by rw [e]))⟩
theorem own_apart {w:World} {B e s n:Nat} {v:Value} {xs:List Value} {B' e' s' n':Nat} {v':Value} {xs':List Value} (h:w.ownsRow B e s v n xs) (h':w.ownsRow B' e' s' v' n' xs') (hne:e ≠ e'):v.ownBlock=none∨v.ownBlock ≠ v'.ownBlock:=by
 rcases h.2 with ⟨rfl,_⟩ | ⟨g,cap,cur,rfl,_,hh,_⟩
 · exact .inl rfl
 · right
   have:=own_ne h' hh hne
   simpa [Value.ownBlock] using this.symm
theorem own_grown {w w':World} {B e s n:Nat} {v:Value} {xs:List Value} {B' e' s' n':Nat} {v':Value} {xs':List Value} (h:w.ownsRow B e s v n xs) (h':w.ownsRow B' e' s' v' n' xs') (hne:e ≠ e') (hg:w.grownBy w' v'.ownBlock):w'.ownsRow B e s v n xs :=
 h.kept hg (own_apart h h' hne)
theorem own_addr {w:World} {B e s n c:Nat} {a:Option Addr} {xs:List Value} (h:w.ownsRow B e s (.slice a n c) n xs) (hn:0 < n):∃ g,a=some ⟨g,0,none⟩∧B≤g∧g < w.heap.size:=by
 obtain ⟨a',c',hv,hp⟩:=owns_shape h
 simp only [Value.slice.injEq] at hv
 obtain ⟨rfl,-,-⟩:=hv
 exact hp hn
section
variable {P : Program} {w : World} {ops : Array Oper} {rest : List Oper} {o : Oper} {a : Act} {Q : Exit → Act → World → Prop}
end
section
variable {P : Program} {w : World} {ops : Array Oper} {rest : List Oper} {o : Oper} {a : Act} {Q : Exit → Act → World → Prop}
/-- append(v, src...), v owned, src nil or not. -/
theorem L_appendE (hgd:o.guard=none) (s x:Operand) (t:TypeId) (ho:o.op=.call { callee:=.builtin .append,args:=#[s,x],argTypes:=#[t,t] })
 {e:TypeId} {z:Value} {size bytes:Nat} (T:Sl P t e z size bytes) (base:Nat) (av:Option Addr) (n cv:Nat) (xs:List Value) (hs:a.eval s=.slice av n cv) (hown:w.ownsRow base e size (.slice av n cv) n xs) (aa:Option Addr) (m c:Nat) (l:List Value) (hx:a.eval x=.slice aa m c)
 (hsrc:(aa=none∧m=0∧c=0∧l=[])∨∃ ad,aa=some ad∧∀ j u,l[j]?=some u→w.cell? (ad.add j)=some u) (hl:l.length=m * size) (h1:∀ u ∈ l,u.oneCell'=true) (hb:(n+m) * bytes≤140737488355328) (hm:n+m≤maxLen) (hbase:base≤w.heap.size)
 (h:∀ a' c' w',w'.ownsRow base e size (.slice a' (n+m) c') (n+m) (xs++l)→w.grownBy w' (Value.slice av n cv).ownBlock→wpList P ops Q rest (a.put o.dst (.slice a' (n+m) c')) w'):wpList P ops Q (o :: rest) a w:=by
 rcases hsrc with ⟨rfl,rfl,rfl,rfl⟩ | ⟨ad,rfl,hc⟩
 · obtain ⟨i,hi,hz0,hz1,hz2⟩:=info_parts T.inf
   refine wpList_append_own_none hgd s x t ho base e i size T.und hi _ n xs hs hown hx (h av cv w ?_ ⟨rfl,rfl,rfl,Nat.le_refl _,fun _ _ _=>rfl⟩)
   simpa using hown
 · exact L_appendN hgd s x t ho T base _ n xs hs hown ad m c l hx hl hc h1 hb hm hbase fun a' c' w' h2 h3 _=>h a' c' w' h2 h3
end
theorem own_low {w w':World} {B e s n g:Nat} {v:Value} {xs:List Value} (h:w.ownsRow B e s v n xs) (hb:Below g w w') (hlt:∀ q,v.ownBlock=some q→q < g):w'.ownsRow B e s v n xs:=by
 refine ⟨h.1,?_⟩
 rcases h.2 with hn | ⟨g',cap,cur,rfl,hb',hgg,rest⟩
 · exact .inl hn
 · refine .inr ⟨g',cap,cur,rfl,hb',?_,rest⟩
   rw [hb.block g' (hlt g' rfl)]
   exact hgg
open Go.ChangeShapes Go.WideShapes
def Iv (k:Int):List Value:=[.int .i64 k]
abbrev nodeV (op:Int) (nm:ByteArray) (vk vn:Int) (vt:ByteArray) (sa:Option Addr) (sl sc:Nat) (ka:Option Addr) (kl kc:Nat):Array Value :=
 #[.int .i64 op,.string nm,.int .i64 vk,.int .i64 vn,.string vt,.slice sa sl sc,.slice ka kl kc]
/-- A node, as it lies in memory. -/
structure Nd where
 op:Int
 nm:ByteArray
 vk:Int
 vn:Int
 vt:ByteArray
 sa:Option Addr
 sl:Nat
 sc:Nat
 ka:Option Addr
 kl:Nat
 kc:Nat
 ks:List Int
abbrev Nd.v (n:Nd):Array Value:=nodeV n.op n.nm n.vk n.vn n.vt n.sa n.sl n.sc n.ka n.kl n.kc
def Nd.cs (n:Nd):List Value:=[.int .i64 n.op,.string n.nm,.int .i64 n.vk,.int .i64 n.vn,.string n.vt,.slice n.sa n.sl n.sc,.slice n.ka n.kl n.kc]
def Nd.right (n:Nd):Bool:=rightB n.op n.nm.data.toList n.vk n.vn n.vt.data.toList n.sl n.kl
def Nd.ok (w:World) (n:Nd):Prop:=RS 1 Iv w n.ka n.kl n.kc n.ks∧n.nm.size≤maxLen∧(-9223372036854775808≤n.vn∧n.vn≤9223372036854775807)
theorem Nd.ok.below {w w':World} {n:Nd} (h:n.ok w) (hb:Below w.heap.size w w'):n.ok w':=⟨h.1.below hb,h.2⟩
theorem Iv_len (x:Int):(Iv x).length=1:=rfl
theorem Nd_len2 (x:Nd):x.cs.length=7:=rfl
theorem c42:Tryz.prog.cellsOf 54=1:=by kernel_rfl
theorem c45:Tryz.prog.cellsOf 24=1:=by kernel_rfl
theorem c47:Tryz.prog.cellsOf 43=4:=by kernel_rfl
theorem c49:Tryz.prog.cellsOf 56=7:=by kernel_rfl
theorem by49:Tryz.prog.bytesOf 56=104:=by kernel_rfl
theorem weightsAll_mem {H:Type} {P:Program} {e:TypeId}:∀ {l:List (DataW H)} {d:DataW H},d ∈ l→∀ n ∈ d.weights P e,n ∈ DataW.weightsAll P e l
 | d' :: r,d,hd,n,hn=>by
   simp only [DataW.weightsAll,List.mem_append]
   rcases List.mem_cons.1 hd with rfl | h
   · exact Or.inl hn
   · exact Or.inr (weightsAll_mem h n hn)
section
variable {H : Type} {enc : TypeId × Value → H} {W : World} {fuel : Nat}
theorem spot_row {x:Addr} {n:Nat} (h:∀ i,i < n→∃ v,W.cell? (x.add i)=some v) (hn:0 < n):∃ b off,x=⟨b,off,none⟩:=by
 obtain ⟨b,off,spot⟩:=x
 obtain ⟨v,h0⟩:=h 0 hn
 have:spot=none:=by simpa [Addr.add] using World.cell?_spot h0
 exact ⟨b,off,by rw [this]⟩
end
section
variable {H : Type} {enc : TypeId × Value → H} {W : World} {fuel : Nat}
theorem open_kids {cs:List Value} {x:DataW H × List MemPlace} (h:DataW.trod enc Tryz.prog W 0 (fun _=>true) true fuel 54 cs=some x) (hw:∀ n ∈ x.1.weights Tryz.prog 54,n≤reachBytes) :
 ∃ a n c ks,cs=[.slice a n c]∧RS 1 Iv W a n c ks:=by
 rcases open_ints Tryz.underlying54 Tryz.underlying3 c3 h with ⟨rfl,_⟩ | ⟨x,l,c,zs,rfl,_,hl,hm,hz,rfl,hcell,hwz⟩
 · exact ⟨none,0,0,[],rfl,rfl,Nat.le_refl _,by omega,fun i x h=>by simp at h⟩
 · simp only [if_true] at hz
   have:=hw _ (by simp only [DataW.weights,Tryz.underlying54];exact List.mem_cons_self)
   simp only [lits,List.length_map,List.length_take,List.length_drop,by3,reachBytes] at this
   refine ⟨some x,l,c,zs.take l,rfl,by simp;omega,hl,by omega,fun i y hy=>?_⟩
   have hil:i < l:=by have:=(List.getElem?_eq_some_iff.1 hy).1;simp at this;omega
   obtain ⟨b,off,rfl⟩:=spot_row (fun j hj=>⟨_,hcell j hj⟩) (by omega)
   refine ⟨b,off,rfl,fun j v hv=>?_⟩
   have hj:j=0:=by have:=(List.getElem?_eq_some_iff.1 hv).1;simp [Iv] at this;omega
   subst hj
   have h1:=hcell i (by omega)
   rw [Addr.add_lit] at h1
   rw [Nat.mul_one,Nat.add_zero,h1]
   rw [List.getElem?_take_of_lt hil] at hy
   simp only [Iv,List.getElem?_cons_zero,Option.some.injEq] at hv
   rw [← hv,List.getD_eq_getElem?_getD,hy];rfl
end
section
variable {H : Type} {enc : TypeId × Value → H} {W : World} {fuel : Nat}
end
section
variable {P : Program} {w : World} {ops : Array Oper} {rest : List Oper} {o : Oper} {a : Act} {Q : Exit → Act → World → Prop}
theorem l2 {α:Type} {l:List α} (h:l.length=2):∃ a b,l=[a,b]:=by
 match l,h with
 | [a,b],_=>exact ⟨a,b,rfl⟩
end
section
variable {P : Program} {w : World} {ops : Array Oper} {rest : List Oper} {o : Oper} {a : Act} {Q : Exit → Act → World → Prop}
theorem l4 {α:Type} {l:List α} (h:l.length=4):∃ a b c d,l=[a,b,c,d]:=by
 match l,h with
 | [a,b,c,d],_=>exact ⟨a,b,c,d,rfl⟩
end
section
variable {P : Program} {w : World} {ops : Array Oper} {rest : List Oper} {o : Oper} {a : Act} {Q : Exit → Act → World → Prop}
theorem l7 {α:Type} {l:List α} (h:l.length=7):∃ a b c d e f g,l=[a,b,c,d,e,f,g]:=by
 match l,h with
 | [a,b,c,d,e,f,g],_=>exact ⟨a,b,c,d,e,f,g,rfl⟩
end
section
variable {P : Program} {w : World} {ops : Array Oper} {rest : List Oper} {o : Oper} {a : Act} {Q : Exit → Act → World → Prop}
def Nd.okS (W:World) (nd:Nd):Prop:=nd.ok W∧∃ ss,RS 1 Sv W nd.sa nd.sl nd.sc ss
end
section
variable {H : Type} {enc : TypeId × Value → H} {W : World} {fuel : Nat}
end
section
variable {H : Type} {enc : TypeId × Value → H} {W : World} {fuel : Nat}
end
theorem okS_below {w w':World} {nd:Nd} (h:nd.okS w) (hb:Below w.heap.size w w'):nd.okS w':=by
 unfold Nd.okS at h ⊢
 obtain ⟨h1,ss,h2⟩:=h
 exact ⟨h1.below hb,ss,h2.below hb⟩
theorem sl45:Sl Tryz.prog 24 9 (.string ByteArray.empty) 1 16:=⟨by kernel_rfl,by kernel_rfl,rfl,by decide⟩
theorem same_S (w:World) (a:Option Addr) (n c:Nat) (xs:List (ByteArray)) (hx:RS 1 Sv w a n c xs) (b:Option Addr) (d:Nat) (hy:RS 1 Sv w b n d xs) :
 Calls Tryz.prog 30 #[.slice a n c,.slice b n d] w fun e w'=>e=.returned (.bool true)∧Below w.heap.size w w':=by
 have hlx:=hx.1
 have hn48:=hx.2.2.1
 have HX:=Lib.hid hx
 have HY:=Lib.hid hy
 clear hx hy
 go_enter Tryz.func30,Tryz.ntmps30
 go_wp2_with fail
 go_loopw [5] (fun i wr=>∃ k:Nat,k≤n∧i=.int .i64 k∧Below w.heap.size w wr) (fun i _=>n - (intOf i).toNat)
 case atStart=>exact ⟨0,by omega,rfl,Below.refl _ _⟩
 case round =>
  obtain ⟨k,hk,rfl,hb⟩:=hrel
  have HB:=Lib.hid hb
  clear hb
  by_cases hlt:k < n
  · obtain ⟨xa,xo,x,rfl,hx,hcx⟩:=HX.out.at hlt
    obtain ⟨ya,yo,y,rfl,hy,hcy⟩:=HY.out.at hlt
    obtain rfl:x=y:=Option.some.inj (hx.symm.trans hy)
    have x0:=(HB.out.cell (p:=⟨xa,xo+k * 1+0,none⟩) (block_lt_of_cell (hcx 0 _ rfl))).trans (hcx 0 _ rfl)
    have y0:=(HB.out.cell (p:=⟨ya,yo+k * 1+0,none⟩) (block_lt_of_cell (hcy 0 _ rfl))).trans (hcy 0 _ rfl)
    simp only [Nat.add_zero,Nat.mul_one] at x0 y0
    have hltI:(k:Int) < (n:Int):=by omega
    clear hx hy hcx hcy
    go_wp2
    go_region
    go_wp2
    go_roundw
    case rel=>exact ⟨k+1,by omega,by go_num,HB.out.drew⟩
    case measure=>simp [intOf];omega
  · have hltI:¬ (k:Int) < (n:Int):=by omega
    go_wp2
    go_ret
    exact ⟨rfl,HB.out⟩
theorem madeFlat {α:Type} (enc:α→List Value) (s:Nat) (hs:0 < s) (he:∀ x,(enc x).length=s) (z:α) (n:Nat):(madeCells (enc z).toArray (n * s)).toList=(List.replicate n z).flatMap enc:=by
 apply List.ext_getElem?
 intro j
 by_cases hj:j < n * s
 · have hi:j / s < n:=(Nat.div_lt_iff_lt_mul hs).2 hj
   have hm:j % s < (enc z).length:=by rw [he];exact Nat.mod_lt _ hs
   have:=flat_get enc s he (List.replicate n z) (j / s) z (by rw [List.getElem?_replicate,if_pos hi]) (j % s) _ (List.getElem?_eq_getElem hm)
   rw [show j / s * s+j % s=j by rw [Nat.mul_comm];exact Nat.div_add_mod j s] at this
   rw [this]
   simp [madeCells,hj,he]
   rw [List.getElem?_eq_getElem hm];rfl
 · rw [List.getElem?_eq_none (by simp [madeCells];omega),List.getElem?_eq_none (by rw [flat_len enc s he];simp;omega)]
theorem dropRep {α:Type} (enc:α→List Value) (s:Nat) (he:∀ x,(enc x).length=s) (z:α) (n:Nat):((List.replicate (n+80) z).flatMap enc).drop (n * s)=(List.replicate (n+80 - n) z).flatMap enc:=by
 have h1:List.replicate (n+80) z=List.replicate n z++List.replicate 80 z:=by rw [List.replicate_append_replicate]
 have h2:n * s=((List.replicate n z).flatMap enc).length:=by rw [flat_len enc s he];simp
 rw [h1,List.flatMap_append,h2,List.drop_left,show n+80 - n=80 by omega]
theorem fill_step {α:Type} (z:α) (l:List α) (n k:Nat) (m:α) (hl:l.length=n) (h1:n≤k) (h2:k < n+80) :
 (l++List.replicate (k - n) m++List.replicate (n+80 - k) z).set k m=l++List.replicate (k+1 - n) m++List.replicate (n+80 - (k+1)) z:=by
 rw [List.set_append_right _ _ (by simp;omega),show k - (l++List.replicate (k - n) m).length=0 by simp;omega,show n+80 - k=(n+80 - (k+1))+1 by omega,
  List.replicate_succ,List.set_cons_zero,show k+1 - n=(k - n)+1 by omega,List.replicate_succ' (n:=k - n)]
 simp
theorem fill_at {α:Type} (z:α) (l:List α) (n k:Nat) (m:α) (hl:l.length=n) (h1:n≤k) (h2:k < n+80):(l++List.replicate (k - n) m++List.replicate (n+80 - k) z)[k]?=some z:=by
 rw [List.getElem?_append_right (by simp;omega),List.getElem?_replicate,if_pos (by simp;omega)]
theorem roomy_S (w:World) (a:Option Addr) (n c:Nat) (l:List (ByteArray)) (m:ByteArray) (h:RS 1 Sv w a n c l) (hn:n≤1000000) :
 Calls Tryz.prog 37 #[.slice a n c,.string m] w fun e w'=>∃ g,e=.returned (.slice (some ⟨g,0,none⟩) (n+80) (n+80)) ∧
  w'.ownsRow w.heap.size 9 1 (.slice (some ⟨g,0,none⟩) (n+80) (n+80)) (n+80) ((l++List.replicate 80 m).flatMap Sv)∧Below w.heap.size w w':=by
 have hl:=Lib.hid h.1
 obtain ⟨B,hB⟩:∃ B,B=w.heap.size:=⟨_,rfl⟩
 have HB:=Lib.hid hB
 have hbb:Below B w w:=Below.refl _ _
 have hBle:B≤w.heap.size:=by omega
 have HR:=Lib.hid h
 clear hB h
 go_enter Tryz.func37,Tryz.ntmps37
 go_wp2_with (first
  | (at_make;refine L_make rfl _ _ _ rfl sl45 B .i64 .i64 _ (n+80) rfl rfl (by omega) (by omega) (by simp [maxLen];omega) (by omega) (fun w1 ho1 hg1=>?_)
     rw [← HB.out] at ho1 ⊢)
  | (refine L_copyN rfl _ _ _ rfl sl45 B B (n+80) (n+80) _ rfl ho1 Sv_len (fun x v hv=>by simp [Sv] at hv;subst hv;rfl) _ _ _ _ rfl (HR.out.below (Below.mono (hbb.grown hg1 (by have:=HB.out;omega) (by intro k hk;cases hk)) (by have:=HB.out;omega))) (by omega) (fun w2 ho2 hg2=>?_)))
 have hb1:=hbb.grown hg1 (by omega) (by intro k hk;cases hk)
 have hb2:=hb1.grown hg2 (by have:=HB.out;have:=hb1.size;omega) (by intro k hk;cases hk;omega)
 have ho3:w2.ownsRow B 9 1 (.slice (some ⟨B,0,none⟩) (n+80) (n+80)) (n+80) ((l++List.replicate (n - n) m++List.replicate (n+80-n) ByteArray.empty).flatMap Sv):=by
  have e1:=madeFlat Sv 1 (by decide) Sv_len ByteArray.empty (n+80)
  have e2:(madeCells (Value.cells (Value.string ByteArray.empty)) ((n+80) * 1)).toList=(List.replicate (n+80) ByteArray.empty).flatMap Sv:=e1
  rw [e2] at ho2
  have e3:((List.replicate (n+80) ByteArray.empty).flatMap Sv).drop (n * 1)=(List.replicate (n+80 - n) ByteArray.empty).flatMap Sv:=by
   exact dropRep _ _ Sv_len _ n
  rw [e3] at ho2
  simpa using ho2
 clear hb1 ho1 hg2 hg1 ho2
 go_loopw [6] (fun i wr=>∃ k:Nat,n≤k∧k≤n+80∧i=.int .i64 k∧Below B w wr∧wr.ownsRow B 9 1 (.slice (some ⟨B,0,none⟩) (n+80) (n+80)) (n+80) ((l++List.replicate (k-n) m++List.replicate (n+80-k) ByteArray.empty).flatMap Sv)) (fun i _=>n+80 - (intOf i).toNat)
 case atStart=>exact ⟨n,by omega,by omega,rfl,hb2,ho3⟩
 case round =>
  obtain ⟨k,hk1,hk2,rfl,hb,ho⟩:=hrel
  by_cases hlt:k < n+80
  · have hz:=fill_at ByteArray.empty l n k m hl.out hk1 hlt
    have c0:=own_at Sv_len ho hz 0 _ rfl
    have f0:=ho.frozenAt (k)
    simp only [Nat.add_zero,Nat.mul_one] at c0
    have ho':=Lib.hid (own_chain (Sv m) _ wr (k * 1) ho).1
    rw [setList_flat Sv 1 Sv_len _ k m (List.getElem?_eq_some_iff.1 hz).1,fill_step ByteArray.empty l n k m hl.out hk1 hlt] at ho'
    have hb':=Lib.hid (hb.setCell (p:=⟨B,k,none⟩) (by simp) (.string m))
    clear ho hb hb2 ho3 hz
    go_wp2
    go_roundw
    case rel=>exact ⟨k+1,by omega,by omega,by go_num,hb'.out,by have:=ho'.out;simpa [setChain,Sv] using this⟩
    case measure=>simp [intOf];omega
  · obtain rfl:k=n+80:=by omega
    have HO:=Lib.hid ho
    have HBB:=Lib.hid hb
    rw [HB.out] at HO HBB
    clear ho hb hb2 ho3
    rw [HB.out]
    go_wp2
    go_ret
    exact ⟨_,rfl,by simpa using HO.out,HBB.out⟩
theorem intact_S (w:World) (a:Option Addr) (n c:Nat) (l:List (ByteArray)) (m:ByteArray) (h1:RS 1 Sv w a (n+80) c (l++List.replicate 80 m)) (b:Option Addr) (d:Nat) (h2:RS 1 Sv w b n d l) (hn:n≤1000000) :
 Calls Tryz.prog 38 #[.slice a (n+80) c,.slice b n d,.string m] w fun e w'=>e=.returned (.bool true)∧Below w.heap.size w w':=by
 have hl:=h2.1
 have hc1:=h1.2.1
 have h3:RS 1 Sv w a n c l:=by have:=h1.cut;rwa [hl] at this
 have HL:=Lib.hid hl
 have hc2:n≤c:=by omega
 have H1:=Lib.hid h1
 have HS:=Lib.hid (same_S w a n c l h3 b d h2)
 clear h1 h2 h3 hl
 go_enter Tryz.func38,Tryz.ntmps38
 go_wp2_with (go_at_call 30;refine HS.out.mono ?_;rintro e w1 ⟨rfl,hb1⟩)
 have HB1:=Lib.hid hb1
 clear hb1
 go_loopw [7] (fun i wr=>∃ k:Nat,n≤k∧k≤n+80∧i=.int .i64 k∧Below w.heap.size w wr) (fun i _=>n+80 - (intOf i).toNat)
 case atStart=>exact ⟨n,by omega,by omega,rfl,HB1.out⟩
 case round =>
  obtain ⟨k,hk1,hk2,rfl,hb⟩:=hrel
  have HB:=Lib.hid hb
  clear hb
  by_cases hlt:k < n+80
  · obtain ⟨xa,xo,x,rfl,hx,hcx⟩:=H1.out.at hlt
    obtain rfl:x=m:=by
     rw [List.getElem?_append_right (by rw [HL.out];omega),List.getElem?_replicate,if_pos (by rw [HL.out];omega)] at hx
     exact (Option.some.inj hx).symm
    have x0:=(HB.out.cell (p:=⟨xa,xo+k * 1+0,none⟩) (block_lt_of_cell (hcx 0 _ rfl))).trans (hcx 0 _ rfl)
    simp only [Nat.add_zero,Nat.mul_one] at x0
    have hltI:(k:Int) < (n:Int)+80:=by omega
    clear hx hcx
    go_wp2
    go_roundw
    case rel=>exact ⟨k+1,by omega,by omega,by go_num,HB.out⟩
    case measure=>simp [intOf];omega
  · have hltI:¬ (k:Int) < (n:Int)+80:=by omega
    go_wp2
    go_ret
    exact ⟨rfl,HB.out⟩
end Go.Proofs.YtcnckjlmldnblaaGreatDoor

