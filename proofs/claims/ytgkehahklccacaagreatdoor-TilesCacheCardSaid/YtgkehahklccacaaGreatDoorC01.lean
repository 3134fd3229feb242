import Derived.Test.YtgkehahklccacaaGreatDoorChecked
import Derived.WalkKit
import Derived.RowKit
import Derived.Lib.Hide
import Derived.WalkSpells
import Derived.BigQuiet
import Derived.Deep.QuietTactic
import Derived.Deep.DeepCutAuto
import Derived.Deep.CutBlock
import Derived.Laws.Rows
import Derived.Deep.RegionLaw
import Derived.Deep.AppendLies
import Derived.StillTailTactics
import Derived.Maps.AppendAt
import Derived.OwnWalk
import Derived.Laws.CopyOwn
import Derived.SliceStrings
import Derived.Deep.Slices
import Derived.Laws.AppendOwnNone
import Derived.Lib.SlBytesRow
import Derived.RegionTactic
import Derived.ChangeAlike
import Derived.OpenShut
import Derived.OrdersHeld
import Derived.SizedLaws
import Derived.Deep.RegionHeld3
import Derived.BigGuardPart
import Derived.IntWalk
import Derived.Handy
import Derived.WalkLawsBesides
import Derived.LaidEql
import Derived.Stop.Asserts
import Derived.RowKitTokens
import Derived.Maps.Own
import Derived.Maps.OwnSet
namespace Go.Proofs.YtgkehahklccacaaGreatDoor
open Go Go.RowKit
open Go.Lib (hid)
set_option maxRecDepth 100000
set_option maxHeartbeats 1000000
set_option linter.unusedVariables false
set_option linter.unusedSimpArgs false
section
set_option maxHeartbeats 4000000
theorem below_drewN {B:Nat} {a w:World} (h:Below B a w) (n:Nat):Below B a (w.drewN n):=h.trans ⟨rfl,rfl,rfl,Nat.le_refl _,fun _ _=>rfl⟩
def RS {α:Type} (s:Nat) (enc:α→List Value) (w:World) (a:Option Addr) (len cap:Nat) (xs:List α):Prop :=
 xs.length=len∧len≤cap∧len≤281474976710656∧∀ i x,xs[i]?=some x→∃ b off,a=some ⟨b,off,none⟩∧∀ j v,(enc x)[j]?=some v→w.cell? ⟨b,off+i * s+j,none⟩=some v
theorem RS.below {α:Type} {s:Nat} {enc:α→List Value} {w w':World} {a:Option Addr} {len cap:Nat} {xs:List α} (h:RS s enc w a len cap xs) (hb:Below w.heap.size w w'):RS s enc w' a len cap xs:=by
 obtain ⟨h1,h2,h3,h4⟩:=h
 refine ⟨h1,h2,h3,fun i x hx=>?_⟩
 obtain ⟨b,off,e,hc⟩:=h4 i x hx
 exact ⟨b,off,e,fun j v hv=>by rw [hb.cell (World.block_lt_of_cell? w _ (hc j v hv))];exact hc j v hv⟩
theorem RS.at {α:Type} {s:Nat} {enc:α→List Value} {w:World} {a:Option Addr} {len cap:Nat} {xs:List α} (h:RS s enc w a len cap xs) {i:Nat} (hi:i < len) :
 ∃ b off x,a=some ⟨b,off,none⟩∧xs[i]?=some x∧∀ j v,(enc x)[j]?=some v→w.cell? ⟨b,off+i * s+j,none⟩=some v:=by
 obtain ⟨h1,h2,h3,h4⟩:=h
 obtain ⟨b,off,e,hc⟩:=h4 i xs[i] (List.getElem?_eq_getElem (by omega))
 exact ⟨b,off,_,e,List.getElem?_eq_getElem (by omega),hc⟩
theorem RS.cell {α:Type} {s:Nat} {enc:α→List Value} {w:World} {b off len cap:Nat} {xs:List α} (h:RS s enc w (some ⟨b,off,none⟩) len cap xs) (i:Nat) (x:α) (hx:xs[i]?=some x) (j:Nat) (v:Value) (hv:(enc x)[j]?=some v) :
 w.cell? ⟨b,off+i * s+j,none⟩=some v:=by
 obtain ⟨b',off',e,hc⟩:=h.2.2.2 i x hx
 obtain ⟨rfl,rfl⟩:b=b'∧off=off':=by simpa using e
 exact hc j v hv
structure Sl (P:Program) (t e:TypeId) (z:Value) (size bytes:Nat):Prop where
 und:P.underlying t=some (.slice e)
 inf:(P.info? e).map (fun i=>(i.zero,i.size,i.bytes))=some (some z,size,bytes)
 zs:z.cells.size=size
 pos:0 < size
theorem gwk {w1 w2:World} (hb:Below w1.heap.size w1 w2):w1.grownBy w2 none:=⟨hb.os,hb.tape,hb.output,hb.size,fun k hk _=>hb.block k hk⟩
theorem own_below {w w':World} {B e s:Nat} {v:Value} {n:Nat} {xs:List Value} (h:w.ownsRow B e s v n xs) (hb:Below w.heap.size w w'):w'.ownsRow B e s v n xs:=h.kept (gwk hb) (by cases v.ownBlock <;> simp)
theorem owns_shape {w:World} {base e size:Nat} {v:Value} {n:Nat} {xs:List Value} (h:w.ownsRow base e size v n xs) :
 ∃ a c,v=.slice a n c∧(0 < n→∃ g,a=some ⟨g,0,none⟩∧base≤g∧g < w.heap.size):=by
 rcases h.2 with ⟨rfl,rfl⟩ | ⟨g,cap,cur,rfl,hb,hh,_⟩
 · exact ⟨none,0,rfl,fun h=>by omega⟩
 · exact ⟨_,_,rfl,fun _=>⟨g,rfl,hb,(Array.getElem?_eq_some_iff.1 hh).1⟩⟩
theorem owns_mono {w:World} {B B' e size:Nat} {v:Value} {n:Nat} {xs:List Value} (h:w.ownsRow B e size v n xs) (hb:B'≤B):w.ownsRow B' e size v n xs:=by
 refine ⟨h.1,?_⟩
 rcases h.2 with h | ⟨g,cap,cur,hv,hg,r⟩
 · exact .inl h
 · exact .inr ⟨g,cap,cur,hv,Nat.le_trans hb hg,r⟩
section
variable {P : Program} {w : World} {ops : Array Oper} {rest : List Oper} {o : Oper} {a : Act} {Q : Exit → Act → World → Prop}
theorem W_appendN {K:Act→World→Prop} (s x:Operand) (t:TypeId) (ho:o.op=.call { callee:=.builtin .append,args:=#[s,x],argTypes:=#[t,t] })
 {e:TypeId} {z:Value} {size bytes:Nat} (T:Sl P t e z size bytes) (base:Nat) (v:Value) (n:Nat) (xs:List Value) (hs:a.eval s=v) (hown:w.ownsRow base e size v n xs)
 (ad:Addr) (m c:Nat) (l:List Value) (hx:a.eval x=.slice (some ad) m c) (hl:l.length=m * size) (hr:∀ j u,l[j]?=some u→w.cell? (ad.add j)=some u) (h1:∀ u ∈ l,u.oneCell'=true) (hb:(n+m) * bytes≤140737488355328) (hm:n+m≤maxLen) (hbase:base≤w.heap.size)
 (h:∀ a' c' w',w'.ownsRow base e size (.slice a' (n+m) c') (n+m) (xs++l)→w.grownBy w' v.ownBlock→((Value.slice a' (n+m) c').ownBlock=v.ownBlock∨(Value.slice a' (n+m) c').ownBlock=some w.heap.size)→K (a.put o.dst (.slice a' (n+m) c')) w'):o.wp P a w K Q:=by
 obtain ⟨i,hi,hz0,hz1,hz2⟩:=info_parts T.inf
 obtain ⟨v',w',hr2,h2,h3,_,h5⟩:=run_append_own_at (P:=P) w base t o.type e i z size bytes T.und hi hz0 hz1 hz2 T.zs T.pos v n xs hown ad m c l hl hr h1 hm hb hbase
 unfold Oper.wp execOp
 simp only [ho,resolve,invoke,builtin,Sem.run_bind,Sem.run_pure,Result.andThen_ok,List.map_toArray,List.map_cons,List.map_nil,hs,hx,hr2]
 obtain ⟨a',c',rfl,_⟩:=owns_shape h2
 exact h a' c' w' h2 h3 h5
end
section
variable {P : Program} {w : World} {ops : Array Oper} {rest : List Oper} {o : Oper} {a : Act} {Q : Exit → Act → World → Prop}
theorem L_appendN (hgd:o.guard=none) (s x:Operand) (t:TypeId) (ho:o.op=.call { callee:=.builtin .append,args:=#[s,x],argTypes:=#[t,t] })
 {e:TypeId} {z:Value} {size bytes:Nat} (T:Sl P t e z size bytes) (base:Nat) (v:Value) (n:Nat) (xs:List Value) (hs:a.eval s=v) (hown:w.ownsRow base e size v n xs)
 (ad:Addr) (m c:Nat) (l:List Value) (hx:a.eval x=.slice (some ad) m c) (hl:l.length=m * size) (hr:∀ j u,l[j]?=some u→w.cell? (ad.add j)=some u) (h1:∀ u ∈ l,u.oneCell'=true) (hb:(n+m) * bytes≤140737488355328) (hm:n+m≤maxLen) (hbase:base≤w.heap.size)
 (h:∀ a' c' w',w'.ownsRow base e size (.slice a' (n+m) c') (n+m) (xs++l)→w.grownBy w' v.ownBlock→((Value.slice a' (n+m) c').ownBlock=v.ownBlock∨(Value.slice a' (n+m) c').ownBlock=some w.heap.size)→wpList P ops Q rest (a.put o.dst (.slice a' (n+m) c')) w'):wpList P ops Q (o :: rest) a w :=
 wpList_plain hgd fun _ hK=>W_appendN s x t ho T base v n xs hs hown ad m c l hx hl hr h1 hb hm hbase fun a' c' w' h2 h3 h4=>hK _ _ (h a' c' w' h2 h3 h4)
end
section
variable {P : Program} {w : World} {ops : Array Oper} {rest : List Oper} {o : Oper} {a : Act} {Q : Exit → Act → World → Prop}
theorem S_appendN {K:Act→World→Prop} {E:Prop} (hgd:o.guard=none) (s x:Operand) (t:TypeId) (ho:o.op=.call { callee:=.builtin .append,args:=#[s,x],argTypes:=#[t,t] })
 {e:TypeId} {z:Value} {size bytes:Nat} (T:Sl P t e z size bytes) (base:Nat) (v:Value) (n:Nat) (xs:List Value) (hs:a.eval s=v) (hown:w.ownsRow base e size v n xs)
 (ad:Addr) (m c:Nat) (l:List Value) (hx:a.eval x=.slice (some ad) m c) (hl:l.length=m * size) (hr:∀ j u,l[j]?=some u→w.cell? (ad.add j)=some u) (h1:∀ u ∈ l,u.oneCell'=true) (hb:(n+m) * bytes≤140737488355328) (hm:n+m≤maxLen) (hbase:base≤w.heap.size)
 (h:∀ a' c' w',w'.ownsRow base e size (.slice a' (n+m) c') (n+m) (xs++l)→w.grownBy w' v.ownBlock→((Value.slice a' (n+m) c').ownBlock=v.ownBlock∨(Value.slice a' (n+m) c').ownBlock=some w.heap.size)→K (a.put o.dst (.slice a' (n+m) c')) w') :
 if Region.wanted o (yielded ops a.tmps)=true then Oper.wp P o a w K Q else E:=by
 rw [if_pos (by simp [Region.wanted,hgd])]
 exact W_appendN s x t ho T base v n xs hs hown ad m c l hx hl hr h1 hb hm hbase h
end
theorem flat_len {α:Type} (enc:α→List Value) (s:Nat) (he:∀ x,(enc x).length=s) (xs:List α):(xs.flatMap enc).length=xs.length * s:=by
 induction xs with
 | nil=>simp
 | cons x t ih=>simp [List.flatMap_cons,he,ih,Nat.add_mul];omega
theorem flat_get {α:Type} (enc:α→List Value) (s:Nat) (he:∀ x,(enc x).length=s) (xs:List α):∀ (i:Nat) (x:α),xs[i]?=some x→∀ j v,(enc x)[j]?=some v→(xs.flatMap enc)[i * s+j]?=some v:=by
 induction xs with
 | nil=>intro i x h;simp at h
 | cons y t ih =>
   intro i x h j v hv
   have hj:j < s:=by rw [← he x];exact (List.getElem?_eq_some_iff.1 hv).1
   cases i with
   | zero =>
     simp at h
     subst h
     rw [List.flatMap_cons,Nat.zero_mul,Nat.zero_add,List.getElem?_append_left (by rw [he];exact hj),hv]
   | succ i =>
     simp only [List.getElem?_cons_succ] at h
     rw [List.flatMap_cons,List.getElem?_append_right (by rw [he,Nat.add_mul];omega),he,show (i+1) * s+j - s=i * s+j by rw [Nat.add_mul];omega]
     exact ih i x h j v hv
theorem RS.of_owns {α:Type} {s:Nat} {enc:α→List Value} {w:World} {base e:Nat} {a:Option Addr} {n c:Nat} {xs:List α} (h:w.ownsRow base e s (.slice a n c) n (xs.flatMap enc)) (hs:0 < s) (he:∀ x,(enc x).length=s) (hn:n≤281474976710656):RS s enc w a n c xs:=by
 have hl:xs.length=n:=by
  have:=h.1
  rw [flat_len enc s he] at this
  exact Nat.eq_of_mul_eq_mul_right hs this
 rcases h.2 with ⟨hv,h0⟩ | ⟨g,cap,cur,hv,hg,hh,hnc,hcm,hcs,htk⟩
 · obtain ⟨rfl,rfl,rfl⟩:=Value.slice.inj hv
   refine ⟨hl,Nat.le_refl _,by omega,fun i x hx=>?_⟩
   have:=(List.getElem?_eq_some_iff.1 hx).1
   omega
 · obtain ⟨rfl,-,rfl⟩:=Value.slice.inj hv
   refine ⟨hl,hnc,hn,fun i x hx=>⟨g,0,rfl,fun j v hv=>?_⟩⟩
   have hi:=(List.getElem?_eq_some_iff.1 hx).1
   have hj:j < s:=by rw [← he x];exact (List.getElem?_eq_some_iff.1 hv).1
   have h1:=flat_get enc s he xs i x hx j v hv
   have hlt:i * s+j < n * s:=by
    have:(i+1) * s≤n * s:=Nat.mul_le_mul_right s (by omega)
    rw [Nat.add_mul] at this;omega
   rw [cell_of_row w g _ cur e (0,0) hh,Nat.zero_add]
   rw [← htk,List.getElem?_take,if_pos hlt] at h1
   simpa using h1
theorem own_ne {w:World} {B e s n:Nat} {v:Value} {xs:List Value} (h:w.ownsRow B e s v n xs) {g:Nat} {cs:Array Value} {t:TypeId} {fz:Nat × Nat} (hg:w.heap[g]?=some (.cells cs t fz)) (hne:t ≠ e):v.ownBlock ≠ some g:=by
 rcases h.2 with ⟨rfl,_⟩ | ⟨g',cap,cur,rfl,_,hh,_⟩
 · simp [Value.ownBlock]
 · simp only [Value.ownBlock,ne_eq,Option.some.injEq]
   rintro rfl
   rw [hh] at hg
   simp at hg
   exact hne hg.2.1.symm
theorem RS.cells {α:Type} {s:Nat} {enc:α→List Value} (he:∀ x,(enc x).length=s) (hs:0 < s) {w:World} {a:Option Addr} {n c:Nat} {xs:List α} (h:RS s enc w a n c xs) {ad:Addr} (ha:a=some ad) :
 ∀ j v,(xs.flatMap enc)[j]?=some v→w.cell? (ad.add j)=some v:=by
 intro j v hv
 have hj:j < xs.length * s:=by have:=(List.getElem?_eq_some_iff.1 hv).1;rwa [flat_len enc s he] at this
 have hi:j / s < xs.length:=(Nat.div_lt_iff_lt_mul hs).2 hj
 have hx:=List.getElem?_eq_getElem hi
 obtain ⟨b,off,e,hc⟩:=h.2.2.2 (j / s) _ hx
 rw [ha] at e
 obtain rfl:=Option.some.inj e
 rw [Addr.add_lit]
 have hm:j % s < s:=Nat.mod_lt _ hs
 have hd:j=j / s * s+j % s:=by rw [Nat.mul_comm];exact (Nat.div_add_mod j s).symm
 have hv2:(enc xs[j / s])[j % s]?=some v:=by
  have hlt:j % s < (enc xs[j / s]).length:=by rw [he];exact hm
  have:=flat_get enc s he xs (j / s) _ hx (j % s) _ (List.getElem?_eq_getElem hlt)
  rw [← hd,hv] at this
  rw [List.getElem?_eq_getElem hlt,← this]
 have:=hc (j % s) v hv2
 rwa [Nat.add_assoc,← hd] at this
theorem own_at {α:Type} {enc:α→List Value} {s:Nat} (he:∀ x,(enc x).length=s) {w:World} {B e g n c:Nat} {l:List α} (h:w.ownsRow B e s (.slice (some ⟨g,0,none⟩) n c) n (l.flatMap enc)) {k:Nat} {x:α} (hx:l[k]?=some x) (j:Nat) (v:Value) (hv:(enc x)[j]?=some v) :
 w.cell? ⟨g,k * s+j,none⟩=some v:=by
 have hj:j < s:=by have:=(List.getElem?_eq_some_iff.1 hv).1;rwa [he] at this
 have hk:k < l.length:=(List.getElem?_eq_some_iff.1 hx).1
 have hln:l.length * s=n * s:=by rw [← flat_len enc s he];exact h.1
 have hlt:k * s+j < n * s:=by
  rw [← hln]
  have:(k+1) * s≤l.length * s:=Nat.mul_le_mul_right s hk
  rw [Nat.succ_mul] at this;omega
 rw [h.cellAt _ hlt]
 exact flat_get enc s he l k x hx j v hv
section
variable {P : Program} {w : World} {ops : Array Oper} {rest : List Oper} {o : Oper} {a : Act} {Q : Exit → Act → World → Prop}
end
end
section
set_option maxHeartbeats 4000000
def okC (c:UInt8):Bool:=(97≤c.toNat && c.toNat≤122) || (48≤c.toNat && c.toNat≤57) || c.toNat == 45 || c.toNat == 46
def legalB (s:ByteArray):Bool:=!(s.data.toList == []) && decide (s.size≤32) && !(s.data.toList.head? == some 46) && s.data.toList.all okC
end
section
set_option maxHeartbeats 4000000
theorem ret_bool {a b:Bool} (h:a=b):Ending.returned (Value.bool a)=Ending.returned (Value.bool b):=by rw [h]
theorem take_snoc (s:ByteArray) (k:Nat) (h:k < s.size):s.data.toList.take (k+1)=s.data.toList.take k++[s[k]]:=by
 rw [List.take_succ_eq_append_getElem (by simpa using h)];rfl
theorem lenS (s:ByteArray):s.data.toList.length=s.size:=by simp
theorem all_not (s:ByteArray) (k:Nat) (h:k < s.size) (hw:okC s[k]=false):s.data.toList.all okC=false:=by
 have:s.data.toList=s.data.toList.take k++[s[k]]++s.data.toList.drop (k+1):=by rw [← take_snoc s k h,List.take_append_drop]
 rw [this];simp [hw]
theorem head_is (s:ByteArray) (h:0 < s.size):s.data.toList.head?=some s[0]:=by
 have hl:0 < s.data.toList.length:=by simpa using h
 rw [List.head?_eq_getElem?,List.getElem?_eq_getElem hl];rfl
theorem legal_any (w:World) (s:ByteArray) (hs:s.size≤maxLen):Calls Tryz.prog 152 #[.string s] w fun e w'=>e=.returned (.bool (legalB s))∧w'=w:=by
 unfold maxLen at hs
 by_cases h0:s.size=0
 · obtain rfl:s=ByteArray.empty:=by
    apply ByteArray.ext;apply Array.toList_inj.1
    exact List.eq_nil_of_length_eq_zero (by rw [lenS];exact h0)
   go_enter Tryz.func152,Tryz.ntmps152
   go_wp2
   go_ret
   exact ⟨rfl,rfl⟩
 have hne:(s.toList == [])=false:=by
  cases hd:s.toList with
  | nil =>
    exfalso;apply h0
    have h1:s.data.toList=s.toList:=by simp [ByteArray.toList_eq]
    have:=lenS s
    rw [h1,hd] at this;simpa using this.symm
  | cons=>rfl
 by_cases h1:32 < s.size
 · have h1':(32:Int) < (s.size:Int):=by omega
   go_enter Tryz.func152,Tryz.ntmps152
   go_wp2
   go_ret
   exact ⟨ret_bool (by rw [legalB,decide_eq_false (show ¬ s.size≤32 by omega)];simp),rfl⟩
 have h0':0 < s.size:=by omega
 have h1':¬ (32:Int) < (s.size:Int):=by omega
 have hg:=head_is s h0'
 by_cases h2:(s[0].toNat:Int)=46
 · have h46:((s[0].toNat:Int) == 46)=true:=by simp;omega
   have HG:=hid (show legalB s=false by
    have:s[0]=46:=by apply UInt8.toNat_inj.1;simp;omega
    rw [legalB,hg,this];simp)
   clear hg h2
   go_enter Tryz.func152,Tryz.ntmps152
   go_wp2
   go_ret
   exact ⟨ret_bool HG.out.symm,rfl⟩
 · have h46:((s[0].toNat:Int) == 46)=false:=by simp;omega
   have HG:=hid (show legalB s=s.data.toList.all okC by
    have h3:¬ s[0]=46:=fun e=>h2 (by rw [e];rfl)
    have h4:s.data.toList ≠ []:=fun e=>by have:=lenS s;rw [e] at this;simp at this;omega
    have h5:(s.data.toList == [])=false:=by
     cases hl:s.data.toList with
     | nil=>exact absurd hl h4
     | cons=>rfl
    have h6:(some s[0] == some (46:UInt8))=false:=by simp [h3]
    rw [legalB,hg,decide_eq_true (show s.size≤32 by omega),h5,h6]
    rfl)
   clear hg h2
   go_enter Tryz.func152,Tryz.ntmps152
   go_wp2
   go_loop [19] (fun i=>∃ k:Nat,k≤s.size∧i=.int .i64 k∧(s.data.toList.take k).all okC=true) (fun i=>s.size - (intOf i).toNat)
   case atStart=>exact ⟨0,Nat.zero_le _,rfl,rfl⟩
   case round =>
    obtain ⟨k,hk,rfl,ha⟩:=hrel
    have HA:=hid ha
    clear ha
    by_cases hlt:k < s.size
    · have hts:=hid (take_snoc s k hlt)
      have hcl:(97≤(s[k].toNat:Int)∧(s[k].toNat:Int)≤122)∨(48≤(s[k].toNat:Int)∧(s[k].toNat:Int)≤57)∨(s[k].toNat:Int)=45∨(s[k].toNat:Int)=46∨(s[k].toNat:Int) < 45∨(s[k].toNat:Int)=47∨(58≤(s[k].toNat:Int)∧(s[k].toNat:Int) < 97)∨122 < (s[k].toNat:Int):=by omega
      rcases hcl with hcl | hcl | hcl | hcl | hcl | hcl | hcl | hcl
      · have g0:¬ (s[k].toNat:Int) < 97:=by omega
        have g1:¬ 122 < (s[k].toNat:Int):=by omega
        have g2:¬ (s[k].toNat:Int) < 48:=by omega
        have g3:57 < (s[k].toNat:Int):=by omega
        have g4:((s[k].toNat:Int) == 45)=false:=by simp;omega
        have g6:((s[k].toNat:Int) != 45)=true:=by simp;omega
        have g5:((s[k].toNat:Int) == 46)=false:=by simp;omega
        have g7:((s[k].toNat:Int) != 46)=true:=by simp;omega
        have hok:okC s[k]=true:=by unfold okC;simp;omega
        have HOK:=hid hok
        clear hok hcl
        go_wp2
        go_round
        case rel=>exact ⟨k+1,by omega,by go_num,by rw [hts.out,List.all_append,HA.out];simp [HOK.out]⟩
        case measure=>simp [intOf];omega
      · have g0:(s[k].toNat:Int) < 97:=by omega
        have g1:¬ 122 < (s[k].toNat:Int):=by omega
        have g2:¬ (s[k].toNat:Int) < 48:=by omega
        have g3:¬ 57 < (s[k].toNat:Int):=by omega
        have g4:((s[k].toNat:Int) == 45)=false:=by simp;omega
        have g6:((s[k].toNat:Int) != 45)=true:=by simp;omega
        have g5:((s[k].toNat:Int) == 46)=false:=by simp;omega
        have g7:((s[k].toNat:Int) != 46)=true:=by simp;omega
        have hok:okC s[k]=true:=by unfold okC;simp;omega
        have HOK:=hid hok
        clear hok hcl
        go_wp2
        go_round
        case rel=>exact ⟨k+1,by omega,by go_num,by rw [hts.out,List.all_append,HA.out];simp [HOK.out]⟩
        case measure=>simp [intOf];omega
      · have g0:(s[k].toNat:Int) < 97:=by omega
        have g1:¬ 122 < (s[k].toNat:Int):=by omega
        have g2:(s[k].toNat:Int) < 48:=by omega
        have g3:¬ 57 < (s[k].toNat:Int):=by omega
        have g4:((s[k].toNat:Int) == 45)=true:=by simp;omega
        have g6:((s[k].toNat:Int) != 45)=false:=by simp;omega
        have g5:((s[k].toNat:Int) == 46)=false:=by simp;omega
        have g7:((s[k].toNat:Int) != 46)=true:=by simp;omega
        have hok:okC s[k]=true:=by unfold okC;simp;omega
        have HOK:=hid hok
        clear hok hcl
        go_wp2
        go_round
        case rel=>exact ⟨k+1,by omega,by go_num,by rw [hts.out,List.all_append,HA.out];simp [HOK.out]⟩
        case measure=>simp [intOf];omega
      · have g0:(s[k].toNat:Int) < 97:=by omega
        have g1:¬ 122 < (s[k].toNat:Int):=by omega
        have g2:(s[k].toNat:Int) < 48:=by omega
        have g3:¬ 57 < (s[k].toNat:Int):=by omega
        have g4:((s[k].toNat:Int) == 45)=false:=by simp;omega
        have g6:((s[k].toNat:Int) != 45)=true:=by simp;omega
        have g5:((s[k].toNat:Int) == 46)=true:=by simp;omega
        have g7:((s[k].toNat:Int) != 46)=false:=by simp;omega
        have hok:okC s[k]=true:=by unfold okC;simp;omega
        have HOK:=hid hok
        clear hok hcl
        go_wp2
        go_round
        case rel=>exact ⟨k+1,by omega,by go_num,by rw [hts.out,List.all_append,HA.out];simp [HOK.out]⟩
        case measure=>simp [intOf];omega
      · have g0:(s[k].toNat:Int) < 97:=by omega
        have g1:¬ 122 < (s[k].toNat:Int):=by omega
        have g2:(s[k].toNat:Int) < 48:=by omega
        have g3:¬ 57 < (s[k].toNat:Int):=by omega
        have g4:((s[k].toNat:Int) == 45)=false:=by simp;omega
        have g6:((s[k].toNat:Int) != 45)=true:=by simp;omega
        have g5:((s[k].toNat:Int) == 46)=false:=by simp;omega
        have g7:((s[k].toNat:Int) != 46)=true:=by simp;omega
        have hok:okC s[k]=false:=by unfold okC;simp;omega
        have HW:=hid (all_not s k hlt hok)
        clear hok hcl
        go_wp2
        go_ret
        exact ⟨ret_bool (by simp only [legalB,HW.out,Bool.and_false]),rfl⟩
      · have g0:(s[k].toNat:Int) < 97:=by omega
        have g1:¬ 122 < (s[k].toNat:Int):=by omega
        have g2:(s[k].toNat:Int) < 48:=by omega
        have g3:¬ 57 < (s[k].toNat:Int):=by omega
        have g4:((s[k].toNat:Int) == 45)=false:=by simp;omega
        have g6:((s[k].toNat:Int) != 45)=true:=by simp;omega
        have g5:((s[k].toNat:Int) == 46)=false:=by simp;omega
        have g7:((s[k].toNat:Int) != 46)=true:=by simp;omega
        have hok:okC s[k]=false:=by unfold okC;simp;omega
        have HW:=hid (all_not s k hlt hok)
        clear hok hcl
        go_wp2
        go_ret
        exact ⟨ret_bool (by simp only [legalB,HW.out,Bool.and_false]),rfl⟩
      · have g0:(s[k].toNat:Int) < 97:=by omega
        have g1:¬ 122 < (s[k].toNat:Int):=by omega
        have g2:¬ (s[k].toNat:Int) < 48:=by omega
        have g3:57 < (s[k].toNat:Int):=by omega
        have g4:((s[k].toNat:Int) == 45)=false:=by simp;omega
        have g6:((s[k].toNat:Int) != 45)=true:=by simp;omega
        have g5:((s[k].toNat:Int) == 46)=false:=by simp;omega
        have g7:((s[k].toNat:Int) != 46)=true:=by simp;omega
        have hok:okC s[k]=false:=by unfold okC;simp;omega
        have HW:=hid (all_not s k hlt hok)
        clear hok hcl
        go_wp2
        go_ret
        exact ⟨ret_bool (by simp only [legalB,HW.out,Bool.and_false]),rfl⟩
      · have g0:¬ (s[k].toNat:Int) < 97:=by omega
        have g1:122 < (s[k].toNat:Int):=by omega
        have g2:¬ (s[k].toNat:Int) < 48:=by omega
        have g3:57 < (s[k].toNat:Int):=by omega
        have g4:((s[k].toNat:Int) == 45)=false:=by simp;omega
        have g6:((s[k].toNat:Int) != 45)=true:=by simp;omega
        have g5:((s[k].toNat:Int) == 46)=false:=by simp;omega
        have g7:((s[k].toNat:Int) != 46)=true:=by simp;omega
        have hok:okC s[k]=false:=by unfold okC;simp;omega
        have HW:=hid (all_not s k hlt hok)
        clear hok hcl
        go_wp2
        go_ret
        exact ⟨ret_bool (by simp only [legalB,HW.out,Bool.and_false]),rfl⟩
    · go_wp2
      go_ret
      exact ⟨ret_bool (by
       have hA:=HA.out
       rw [List.take_of_length_le (by simp;omega)] at hA
       rw [HG.out,hA]),rfl⟩
end
section
open Go Go.RowKit Go.Extern.Stop Go.Stop Go.Extern
set_option maxHeartbeats 4000000
section
variable {P : Program} (w : World)
theorem run_equalIn_iface_int (d:Nat) {ti tn:TypeId} {ms:Array (String × TypeId)} {i:TypeInfo} {k:IntKind} (a b:Int)
 (hi:P.underlying ti=some (.interface ms)) (hn:P.underlying tn=some (.int k)) (hinfo:P.info? tn=some i) (hcomp:i.comparable=true) :
 (Op.equalIn (d+2) ti (.iface tn (.int k a)) (.iface tn (.int k b))).run P w=.ok (a == b) w:=by
 simp [Op.equalIn,run_underlying hi,run_underlying hn,typeInfo,hinfo,hcomp]
theorem run_eql_iface_int {ti tn:TypeId} {ms:Array (String × TypeId)} {i:TypeInfo} {k:IntKind} (a b:Int)
 (hi:P.underlying ti=some (.interface ms)) (hn:P.underlying tn=some (.int k)) (hinfo:P.info? tn=some i) (hcomp:i.comparable=true) :
 (binOp .eql ti (.iface tn (.int k a)) (.iface tn (.int k b))).run P w=.ok (.bool (a == b)) w:=by
 simp only [binOp]
 simp [Op.equal,Op.maxDepth,run_equalIn_iface_int w 9998 a b hi hn hinfo hcomp]
end
theorem isHandle:∃ H:Value,(∀ (n:Int) (w:World),(Extern.ReflectliteType.typeOf #[.iface 92 (.int .i64 n)]).run Tryz.prog w=.ok (.iface 239 H) w)∧(∀ w:World,((Extern.ReflectliteType.method fun t=>do Extern.Rtype.noPackHeld "Comparable" t;(fun a=>Value.bool a.comparable) <$> typeInfo t) #[H]).run Tryz.prog w=.ok (.bool true) w) :=
 ⟨.agg #[typeHandle Tryz.prog 92],fun n w=>by kernel_rfl,fun w=>by kernel_rfl⟩
theorem isMethodComparable (v:Value) (w:World):(Go.method 499 239 v "Comparable").run Tryz.prog w=.ok (290,v) w:=by kernel_rfl
theorem isComp:(Tryz.prog.info? 92).map (·.comparable)=some true:=by kernel_rfl
theorem noIsF (v:Value) (xT:TypeId) (w:World):(Instr.typeAssert (.iface 90 v) xT 241 true).run Tryz.prog w=.ok (.tuple #[.nilIface,.bool false]) w:=run_typeAssert_lacksB Tryz.underlying241 (by kernel_rfl) (by kernel_rfl) v xT w
theorem hasUnwrapF (v:Value) (xT:TypeId) (w:World):(Instr.typeAssert (.iface 90 v) xT 244 true).run Tryz.prog w=.ok (.tuple #[.iface 90 v,.bool true]) w:=run_typeAssert_hasB Tryz.underlying244 (by kernel_rfl) v xT w
theorem methodUnwrap (v:Value) (w:World):(Go.method 499 90 v "Unwrap").run Tryz.prog w=.ok (285,v) w:=by kernel_rfl
theorem noIsI (v:Value) (xT:TypeId) (w:World):(Instr.typeAssert (.iface 92 v) xT 241 true).run Tryz.prog w=.ok (.tuple #[.nilIface,.bool false]) w:=run_typeAssert_lacksB Tryz.underlying241 (by kernel_rfl) (by kernel_rfl) v xT w
theorem noUnwrapI (v:Value) (xT:TypeId) (w:World):(Instr.typeAssert (.iface 92 v) xT 244 true).run Tryz.prog w=.ok (.tuple #[.nilIface,.bool false]) w:=run_typeAssert_lacksB Tryz.underlying244 (by kernel_rfl) (by kernel_rfl) v xT w
theorem noUnwrapsI (v:Value) (xT:TypeId) (w:World):(Instr.typeAssert (.iface 92 v) xT 245 true).run Tryz.prog w=.ok (.tuple #[.nilIface,.bool false]) w:=run_typeAssert_lacksB Tryz.underlying245 (by kernel_rfl) (by kernel_rfl) v xT w
abbrev boxF (c n:ByteArray) (y:Int):Obj:=.cells #[.string c,.string n,.int .i64 y] 128
def IsFault (w:World) (e:Value) (c n:ByteArray) (y:Int):Prop:=∃ g,e=.iface 90 (.pointer (some ⟨g,0,none⟩))∧w.heap[g]?=some (boxF c n y)
theorem is_same (w:World) (e:Value) (c n:ByteArray) (y:Int) (h:IsFault w e c n y) :
 Calls Tryz.prog 41 #[e,.iface 92 (.int .i64 y)] w fun e w'=>e=.returned (.bool true)∧w'=w:=by
 obtain ⟨g,rfl,h⟩:=h
 obtain ⟨i,hi,hcmp⟩:=Option.map_eq_some_iff.1 isComp
 have h8:=@run_callFunc_extern Tryz.prog 92 _ Extern.ReflectliteType.typeOf Tryz.func92 (by kernel_rfl) (by kernel_rfl) (by kernel_rfl) (by kernel_rfl)
 have h32:=@run_callFunc_extern Tryz.prog 290 _ (Extern.ReflectliteType.method fun t=>do Extern.Rtype.noPackHeld "Comparable" t;pure (.bool (← typeInfo t).comparable)) Tryz.func290 (by kernel_rfl) (by kernel_rfl) (by kernel_rfl) (by kernel_rfl)
 obtain ⟨H,tT,cT⟩:=isHandle
 have mR:=isMethodComparable
 have nE:=noIsF
 have uE:=hasUnwrapF
 have mU:=methodUnwrap
 have heq:=run_eql_iface_int (P:=Tryz.prog) w y y Tryz.underlying27 Tryz.underlying92 hi hcmp
 rw [show (y == y)=true by simp] at heq
 have hty:=run_eql_iface_types (P:=Tryz.prog) 90 92 (.pointer (some ⟨g,0,none⟩)) (.int .i64 y) Tryz.underlying27 (by decide) w
 have c2:=cell_of_row w g 2 _ _ _ h
 simp only [List.getElem?_toArray,List.getElem?_cons_zero,List.getElem?_cons_succ] at c2
 clear h hi hcmp
 go_enter Tryz.func41,Tryz.ntmps41
 go_wp2
 refine wp_loop_rounds 2 ?_
 rw [rounds_succ]
 go_wp2
 rw [rounds_succ]
 go_wp2
 go_ret
 exact ⟨rfl,rfl⟩
theorem newfault_any (w:World) (c n:ByteArray) (y:Int):Calls Tryz.prog 37 #[.string c,.string n,.int .i64 y] w fun e w'=>(∃ g,e=.returned (.pointer (some ⟨g,0,none⟩))∧w.heap.size≤g∧w'.heap[g]?=some (boxF c n y))∧Below w.heap.size w w':=by
 go_enter Tryz.func37,Tryz.ntmps37
 go_wp2
 go_ret
 exact ⟨⟨w.heap.size,rfl,Nat.le_refl _,heap_alloc_new w _⟩,(Below.refl _ _).alloc (Nat.le_refl _) _⟩
end
section
set_option maxHeartbeats 4000000
open Go.Maps Go.WideMaps
def ptrR (v:Value):Option (DataW Unit × List MemPlace):=match v with
 | .pointer none=>some (.nil,[])
 | .pointer (some ⟨g,0,none⟩)=>some (.lit (.int .i64 g),[])
 | _=>none
def ptrOf (x:DataW Unit):Value:=match x with
 | .lit (.int .i64 g)=>.pointer (some ⟨g.toNat,0,none⟩)
 | _=>.pointer none
theorem ptrR_inv {v:Value} {x:DataW Unit} {ps:List MemPlace} (h:ptrR v=some (x,ps)):v=ptrOf x∧(x=.nil∨∃ g:Nat,x=.lit (.int .i64 g)):=by
 unfold ptrR at h
 split at h
 · cases h;exact ⟨rfl,.inl rfl⟩
 · cases h;exact ⟨rfl,.inr ⟨_,rfl⟩⟩
 · cases h
theorem law9:Keyed Tryz.prog 9:=string_keyed Tryz.underlying9
abbrev kL (s:ByteArray):Lit:=.string s.data.toList
theorem key9 {s:ByteArray} (hs:s.size≤maxLen):keyOf Tryz.prog 9 (.string s)=some (kL s):=keyOf_string_mk Tryz.underlying9 hs
theorem zero57 (w:World):(zeroValue 109).run Tryz.prog w=.ok (.pointer none) w:=by kernel_rfl
def at? (D:DataW Unit) (s:ByteArray):DataW Unit:=D.atKey (kL s) .nil
theorem look_ptr {w:World} {b n:Nat} {D:DataW Unit} (h:w.ownsMap Tryz.prog 9 ptrR b n D) {s:ByteArray} (hs:s.size≤maxLen) :
 (Instr.lookup 47 (.map (some b)) (.string s) false).run Tryz.prog w=.ok (ptrOf (at? D s)) w∧(at? D s=.nil∨∃ g:Nat,at? D s=.lit (.int .i64 g)):=by
 obtain ⟨v,ps,hrun,hv⟩:=h.lookup law9 Tryz.underlying47 (zero57 w) (zd:=.nil) (zp:=[]) rfl (key9 hs)
 obtain ⟨rfl,hx⟩:=ptrR_inv hv
 exact ⟨hrun,hx⟩
structure Dk where
 acts:Int
 space:Int
 used:Int
 files:Int
 epoch:Int
 power:Bool
 nb:Nat
 sb:Nat
 ch:Value
 pl:Value
 cb:Nat
abbrev Dk.box (d:Dk):Obj:=.cells #[.int .i64 d.acts,.int .i64 d.space,.int .i64 d.used,.int .i64 d.files,.int .i64 d.epoch,.bool d.power,.map (some d.nb),.map (some d.sb),d.ch,d.pl,.map (some d.cb)] 52
theorem Dk.cells {w:World} {gd:Nat} {d:Dk} (h:w.heap[gd]?=some d.box) :
 w.cell? ⟨gd,0,none⟩=some (.int .i64 d.acts)∧w.cell? ⟨gd,1,none⟩=some (.int .i64 d.space)∧w.cell? ⟨gd,2,none⟩=some (.int .i64 d.used)∧w.cell? ⟨gd,3,none⟩=some (.int .i64 d.files)∧w.cell? ⟨gd,4,none⟩=some (.int .i64 d.epoch)∧w.cell? ⟨gd,5,none⟩=some (.bool d.power) ∧
 w.cell? ⟨gd,6,none⟩=some (.map (some d.nb))∧w.cell? ⟨gd,7,none⟩=some (.map (some d.sb))∧w.cell? ⟨gd,8,none⟩=some d.ch∧w.cell? ⟨gd,9,none⟩=some d.pl∧w.cell? ⟨gd,10,none⟩=some (.map (some d.cb))∧∀ o,w.frozen? ⟨gd,o,none⟩=false:=by
 refine ⟨?_,?_,?_,?_,?_,?_,?_,?_,?_,?_,?_,fun o=>frozen_of_row w gd o _ _ h⟩ <;> (rw [cell_of_row _ _ _ _ _ _ h];rfl)
end
section
abbrev bs (l:List UInt8):ByteArray:=⟨l.toArray⟩
abbrev Nm:=List UInt8
def lk {β:Type}:List (Nm × β)→Nm→Option β
 | [],_=>none
 | (k,i) :: r,s=>if s=k then some i else lk r s
def ins {β:Type}:List (Nm × β)→Nm→β→List (Nm × β)
 | [],s,i=>[(s,i)]
 | (k,j) :: r,s,i=>if s=k then (k,i) :: r else (k,j) :: ins r s i
def era {β:Type}:List (Nm × β)→Nm→List (Nm × β)
 | [],_=>[]
 | (k,j) :: r,s=>if s=k then r else (k,j) :: era r s
def keysOf {β:Type} (l:List (Nm × β)):List Nm:=l.map (·.1)
section
variable {β : Type}
theorem lk_none {l:List (Nm × β)} {s:Nm}:lk l s=none ↔ s ∉ keysOf l:=by
 induction l with
 | nil=>simp [lk,keysOf]
 | cons p r ih =>
   obtain ⟨k,i⟩:=p
   simp only [lk,keysOf,List.map_cons,List.mem_cons]
   by_cases h:s=k
   · simp [h]
   · simp [h];simpa [keysOf] using ih
theorem lk_some {l:List (Nm × β)} {s:Nm}:(lk l s).isSome=true ↔ s ∈ keysOf l:=by
 cases h:lk l s with
 | none=>simp [lk_none.1 h]
 | some i =>
   simp only [Option.isSome_some,true_iff]
   by_cases hm:s ∈ keysOf l
   · exact hm
   · rw [lk_none.2 hm] at h;cases h
theorem lk_of_mem {l:List (Nm × β)} (hn:(keysOf l).Nodup) {s:Nm} {i:β} (h:(s,i) ∈ l):lk l s=some i:=by
 induction l with
 | nil=>cases h
 | cons p r ih =>
   obtain ⟨k,j⟩:=p
   simp only [keysOf,List.map_cons,List.nodup_cons] at hn
   simp only [lk]
   rcases List.mem_cons.1 h with e | e
   · cases e;simp
   · have hs:s ∈ keysOf r:=List.mem_map.2 ⟨_,e,rfl⟩
     rw [if_neg (by rintro rfl;exact hn.1 hs)]
     exact ih hn.2 e
theorem lk_ins (l:List (Nm × β)) (s:Nm) (i:β) (t:Nm):lk (ins l s i) t=if t=s then some i else lk l t:=by
 induction l with
 | nil=>simp [ins,lk]
 | cons p r ih =>
   obtain ⟨k,j⟩:=p
   simp only [ins]
   by_cases h:s=k
   · subst h;simp only [if_true,lk]
     by_cases e:t=s <;> simp [e,lk]
   · rw [if_neg h];simp only [lk]
     by_cases e:t=k
     · subst e;rw [if_pos rfl,if_pos rfl,if_neg (fun e=>h e.symm)]
     · rw [if_neg e,if_neg e,ih]
theorem keys_cons (p:Nm × β) (r:List (Nm × β)):keysOf (p :: r)=p.1 :: keysOf r:=rfl
theorem keys_ins (l:List (Nm × β)) (s:Nm) (i:β):keysOf (ins l s i)=if s ∈ keysOf l then keysOf l else keysOf l++[s]:=by
 induction l with
 | nil=>simp [ins,keysOf]
 | cons p r ih =>
   obtain ⟨k,j⟩:=p
   simp only [ins]
   by_cases h:s=k
   · subst h;simp [keysOf]
   · rw [if_neg h,keys_cons,keys_cons,ih]
     by_cases hm:s ∈ keysOf r
     · rw [if_pos hm,if_pos (List.mem_cons_of_mem _ hm)]
     · rw [if_neg hm,if_neg (by simp [h,hm])];rfl
theorem lk_era {l:List (Nm × β)} (hn:(keysOf l).Nodup) (s t:Nm):lk (era l s) t=if t=s then none else lk l t:=by
 induction l with
 | nil=>simp [era,lk]
 | cons p r ih =>
   obtain ⟨k,j⟩:=p
   simp only [keysOf,List.map_cons,List.nodup_cons] at hn
   simp only [era]
   by_cases h:s=k
   · subst h;rw [if_pos rfl];simp only [lk]
     by_cases e:t=s
     · subst e;rw [if_pos rfl];exact lk_none.2 hn.1
     · rw [if_neg e,if_neg e]
   · rw [if_neg h];simp only [lk]
     by_cases e:t=k
     · subst e;rw [if_pos rfl,if_pos rfl,if_neg (fun e=>h e.symm)]
     · rw [if_neg e,if_neg e];exact ih hn.2
theorem len_ins (l:List (Nm × β)) (s:Nm) (i:β):(ins l s i).length=if s ∈ keysOf l then l.length else l.length+1:=by
 have h:=congrArg List.length (keys_ins l s i)
 have h1:(keysOf (ins l s i)).length=(ins l s i).length:=by simp [keysOf]
 have h2:(keysOf l).length=l.length:=by simp [keysOf]
 rw [← h1,h]
 by_cases hm:s ∈ keysOf l
 · rw [if_pos hm,if_pos hm,h2]
 · rw [if_neg hm,if_neg hm,List.length_append,h2];rfl
theorem len_ins_le (l:List (Nm × β)) (s:Nm) (i:β):(ins l s i).length≤l.length+1:=by
 rw [len_ins];split <;> omega
theorem len_era {l:List (Nm × β)} {s:Nm} (h:s ∈ keysOf l):(era l s).length+1=l.length:=by
 induction l with
 | nil=>simp [keysOf] at h
 | cons p r ih =>
   obtain ⟨k,j⟩:=p
   simp only [era]
   by_cases e:s=k
   · rw [if_pos e];rfl
   · rw [if_neg e]
     simp only [keysOf,List.map_cons,List.mem_cons] at h
     have:=ih (h.resolve_left e)
     simp only [List.length_cons];omega
end
structure Run where
 laid:List UInt8
 cut:Nat
structure Fl where
 now:List UInt8
 safe:List UInt8
 loose:List Run
structure Chg where
 src:Nm
 dst:Nm
 made:Option Nat
structure Flt where
 step:Int
 kind:Int
 part:Int
structure Dm where
 acts:Nat
 space:Int
 used:Int
 epoch:Nat
 power:Bool
 fs:List Fl
 names:List (Nm × Nat)
 safe:List (Nm × Nat)
 changes:List Chg
 plan:List Flt
 claims:List (Nm × Int)
def Dm.new (space:Int):Dm:=⟨0,space,0,0,true,[],[],[],[],[],[]⟩
def Run.units (u:Run):Nat:=max u.laid.length 1
def Run.play (u:Run) (n:Nat) (b:List UInt8):List UInt8:=(if u.laid=[] then b.take u.cut else b)++u.laid.take n
def playN:List Run→Int→List UInt8→List UInt8
 | [],_,b=>b
 | u :: r,n,b=>if n≤0 then b else playN r (n - u.units) (u.play n.toNat b)
def playAll:List Run→List UInt8→List UInt8
 | [],b=>b
 | u :: r,b=>playAll r (u.play u.laid.length b)
def Fl.keep (f:Fl) (n:Int):Fl:=⟨playN f.loose n f.safe,playN f.loose n f.safe,[]⟩
def Fl.units (f:Fl):Nat:=(f.loose.map Run.units).sum
def Chg.act (c:Chg) (m:List (Nm × Nat)):List (Nm × Nat) :=
 match c.made with
 | some i=>if c.dst=[] then m else ins m c.dst i
 | none=>match lk m c.src with
   | some i=>if c.dst=[] then era m c.src else ins (era m c.src) c.dst i
   | none=>m
def Dm.file (d:Dm) (i:Nat):Fl:=d.fs[i]?.getD ⟨[],[],[]⟩
def Dm.lenOf (d:Dm) (s:Nm):Int:=match lk d.names s with | some i=>((d.file i).now.length:Int) | none=>0
def Dm.usedFor (d:Dm) (c:Chg):Int :=
 if c.made=none∧c.dst ≠ c.src then
  let u1:=match lk d.names c.dst with | some i=>wrap64 (d.used - ((d.file i).now.length:Int)) | none=>d.used
  if c.dst=[] then wrap64 (u1 - d.lenOf c.src) else u1
 else d.used
def Dm.change (d:Dm) (c:Chg):Dm :=
 { d with used:=d.usedFor c,names:=c.act d.names,changes:=d.changes++[c] }
def Dm.planned (d:Dm) (step:Int):Flt:=(d.plan.find? fun f=>decide (f.step=step∧1≤f.kind∧f.kind≤6)).getD ⟨0,0,0⟩
def Dm.begin (d:Dm) (whole:Dm→Dm) (part:Int→Dm→Dm):Dm × Int :=
 let f:=d.planned d.acts
 let e:Dm:={ d with acts:=d.acts+1 }
 if f.kind=1 then (e,30)
 else if f.kind=2 then (whole e,30)
 else if f.kind=3 then (part f.part e,30)
 else if f.kind=4 then (part f.part e,31)
 else if f.kind=5 then ({ part f.part e with power:=false },2)
 else if f.kind=6 then ({ whole e with power:=false },2)
 else (whole e,0)
def Dm.ask (d:Dm) (s:Nm):Option Nat × Int :=
 if d.power=false then (none,2)
 else if legalB (bs s)=false then (none,34)
 else match lk d.names s with
  | none=>(none,32)
  | some i=>(some i,0)
def Dm.setF (d:Dm) (i:Nat) (f:Fl):Dm:={ d with fs:=d.fs.set i f }
def Dm.create (d:Dm) (s:Nm):Dm × Int :=
 let a:=d.ask s
 if a.2=0 then (d,33)
 else if a.2=32 then
  if 4096≤d.names.length then (d,31)
  else d.begin (fun e=>({ e with fs:=e.fs++[⟨[],[],[]⟩] }:Dm).change ⟨[],s,some e.fs.length⟩) (fun _ e=>e)
 else (d,a.2)
def partOf (i:Nat) (fit:List UInt8) (n:Int) (e:Dm):Dm :=
 let q:=fit.take n.toNat
 if q=[] then e
 else { (e.setF i ⟨(e.file i).now++q,(e.file i).safe,(e.file i).loose++[⟨q,0⟩]⟩) with used:=wrap64 (e.used+q.length) }
def Dm.append (d:Dm) (s:Nm) (p:List UInt8):Dm × Int :=
 match d.ask s with
 | (some i,_) =>
   if 2147483647 - ((d.file i).now.length:Int) < p.length then (d,31)
   else
    let fit:=p.take (max (wrap64 (d.space - d.used)) 0).toNat
    let r:=d.begin (partOf i fit fit.length) (partOf i fit)
    if (d.planned d.acts).kind=0∧fit.length < p.length then (r.1,31) else r
 | (none,e)=>(d,e)
def Dm.cut (d:Dm) (s:Nm) (n:Int):Dm × Int :=
 match d.ask s with
 | (some i,_) =>
   if n < 0∨((d.file i).now.length:Int) < n then (d,1)
   else d.begin (fun e=>{ (e.setF i ⟨(e.file i).now.take n.toNat,(e.file i).safe,(e.file i).loose++[⟨[],n.toNat⟩]⟩) with used:=wrap64 (e.used - wrap64 (((e.file i).now.length:Int) - n)) }) (fun _ e=>e)
 | (none,e)=>(d,e)
def Dm.sync (d:Dm) (s:Nm):Dm × Int :=
 match d.ask s with
 | (some i,_)=>d.begin (fun e=>e.setF i ⟨(e.file i).now,(e.file i).now,[]⟩) (fun _ e=>e)
 | (none,e)=>(d,e)
def Dm.rename (d:Dm) (s t:Nm):Dm × Int :=
 if d.power=false then (d,2)
 else if legalB (bs s)=false then (d,34)
 else if legalB (bs t)=false then (d,34)
 else match lk d.names s with
  | none=>(d,32)
  | some _=>d.begin (fun e=>e.change ⟨s,t,none⟩) (fun _ e=>e)
def Dm.syncNames (d:Dm):Dm × Int :=
 if d.power=false then (d,2)
 else d.begin (fun e=>{ e with safe:=e.names,changes:=[] }) (fun _ e=>e)
def Dm.read (d:Dm) (s:Nm) (at_ n:Int):List UInt8 × Int :=
 match d.ask s with
 | (some i,_) =>
   if at_ < 0∨n < 0∨((d.file i).now.length:Int) < at_∨wrap64 (((d.file i).now.length:Int) - at_) < n then ([],1)
   else (((d.file i).now.drop at_.toNat).take n.toNat,0)
 | (none,e)=>([],e)
def Dm.length (d:Dm) (s:Nm):Int × Int :=
 match d.ask s with
 | (some i,_)=>((d.file i).now.length,0)
 | (none,e)=>(0,e)
def Dm.walk (d:Dm):List (Nm × Int) :=
 if d.power=false then [] else ((keysOf d.names).mergeSort fun x y=>decide (x≤y)).map fun s=>(s,d.lenOf s)
def Dm.reach (d:Dm):List Nat:=(d.safe.map (·.2)++d.changes.filterMap (·.made)).mergeSort fun x y=>decide (x≤y)
def Dm.loose (d:Dm):Nat × List Nat:=(d.changes.length,d.reach.map fun i=>(d.file i).units)
def Dm.kept (d:Dm):List (Nm × List UInt8):=d.safe.map fun p=>(p.1,(d.file p.2).safe)
end
end Go.Proofs.YtgkehahklccacaaGreatDoor
