import Derived.Test.YtgkehahklccacaaGreatDoorC02
import Derived.Maps.OwnSet
import Derived.BigQuiet
import Derived.Deep.QuietTactic
import Derived.Maps.OwnOps
namespace Go.Proofs.YtgkehahklccacaaGreatDoor
open Go Go.RowKit
open Go.Lib (hid)
set_option maxRecDepth 100000
set_option maxHeartbeats 1000000
set_option linter.unusedVariables false
set_option linter.unusedSimpArgs false
section
open Go.Maps Go.WideMaps
structure Lay where
 ρ:Nat→Nat
 fa:Nat→Nat
 nb:Nat
 sb:Nat
 cb:Nat
 ch:Value
 pl:Value
structure Only (ρ:Nat→Nat) (S:Nat→Prop) (w w':World):Prop where
 os:w'.os=w.os
 tape:w'.tape=w.tape
 output:w'.output=w.output
 size:w.heap.size≤w'.heap.size
 block:∀ k,k < w.heap.size→¬ S (ρ k)→w'.heap[k]?=w.heap[k]?
theorem Only.refl (ρ:Nat→Nat) (S:Nat→Prop) (w:World):Only ρ S w w:=⟨rfl,rfl,rfl,Nat.le_refl _,fun _ _ _=>rfl⟩
theorem Only.trans {ρ:Nat→Nat} {S:Nat→Prop} {a b c:World} (h:Only ρ S a b) (k:Only ρ S b c):Only ρ S a c :=
 ⟨k.os.trans h.os,k.tape.trans h.tape,k.output.trans h.output,Nat.le_trans h.size k.size,fun i hi hs=>(k.block i (Nat.lt_of_lt_of_le hi h.size) hs).trans (h.block i hi hs)⟩
theorem Only.mono {ρ:Nat→Nat} {S S':Nat→Prop} {a b:World} (h:Only ρ S a b) (hs:∀ r,S r→S' r):Only ρ S' a b:=⟨h.os,h.tape,h.output,h.size,fun i hi hn=>h.block i hi (fun e=>hn (hs _ e))⟩
theorem Only.of_below {ρ:Nat→Nat} {S:Nat→Prop} {a b:World} (h:Below a.heap.size a b):Only ρ S a b:=⟨h.os,h.tape,h.output,h.size,fun i hi _=>h.block i hi⟩
theorem Only.of_grown {ρ:Nat→Nat} {S:Nat→Prop} {a b:World} {row:Option Nat} (h:a.grownBy b row) (hr:∀ k,row=some k→S (ρ k)):Only ρ S a b :=
 ⟨h.os,h.tape,h.output,h.size,fun i hi hn=>h.block i hi (fun e=>hn (hr i e.symm))⟩
theorem Only.setCell {ρ:Nat→Nat} {S:Nat→Prop} (w:World) (b o:Nat) (v:Value) (hs:S (ρ b)):Only ρ S w (w.setCell ⟨b,o,none⟩ v) :=
 ⟨rfl,rfl,rfl,by simp,fun i hi hn=>heap_setCell_other w ⟨b,o,none⟩ i v (fun e=>hn (by rw [e];exact hs))⟩
def put1 (ρ:Nat→Nat) (k r:Nat):Nat→Nat:=fun j=>if j=k then r else ρ j
structure Ext (n:Nat) (ρ ρ':Nat→Nat):Prop where
 same:∀ k,ρ k ≠ 0→ρ' k=ρ k
 old:∀ k,k < n→ρ k=0→ρ' k=0
theorem Ext.refl (n:Nat) (ρ:Nat→Nat):Ext n ρ ρ:=⟨fun _ _=>rfl,fun _ _ h=>h⟩
theorem Ext.trans {n m:Nat} {a b c:Nat→Nat} (h:Ext n a b) (k:Ext m b c) (hm:n≤m):Ext n a c :=
 ⟨fun j hj=>(k.same j (by rw [h.same j hj];exact hj)).trans (h.same j hj),fun j hj h0=>k.old j (by omega) (h.old j hj h0)⟩
theorem Ext.put {n:Nat} {ρ:Nat→Nat} {k:Nat} (r:Nat) (h0:ρ k=0) (hk:n≤k):Ext n ρ (put1 ρ k r) :=
 ⟨fun j hj=>by unfold put1;rw [if_neg (by rintro rfl;exact hj h0)],fun j hj h=>by unfold put1;rw [if_neg (by omega)];exact h⟩
structure Upd (ρ ρ':Nat→Nat) (w w':World):Prop where
 os:w'.os=w.os
 tape:w'.tape=w.tape
 output:w'.output=w.output
 size:w.heap.size≤w'.heap.size
 block:∀ k,k < w.heap.size→ρ k=0→w'.heap[k]?=w.heap[k]?
 ext:Ext w.heap.size ρ ρ'
theorem Upd.refl (ρ:Nat→Nat) (w:World):Upd ρ ρ w w:=⟨rfl,rfl,rfl,Nat.le_refl _,fun _ _ _=>rfl,Ext.refl _ _⟩
theorem Upd.trans {ρ1 ρ2 ρ3:Nat→Nat} {a b c:World} (h:Upd ρ1 ρ2 a b) (k:Upd ρ2 ρ3 b c):Upd ρ1 ρ3 a c :=
 ⟨k.os.trans h.os,k.tape.trans h.tape,k.output.trans h.output,Nat.le_trans h.size k.size,fun i hi h0=>(k.block i (Nat.lt_of_lt_of_le hi h.size) (h.ext.old i hi h0)).trans (h.block i hi h0),h.ext.trans k.ext h.size⟩
theorem Upd.of_only {ρ ρ':Nat→Nat} {S:Nat→Prop} {a b:World} (h:Only ρ S a b) (h0:¬ S 0) (he:Ext a.heap.size ρ ρ'):Upd ρ ρ' a b :=
 ⟨h.os,h.tape,h.output,h.size,fun i hi hn=>h.block i hi (by rw [hn];exact h0),he⟩
theorem Upd.of_below {ρ:Nat→Nat} {a b:World} (h:Below a.heap.size a b):Upd ρ ρ a b:=⟨h.os,h.tape,h.output,h.size,fun i hi _=>h.block i hi,Ext.refl _ _⟩
theorem Upd.below {ρ ρ':Nat→Nat} {a b:World} {B:Nat} (h:Upd ρ ρ' a b) (hB:B≤a.heap.size) (h0:∀ k,k < B→ρ k=0):Below B a b:=⟨h.os,h.tape,h.output,h.size,fun i hi=>h.block i (by omega) (h0 i hi)⟩
theorem Upd.low {ρ ρ':Nat→Nat} {a b:World} {B:Nat} (h:Upd ρ ρ' a b) (hB:B≤a.heap.size) (h0:∀ k,k < B→ρ k=0):∀ k,k < B→ρ' k=0:=fun k hk=>h.ext.old k (by omega) (h0 k hk)
def OwnL (w:World) (ρ:Nat→Nat) (e s r:Nat) (v:Value) (n:Nat) (xs:List Value):Prop:=w.ownsRow 0 e s v n xs∧∀ k,v.ownBlock=some k→ρ k=r
theorem own_same {w w':World} {B e s n:Nat} {v:Value} {xs:List Value} (h:w.ownsRow B e s v n xs) (hs:∀ k,v.ownBlock=some k→w'.heap[k]?=w.heap[k]?):w'.ownsRow B e s v n xs:=by
 refine ⟨h.1,?_⟩
 rcases h.2 with h2 | ⟨g,cap,cur,hv,hb,hg,hr⟩
 · exact .inl h2
 · exact .inr ⟨g,cap,cur,hv,hb,(hs g (by rw [hv];rfl)).trans hg,hr⟩
theorem OwnL.keep {w w':World} {ρ ρ':Nat→Nat} {e s r n:Nat} {v:Value} {xs:List Value} (h:OwnL w ρ e s r v n xs) (hk:∀ k,ρ k=r→w'.heap[k]?=w.heap[k]?) (hρ:∀ k,ρ k=r→ρ' k=r):OwnL w' ρ' e s r v n xs :=
 ⟨own_same h.1 (fun k e=>hk k (h.2 k e)),fun k e=>hρ k (h.2 k e)⟩
theorem OwnL.nil (w:World) (ρ:Nat→Nat) (e s r:Nat):OwnL w ρ e s r (.slice none 0 0) 0 []:=⟨⟨by simp,.inl ⟨rfl,rfl⟩⟩,fun k e=>by cases e⟩
def RdL (w:World) (ρ:Nat→Nat) (v:Value) (l:List UInt8):Prop:=∃ a c,v=.slice a l.length c∧R8 w a l.length c l∧∀ b off,a=some ⟨b,off,none⟩→0 < l.length→ρ b=6
theorem R8.same {w w':World} {a:Option Addr} {n c:Nat} {l:List UInt8} (h:R8 w a n c l) (hs:∀ b off,a=some ⟨b,off,none⟩→0 < n→w'.heap[b]?=w.heap[b]?):R8 w' a n c l:=by
 obtain ⟨h1,h2,h3,h4⟩:=h
 refine ⟨h1,h2,h3,fun i hi=>?_⟩
 obtain ⟨b,off,e,hc⟩:=h4 i hi
 exact ⟨b,off,e,(World.cell?_of_block (hs b off e (by omega))).trans hc⟩
theorem RdL.keep {w w':World} {ρ ρ':Nat→Nat} {v:Value} {l:List UInt8} (h:RdL w ρ v l) (hk:∀ k,ρ k=6→w'.heap[k]?=w.heap[k]?) (hρ:∀ k,ρ k=6→ρ' k=6):RdL w' ρ' v l:=by
 obtain ⟨a,c,hv,hr,hl⟩:=h
 exact ⟨a,c,hv,hr.same (fun b off e h0=>hk b (hl b off e h0)),fun b off e h0=>hρ b (hl b off e h0)⟩
def runV (p:Value × Int):List Value:=[p.1,.int .i64 p.2]
def RunsAt (w:World) (ρ:Nat→Nat) (r:Nat) (v:Value) (l:List Run):Prop :=
 ∃ rs:List (Value × Int),rs.length=l.length∧OwnL w ρ 172 2 r v l.length (rs.flatMap runV)∧∀ (k:Nat) (p:Value × Int) (u:Run),rs[k]?=some p→l[k]?=some u→p.2=(u.cut:Int)∧RdL w ρ p.1 u.laid
theorem RunsAt.keep {w w':World} {ρ ρ':Nat→Nat} {r:Nat} {v:Value} {l:List Run} (h:RunsAt w ρ r v l) (hk:∀ k,ρ k=r∨ρ k=6→w'.heap[k]?=w.heap[k]?) (hρ:∀ k,ρ k=r∨ρ k=6→ρ' k=ρ k):RunsAt w' ρ' r v l:=by
 obtain ⟨rs,h1,h2,h3⟩:=h
 exact ⟨rs,h1,h2.keep (fun k e=>hk k (.inl e)) (fun k e=>(hρ k (.inl e)).trans e),fun k p u hp hu=>⟨(h3 k p u hp hu).1,(h3 k p u hp hu).2.keep (fun k e=>hk k (.inr e)) (fun k e=>(hρ k (.inr e)).trans e)⟩⟩
theorem RunsAt.nil (w:World) (ρ:Nat→Nat) (r:Nat):RunsAt w ρ r (.slice none 0 0) []:=⟨[],rfl,OwnL.nil _ _ _ _ _,fun k p u h=>by simp at h⟩
abbrev boxFile (i:Nat) (vn vs vl:Value):Obj:=.cells #[.int .i64 ((i:Int)+1),vn,vs,vl] 117
structure FAt (w:World) (ρ:Nat→Nat) (i g:Nat) (f:Fl) (vn vs vl:Value):Prop where
 box:w.heap[g]?=some (boxFile i vn vs vl)
 lg:ρ g=7+4 * i
 now:OwnL w ρ 5 1 (8+4 * i) vn f.now.length (f.now.map b8)
 safe:OwnL w ρ 5 1 (9+4 * i) vs f.safe.length (f.safe.map b8)
 loose:RunsAt w ρ (10+4 * i) vl f.loose
theorem FAt.keep {w w':World} {ρ ρ':Nat→Nat} {i g:Nat} {f:Fl} {vn vs vl:Value} (h:FAt w ρ i g f vn vs vl) (hk:∀ k,ρ k=6∨(7+4 * i≤ρ k∧ρ k≤10+4 * i)→w'.heap[k]?=w.heap[k]?) (hρ:∀ k,ρ k ≠ 0→ρ' k=ρ k):FAt w' ρ' i g f vn vs vl :=
 ⟨(hk g (.inr (by rw [h.lg];omega))).trans h.box,(hρ g (by rw [h.lg];omega)).trans h.lg,h.now.keep (fun k e=>hk k (.inr (by omega))) (fun k e=>(hρ k (by omega)).trans e),
   h.safe.keep (fun k e=>hk k (.inr (by omega))) (fun k e=>(hρ k (by omega)).trans e),h.loose.keep (fun k e=>hk k (by omega)) (fun k e=>hρ k (by omega))⟩
def NAt (w:World) (ρ:Nat→Nat) (r:Nat) (fa:Nat→Nat) (b:Nat) (m:List (Nm × Nat)):Prop :=
 ∃ D:DataW Unit,w.ownsMap Tryz.prog 9 ptrR b m.length D∧ρ b=r∧size D=m.length∧∀ s:Nm,D.atKey (.string s) .nil=(match lk m s with | none=>.nil | some i=>.lit (.int .i64 (fa i:Nat)))∧has D (.string s)=(lk m s).isSome
theorem NAt.keep {w w':World} {ρ ρ':Nat→Nat} {r:Nat} {fa fa':Nat→Nat} {b:Nat} {m:List (Nm × Nat)} (h:NAt w ρ r fa b m) (hk:∀ k,ρ k=r→w'.heap[k]?=w.heap[k]?) (hρ:∀ k,ρ k=r→ρ' k=r) (hf:∀ s i,lk m s=some i→fa' i=fa i):NAt w' ρ' r fa' b m:=by
 obtain ⟨D,⟨es,ck,hb,hr⟩,h1,h2,h3⟩:=h
 refine ⟨D,⟨es,ck,(hk b h1).trans hb,hr⟩,hρ b h1,h2,fun s=>⟨(h3 s).1.trans ?_,(h3 s).2⟩⟩
 cases e:lk m s with
 | none=>rfl
 | some i=>simp only [hf s i e]
theorem NAt.lt {w:World} {ρ:Nat→Nat} {r:Nat} {fa:Nat→Nat} {b:Nat} {m:List (Nm × Nat)} (h:NAt w ρ r fa b m):b < w.heap.size∧ρ b=r:=by
 obtain ⟨D,hm,h1,-⟩:=h
 exact ⟨hm.lt,h1⟩
def madeV (fa:Nat→Nat):Option Nat→Value
 | none=>.pointer none
 | some i=>.pointer (some ⟨fa i,0,none⟩)
def chV (fa:Nat→Nat) (c:Chg):List Value:=[.string (bs c.src),.string (bs c.dst),madeV fa c.made]
def fltV (f:Flt):List Value:=[.int .i64 f.step,.int .i64 f.kind,.int .i64 f.part]
def PlAt (w:World) (ρ:Nat→Nat) (v:Value) (l:List Flt):Prop:=∃ a c,v=.slice a l.length c∧RS 3 fltV w a l.length c l∧∀ b off,a=some ⟨b,off,none⟩→0 < l.length→ρ b=6
theorem PlAt.keep {w w':World} {ρ ρ':Nat→Nat} {v:Value} {l:List Flt} (h:PlAt w ρ v l) (hk:∀ k,ρ k=6→w'.heap[k]?=w.heap[k]?) (hρ:∀ k,ρ k=6→ρ' k=6):PlAt w' ρ' v l:=by
 obtain ⟨a,c,hv,⟨h1,h2,h3,h4⟩,hl⟩:=h
 refine ⟨a,c,hv,⟨h1,h2,h3,fun i x hx=>?_⟩,fun b off e h0=>hρ b (hl b off e h0)⟩
 obtain ⟨b,off,e,hc⟩:=h4 i x hx
 have h0:0 < l.length:=by have:=(List.getElem?_eq_some_iff.1 hx).1;omega
 exact ⟨b,off,e,fun j u hu=>(World.cell?_of_block (hk b (hl b off e h0))).trans (hc j u hu)⟩
theorem PlAt.nil (w:World) (ρ:Nat→Nat):PlAt w ρ (.slice none 0 0) []:=⟨none,0,rfl,⟨rfl,Nat.le_refl _,by simp,fun i x h=>by simp at h⟩,fun b off e=>by cases e⟩
def ClAt (w:World) (ρ:Nat→Nat) (b:Nat) (m:List (Nm × Int)):Prop :=
 ∃ D:DataW Unit,w.ownsMap Tryz.prog 9 (plainElem Tryz.prog 3) b m.length D∧ρ b=4∧∀ s:Nm,D.atKey (.string s) (.lit (.int .i64 0))=.lit (.int .i64 ((lk m s).getD 0))∧has D (.string s)=(lk m s).isSome
theorem ClAt.keep {w w':World} {ρ ρ':Nat→Nat} {b:Nat} {m:List (Nm × Int)} (h:ClAt w ρ b m) (hk:∀ k,ρ k=4→w'.heap[k]?=w.heap[k]?) (hρ:∀ k,ρ k=4→ρ' k=4):ClAt w' ρ' b m:=by
 obtain ⟨D,⟨es,ck,hb,hr⟩,h1,h3⟩:=h
 exact ⟨D,⟨es,ck,(hk b h1).trans hb,hr⟩,hρ b h1,h3⟩
abbrev boxDisk (L:Lay) (d:Dm):Obj:=.cells #[.int .i64 (d.acts:Int),.int .i64 d.space,.int .i64 d.used,.int .i64 (d.fs.length:Int),.int .i64 (d.epoch:Int),.bool d.power,.map (some L.nb),.map (some L.sb),L.ch,L.pl,.map (some L.cb)] 52
structure DAt (w:World) (L:Lay) (gd:Nat) (d:Dm):Prop where
 g:w.heap[gd]?=some (boxDisk L d)
 lg:L.ρ gd=1
 dom:∀ k,L.ρ k ≠ 0→k < w.heap.size
 nm:NAt w L.ρ 2 L.fa L.nb d.names
 sf:NAt w L.ρ 3 L.fa L.sb d.safe
 cl:ClAt w L.ρ L.cb d.claims
 ch:OwnL w L.ρ 112 3 5 L.ch d.changes.length (d.changes.flatMap (chV L.fa))
 pl:PlAt w L.ρ L.pl d.plan
 fs:∀ i f,d.fs[i]?=some f→∃ vn vs vl,FAt w L.ρ i (L.fa i) f vn vs vl
theorem DAt.stays {w w':World} {L:Lay} {gd:Nat} {d:Dm} (h:DAt w L gd d) (hs:w.heap.size≤w'.heap.size) (hk:∀ k,L.ρ k ≠ 0→w'.heap[k]?=w.heap[k]?):DAt w' L gd d:=by
 have hk':∀ r,r ≠ 0→∀ k,L.ρ k=r→w'.heap[k]?=w.heap[k]?:=fun r hr k e=>hk k (by rw [e];exact hr)
 refine ⟨(hk gd (by rw [h.lg];omega)).trans h.g,h.lg,fun k e=>Nat.lt_of_lt_of_le (h.dom k e) hs,h.nm.keep (hk' 2 (by omega)) (fun _ e=>e) (fun _ _ _=>rfl),h.sf.keep (hk' 3 (by omega)) (fun _ e=>e) (fun _ _ _=>rfl),
  h.cl.keep (hk' 4 (by omega)) (fun _ e=>e),h.ch.keep (hk' 5 (by omega)) (fun _ e=>e),h.pl.keep (hk' 6 (by omega)) (fun _ e=>e),fun i f hf=>?_⟩
 obtain ⟨vn,vs,vl,hx⟩:=h.fs i f hf
 exact ⟨vn,vs,vl,hx.keep (fun k e=>hk k (by omega)) (fun _ _=>rfl)⟩
theorem DAt.below {w w':World} {L:Lay} {gd:Nat} {d:Dm} (h:DAt w L gd d) (hb:Below w.heap.size w w'):DAt w' L gd d:=h.stays hb.size (fun k e=>hb.block k (h.dom k e))
theorem DAt.lt {w:World} {L:Lay} {gd:Nat} {d:Dm} (h:DAt w L gd d):gd < w.heap.size:=(Array.getElem?_eq_some_iff.1 h.g).1
theorem DAt.other {w w':World} {L:Lay} {gd:Nat} {d:Dm} {ρ ρ':Nat→Nat} (h:DAt w L gd d) (hu:Upd ρ ρ' w w') (hs:∀ k,L.ρ k ≠ 0→ρ k=0):DAt w' L gd d∧∀ k,L.ρ k ≠ 0→ρ' k=0 :=
 ⟨h.stays hu.size (fun k e=>hu.block k (h.dom k e) (hs k e)),fun k e=>hu.ext.old k (h.dom k e) (hs k e)⟩
theorem DAt.cells {w:World} {L:Lay} {gd:Nat} {d:Dm} (h:DAt w L gd d) :
 w.cell? ⟨gd,0,none⟩=some (.int .i64 d.acts)∧w.cell? ⟨gd,1,none⟩=some (.int .i64 d.space)∧w.cell? ⟨gd,2,none⟩=some (.int .i64 d.used)∧w.cell? ⟨gd,3,none⟩=some (.int .i64 d.fs.length)∧w.cell? ⟨gd,4,none⟩=some (.int .i64 d.epoch)∧w.cell? ⟨gd,5,none⟩=some (.bool d.power) ∧
 w.cell? ⟨gd,6,none⟩=some (.map (some L.nb))∧w.cell? ⟨gd,7,none⟩=some (.map (some L.sb))∧w.cell? ⟨gd,8,none⟩=some L.ch∧w.cell? ⟨gd,9,none⟩=some L.pl∧w.cell? ⟨gd,10,none⟩=some (.map (some L.cb))∧∀ o,w.frozen? ⟨gd,o,none⟩=false:=by
 have h:=h.g
 refine ⟨?_,?_,?_,?_,?_,?_,?_,?_,?_,?_,?_,fun o=>frozen_of_row w gd o _ _ h⟩ <;> (rw [cell_of_row _ _ _ _ _ _ h];rfl)
theorem DAt.own1 {w w':World} {L:Lay} {gd:Nat} {d d':Dm} (h:DAt w L gd d) (ho:Only L.ρ (·=1) w w') (hg:w'.heap[gd]?=some (boxDisk L d')) (e1:d'.fs=d.fs) (e2:d'.names=d.names) (e3:d'.safe=d.safe) (e4:d'.changes=d.changes) (e5:d'.plan=d.plan) (e6:d'.claims=d.claims):DAt w' L gd d':=by
 have hk:∀ k,L.ρ k ≠ 0→L.ρ k ≠ 1→w'.heap[k]?=w.heap[k]?:=fun k h0 h1=>ho.block k (h.dom k h0) h1
 refine ⟨hg,h.lg,fun k e=>Nat.lt_of_lt_of_le (h.dom k e) ho.size,by rw [e2];exact h.nm.keep (fun k e=>hk k (by omega) (by omega)) (fun _ e=>e) (fun _ _ _=>rfl),by rw [e3];exact h.sf.keep (fun k e=>hk k (by omega) (by omega)) (fun _ e=>e) (fun _ _ _=>rfl),
  by rw [e6];exact h.cl.keep (fun k e=>hk k (by omega) (by omega)) (fun _ e=>e),by rw [e4];exact h.ch.keep (fun k e=>hk k (by omega) (by omega)) (fun _ e=>e),by rw [e5];exact h.pl.keep (fun k e=>hk k (by omega) (by omega)) (fun _ e=>e),fun i f hf=>?_⟩
 rw [e1] at hf
 obtain ⟨vn,vs,vl,hx⟩:=h.fs i f hf
 exact ⟨vn,vs,vl,hx.keep (fun k e=>hk k (by omega) (by omega)) (fun _ _=>rfl)⟩
theorem DAt.file1 {w w':World} {L:Lay} {ρ':Nat→Nat} {gd i:Nat} {d:Dm} (h:DAt w L gd d) (hi:i < d.fs.length) (ho:Only L.ρ (fun r=>7+4 * i≤r∧r≤10+4 * i) w w') (he:Ext w.heap.size L.ρ ρ') (hd:∀ k,ρ' k ≠ 0→k < w'.heap.size) {f:Fl} {vn vs vl:Value} (hf:FAt w' ρ' i (L.fa i) f vn vs vl) :
 DAt w' { L with ρ:=ρ' } gd (d.setF i f):=by
 have hk:∀ k,L.ρ k ≠ 0→(L.ρ k < 7+4 * i∨10+4 * i < L.ρ k)→w'.heap[k]?=w.heap[k]?:=fun k h0 h1=>ho.block k (h.dom k h0) (by omega)
 have hs:∀ r,r ≠ 0→∀ k,L.ρ k=r→ρ' k=r:=fun r hr k e=>(he.same k (by omega)).trans e
 refine ⟨?_,hs 1 (by omega) gd h.lg,hd,h.nm.keep (fun k e=>hk k (by omega) (by omega)) (hs 2 (by omega)) (fun _ _ _=>rfl),h.sf.keep (fun k e=>hk k (by omega) (by omega)) (hs 3 (by omega)) (fun _ _ _=>rfl),h.cl.keep (fun k e=>hk k (by omega) (by omega)) (hs 4 (by omega)),h.ch.keep (fun k e=>hk k (by omega) (by omega)) (hs 5 (by omega)),h.pl.keep (fun k e=>hk k (by omega) (by omega)) (hs 6 (by omega)),fun j g hg=>?_⟩
 · have hlen:(d.setF i f).fs.length=d.fs.length:=by simp [Dm.setF]
   have:=(hk gd (by rw [h.lg];omega) (by rw [h.lg];omega)).trans h.g
   simpa [boxDisk,Dm.setF] using this
 · by_cases hj:j=i
   · subst hj
     have:(d.fs.set j f)[j]?=some f:=by simp [hi]
     obtain rfl:f=g:=by simpa [Dm.setF,hi] using hg
     exact ⟨vn,vs,vl,hf⟩
   · have hg':d.fs[j]?=some g:=by simpa [Dm.setF,List.getElem?_set,Ne.symm hj] using hg
     obtain ⟨a,b,c,hx⟩:=h.fs j g hg'
     exact ⟨a,b,c,hx.keep (fun k e=>hk k (by omega) (by omega)) (fun k e=>he.same k e)⟩
end
section
open Go.Maps Go.WideMaps
theorem bel1 (w:World) (o:Obj):Below w.heap.size w (w.alloc o):=(Below.refl _ _).alloc (Nat.le_refl _) _
theorem heap_box3 {w1:World} {g:Nat} {z0 z1 z2:Value} {t:TypeId} (h:w1.heap[g]?=some (.cells #[z0,z1,z2] t (0,0))) (x0 x1 x2:Value) :
 (((w1.setCell ⟨g,0,none⟩ x0).setCell ⟨g,1,none⟩ x1).setCell ⟨g,2,none⟩ x2).heap[g]?=some (.cells #[x0,x1,x2] t (0,0)):=by
 have h0:=heap_setCell_same w1 g 0 _ _ x0 h
 have h1:=heap_setCell_same _ g 1 _ _ x1 h0
 exact heap_setCell_same _ g 2 _ _ x2 h1
theorem retbox3 {fn:Func} {p:Tmp} (hf:fn.results=#[.cell p 35]) {tmps:Array Value} {w1:World} {g:Nat} {z0 z1 z2 x0 x1 x2:Value} (hg:w1.heap[g]?=some (.cells #[z0,z1,z2] 35 (0,0))) {R:Ending→World→Prop}
 (hp:tmps.getD p undef=.pointer (some ⟨g,0,none⟩)) (hR:R (.returned (.agg #[x0,x1,x2])) (((w1.setCell ⟨g,0,none⟩ x0).setCell ⟨g,1,none⟩ x1).setCell ⟨g,2,none⟩ x2)) :
 bodyPost Tryz.prog fn R .ret { tmps:=tmps,defers:=[] } (((w1.setCell ⟨g,0,none⟩ x0).setCell ⟨g,1,none⟩ x1).setCell ⟨g,2,none⟩ x2) :=
 bodyPost_ret (results_cell_row hf tmps _ g 35 #[x0,x1,x2] (0,0) _ hp (heap_box3 hg x0 x1 x2) Tryz.underlying35 rfl (by kernel_rfl)) rfl hR
theorem below_box3 {B g:Nat} {w w1:World} (hg:B≤g) (hb:Below B w w1) (x0 x1 x2:Value):Below B w (((w1.setCell ⟨g,0,none⟩ x0).setCell ⟨g,1,none⟩ x1).setCell ⟨g,2,none⟩ x2) :=
 ((hb.setCell (p:=⟨g,0,none⟩) hg x0).setCell (p:=⟨g,1,none⟩) hg x1).setCell (p:=⟨g,2,none⟩) hg x2
abbrev fltA (f:Flt):Value:=.agg #[.int .i64 f.step,.int .i64 f.kind,.int .i64 f.part]
def fltHit (x:Int) (f:Flt):Bool:=decide (f.step=x∧1≤f.kind∧f.kind≤6)
theorem planned_hit {d:Dm} {x:Int} {k:Nat} {f:Flt} (hf:d.plan[k]?=some f) (hh:fltHit x f=true) (hn:∀ j g,j < k→d.plan[j]?=some g→fltHit x g=false):d.planned x=f:=by
 have:d.plan.find? (fltHit x)=some f:=by
  rw [List.find?_eq_some_iff_getElem]
  obtain ⟨hk,e⟩:=List.getElem?_eq_some_iff.1 hf
  exact ⟨hh,k,hk,e,fun j hj=>by simp [hn j _ hj (List.getElem?_eq_getElem (by omega))]⟩
 unfold Dm.planned
 rw [show (fun f:Flt=>decide (f.step=x∧1≤f.kind∧f.kind≤6))=fltHit x from rfl,this];rfl
theorem planned_none {d:Dm} {x:Int} (hn:∀ j g,j < d.plan.length→d.plan[j]?=some g→fltHit x g=false):d.planned x=⟨0,0,0⟩:=by
 have:d.plan.find? (fltHit x)=none:=by
  rw [List.find?_eq_none]
  intro g hg
  obtain ⟨j,hj,e⟩:=List.getElem_of_mem hg
  have:=hn j g hj (by rw [← e];exact List.getElem?_eq_getElem hj)
  simp [this]
 unfold Dm.planned
 rw [show (fun f:Flt=>decide (f.step=x∧1≤f.kind∧f.kind≤6))=fltHit x from rfl,this];rfl
theorem planned_any (w:World) (L:Lay) (gd:Nat) (d:Dm) (h:DAt w L gd d) (x:Int) :
 Calls Tryz.prog 156 #[.pointer (some ⟨gd,0,none⟩),.int .i64 x] w fun e w'=>e=.returned (fltA (d.planned x))∧Below w.heap.size w w':=by
 obtain ⟨-,-,-,-,-,-,-,-,-,c9,-⟩:=h.cells
 obtain ⟨a,c,hpl,hrs,-⟩:=h.pl
 rw [hpl] at c9
 have hlt:=h.lt
 obtain ⟨w1,hw1⟩:∃ w1,w1=w.alloc (.cells #[.int .i64 0,.int .i64 0,.int .i64 0] 35):=⟨_,rfl⟩
 have hb1:Below w.heap.size w w1:=by rw [hw1];exact bel1 _ _
 have g1:w1.heap[w.heap.size]?=some (.cells #[.int .i64 0,.int .i64 0,.int .i64 0] 35):=by rw [hw1];exact heap_alloc_new w _
 have c9':=(hb1.cell (p:=⟨gd,9,none⟩) hlt).trans c9
 have hlen:d.plan.length≤281474976710656:=hrs.2.2.1
 have HRS:=hid hrs
 have HB1:=hid hb1
 have G1:=hid g1
 clear h c9 hb1 hlt g1 hpl hrs
 go_enter Tryz.func156,Tryz.ntmps156
 go_upto_region 1 with (fail)
 rw [← hw1]
 clear hw1
 go_wp2_with fail
 go_loopw [12] (fun v wr=>∃ k:Nat,k≤d.plan.length∧v=.int .i64 k∧Hid (∀ j g,j < k→d.plan[j]?=some g→fltHit x g=false)∧Hid (Below w.heap.size w wr∧w.heap.size < wr.heap.size∧wr.heap[w.heap.size]?=some (.cells #[.int .i64 0,.int .i64 0,.int .i64 0] 35)))
  (fun v _=>d.plan.length - (intOf v).toNat)
 case atStart=>exact ⟨0,Nat.zero_le _,rfl,hid (fun j g hj=>absurd hj (Nat.not_lt_zero _)),hid ⟨HB1.out,(Array.getElem?_eq_some_iff.1 G1.out).1,G1.out⟩⟩
 case round =>
  obtain ⟨k,hk,rfl,HN,HW⟩:=hrel
  by_cases hkl:k < d.plan.length
  · obtain ⟨b,off,f,rfl,hf,hc⟩:=(HRS.out.below HW.out.1).at hkl
    have c0:wr.cell? ⟨b,off+k * 3,none⟩=some (.int .i64 f.step):=hc 0 _ rfl
    have c1:=hc 1 _ rfl
    have c2:=hc 2 _ rfl
    have HF:=hid hf
    clear hc hf
    go_upto_region 4 with (fail)
    obtain ⟨w2,hw2⟩:∃ w2,w2=wr.alloc (.cells #[.int .i64 f.step,.int .i64 f.kind,.int .i64 f.part] 35):=⟨_,rfl⟩
    have hb2:Below wr.heap.size wr w2:=by rw [hw2];exact bel1 _ _
    have g2:w2.heap[wr.heap.size]?=some (.cells #[.int .i64 f.step,.int .i64 f.kind,.int .i64 f.part] 35):=by rw [hw2];exact heap_alloc_new wr _
    have HW2:=hid (show Below w.heap.size w w2∧w.heap.size < w2.heap.size∧w2.heap[w.heap.size]?=some (.cells #[.int .i64 0,.int .i64 0,.int .i64 0] 35) from ⟨HW.out.1.trans (hb2.mono HW.out.1.size),Nat.lt_of_lt_of_le HW.out.2.1 hb2.size,(hb2.block _ HW.out.2.1).trans HW.out.2.2⟩)
    rw [← hw2]
    clear hw2 c0 c1 c2 hb2
    have q0:=cell_of_row _ _ 0 _ _ _ g2
    have q1:=cell_of_row _ _ 1 _ _ _ g2
    have q2:=cell_of_row _ _ 2 _ _ _ g2
    simp only [List.getElem?_toArray,List.getElem?_cons_zero,List.getElem?_cons_succ] at q0 q1 q2
    clear g2
    have HG:fltHit x f=false→∀ j g,j < k+1→d.plan[j]?=some g→fltHit x g=false:=fun hm j g hj hg=>by
     by_cases hjk:j=k
     · subst hjk;rw [HF.out] at hg;cases hg;exact hm
     · exact HN.out j g (by omega) hg
    cases e1:(f.step == x)
    · have HM:=hid (HG (by unfold fltHit;simp at e1;simp [e1]))
      clear HG
      go_wp2_with fail
      exact ⟨⟨k+1,by omega,by push_cast;rfl,HM,HW2⟩,by simp [intOf];omega⟩
    · by_cases e2:f.kind < 1
      · have HM:=hid (HG (by unfold fltHit;simp;intros;omega))
        have e2':¬ 1≤f.kind:=by omega
        clear HG
        go_wp2_with fail
        exact ⟨⟨k+1,by omega,by push_cast;rfl,HM,HW2⟩,by simp [intOf];omega⟩
      · by_cases e3:6 < f.kind
        · have HM:=hid (HG (by unfold fltHit;simp;intros;omega))
          have e2':1≤f.kind:=by omega
          have e3':¬ f.kind≤6:=by omega
          clear HG
          go_wp2_with fail
          exact ⟨⟨k+1,by omega,by push_cast;rfl,HM,HW2⟩,by simp [intOf];omega⟩
        · have HE:=hid (planned_hit (x:=x) HF.out (by unfold fltHit;simp at e1;simp [e1];omega) HN.out)
          have e2':1≤f.kind:=by omega
          have e3':f.kind≤6:=by omega
          have g1:=HW2.out.2.2
          have f1:=fun o=>frozen_of_row w2 w.heap.size o _ _ g1
          have k0:=cell_of_row _ _ 0 _ _ _ g1
          have k1:=cell_of_row _ _ 1 _ _ _ g1
          have k2:=cell_of_row _ _ 2 _ _ _ g1
          simp only [List.getElem?_toArray,List.getElem?_cons_zero,List.getElem?_cons_succ] at k0 k1 k2
          clear g1 HG
          go_wp2_with fail
          refine retbox3 rfl HW2.out.2.2 rfl ?_
          exact ⟨by rw [HE.out],below_box3 (Nat.le_refl _) HW2.out.1 _ _ _⟩
  · obtain rfl:k=d.plan.length:=by omega
    have HE:=hid (planned_none HN.out)
    have g1:=HW.out.2.2
    have f1:=fun o=>frozen_of_row wr w.heap.size o _ _ g1
    have k0:=cell_of_row _ _ 0 _ _ _ g1
    have k1:=cell_of_row _ _ 1 _ _ _ g1
    have k2:=cell_of_row _ _ 2 _ _ _ g1
    simp only [List.getElem?_toArray,List.getElem?_cons_zero,List.getElem?_cons_succ] at k0 k1 k2
    clear g1
    go_wp2_with fail
    refine retbox3 rfl HW.out.2.2 rfl ?_
    exact ⟨by rw [HE.out],below_box3 (Nat.le_refl _) HW.out.1 _ _ _⟩
end
section
open Go.Maps Go.WideMaps
theorem wrap64_small {x:Int} (h0:-9223372036854775808≤x) (h1:x < 9223372036854775808):wrap64 x=x:=by unfold wrap64;omega
theorem lenBs {s:Nm} (hs:s.length≤maxLen):(bs s).size≤maxLen:=by simpa [bs,ByteArray.size] using hs
theorem NAt.look {w:World} {ρ:Nat→Nat} {r:Nat} {fa:Nat→Nat} {b:Nat} {m:List (Nm × Nat)} (h:NAt w ρ r fa b m) {s:Nm} (hs:s.length≤maxLen) :
 (Instr.lookup 47 (.map (some b)) (.string (bs s)) false).run Tryz.prog w=.ok (madeV fa (lk m s)) w:=by
 obtain ⟨D,hm,-,-,h3⟩:=h
 obtain ⟨h1,-⟩:=look_ptr hm (lenBs hs)
 rw [h1]
 have:=(h3 s).1
 unfold at? kL
 rw [show (bs s).data.toList=s by simp [bs],this]
 cases lk m s <;> rfl
theorem ask0 (w:World) (L:Lay) (gd:Nat) (d:Dm) (h:DAt w L gd d) :
 Calls Tryz.prog 90 #[.pointer (some ⟨gd,0,none⟩),.slice none 0 0] w fun e w'=>e=.returned (.tuple #[.pointer none,.int .i64 (if d.power=false then 2 else 0)])∧w'=w:=by
 obtain ⟨-,-,-,-,-,c5,-⟩:=h.cells
 clear h
 cases hp:d.power
 · rw [hp] at c5
   go_enter Tryz.func90,Tryz.ntmps90
   go_wp2
   go_returns
   exact ⟨rfl,rfl⟩
 · rw [hp] at c5
   go_enter Tryz.func90,Tryz.ntmps90
   go_wp2_with fail
   refine wp_loop_rounds 1 ?_
   rw [rounds_succ]
   go_wp2
   go_returns
   exact ⟨rfl,rfl⟩
theorem ask_none {d:Dm} {s:Nm} (hp:d.power=true) (hl:legalB (bs s)=true) (hk:lk d.names s=none):d.ask s=(none,32):=by unfold Dm.ask;rw [if_neg (by simp [hp]),if_neg (by simp [hl]),hk]
theorem ask_some {d:Dm} {s:Nm} {i:Nat} (hp:d.power=true) (hl:legalB (bs s)=true) (hk:lk d.names s=some i):d.ask s=(some i,0):=by unfold Dm.ask;rw [if_neg (by simp [hp]),if_neg (by simp [hl]),hk]
theorem ask_bad {d:Dm} {s:Nm} (hp:d.power=true) (hl:legalB (bs s)=false):d.ask s=(none,34):=by unfold Dm.ask;rw [if_neg (by simp [hp]),if_pos hl]
theorem ask_down {d:Dm} {s:Nm} (hp:d.power=false):d.ask s=(none,2):=by unfold Dm.ask;rw [if_pos hp]
theorem ask1 (w:World) (L:Lay) (gd:Nat) (d:Dm) (h:DAt w L gd d) (b o c:Nat) (s:Nm) (hs:s.length≤maxLen) (hc:w.cell? ⟨b,o,none⟩=some (.string (bs s))) :
 Calls Tryz.prog 90 #[.pointer (some ⟨gd,0,none⟩),.slice (some ⟨b,o,none⟩) 1 c] w fun e w'=>e=.returned (.tuple #[madeV L.fa (d.ask s).1,.int .i64 (d.ask s).2])∧Below w.heap.size w w':=by
 obtain ⟨-,-,-,-,-,c5,c6,-⟩:=h.cells
 have HL:=hid (lenBs hs)
 have hlk:∀ nq:Nat,(Instr.lookup 47 (.map (some L.nb)) (.string (bs s)) false).run Tryz.prog (w.drewN nq)=.ok (madeV L.fa (lk d.names s)) (w.drewN nq):=fun nq=>(h.below (below_drewN (Below.refl _ _) nq)).nm.look hs
 clear h
 cases hp:d.power
 · rw [hp] at c5
   have HE:=hid (ask_down (s:=s) hp)
   clear hlk
   go_enter Tryz.func90,Tryz.ntmps90
   go_wp2
   go_returns
   exact ⟨by rw [HE.out];rfl,Below.refl _ _⟩
 rw [hp] at c5
 cases hl:legalB (bs s)
 · have HE:=hid (ask_bad hp hl)
   clear hlk
   go_enter Tryz.func90,Tryz.ntmps90
   go_wp2_with fail
   refine wp_loop_rounds 1 ?_
   rw [rounds_succ]
   go_wp2_with (go_at_call 152;refine (legal_any _ _ HL.out).mono ?_;rintro e w' ⟨rfl,rfl⟩;rw [hl])
   go_returns
   exact ⟨by rw [HE.out];rfl,Below.refl _ _⟩
 cases hk:lk d.names s with
 | none =>
   have HE:=hid (ask_none hp hl hk)
   rw [hk,show madeV L.fa none=.pointer none from rfl] at hlk
   go_enter Tryz.func90,Tryz.ntmps90
   go_wp2_with fail
   refine wp_loop_rounds 2 ?_
   rw [rounds_succ]
   go_wp2_with (go_at_call 152;refine (legal_any _ _ HL.out).mono ?_;rintro e w' ⟨rfl,rfl⟩;rw [hl])
   rw [rounds_succ]
   go_wp2_with fail
   go_quiet (fail)
   clear hlk
   go_wp2
   go_returns
   exact ⟨by rw [HE.out];rfl,below_drewN (Below.refl _ _) nq⟩
 | some i =>
   have HE:=hid (ask_some hp hl hk)
   rw [hk,show madeV L.fa (some i)=.pointer (some ⟨L.fa i,0,none⟩) from rfl] at hlk
   go_enter Tryz.func90,Tryz.ntmps90
   go_wp2_with fail
   refine wp_loop_rounds 2 ?_
   rw [rounds_succ]
   go_wp2_with (go_at_call 152;refine (legal_any _ _ HL.out).mono ?_;rintro e w' ⟨rfl,rfl⟩;rw [hl])
   rw [rounds_succ]
   go_wp2_with fail
   go_quiet (fail)
   clear hlk
   go_wp2
   go_returns
   exact ⟨by rw [HE.out];rfl,below_drewN (Below.refl _ _) nq⟩
end
section
set_option maxHeartbeats 4000000
open Go.Maps Go.WideMaps
abbrev chA (f t:ByteArray) (m:Value):Value:=.agg #[.string f,.string t,m]
abbrev boxC (f t:ByteArray) (m:Value):Obj:=.cells #[.string f,.string t,m] 112
theorem box3 {w:World} {g:Nat} {x0 x1 x2:Value} {t:TypeId} (h:w.heap[g]?=some (.cells #[x0,x1,x2] t (0,0))) :
 w.cell? ⟨g,0,none⟩=some x0∧w.cell? ⟨g,1,none⟩=some x1∧w.cell? ⟨g,2,none⟩=some x2:=by
 refine ⟨?_,?_,?_⟩ <;> (rw [cell_of_row _ _ _ _ _ _ h];rfl)
theorem do_make (w:World) (nb n:Nat) (D:DataW Unit) (hm:w.ownsMap Tryz.prog 9 ptrR nb n D) (hn:n < 1000000) (f t:ByteArray) (ht:t.size≤maxLen) (ht0:(t.toList == [])=false) (g:Nat) :
 Calls Tryz.prog 52 #[chA f t (.pointer (some ⟨g,0,none⟩)),.map (some nb)] w fun e w'=>e=.returned (.tuple #[])∧w'.ownsMap Tryz.prog 9 ptrR nb (n+1) (D.put (kL t) (.lit (.int .i64 g)))∧w.grownBy w' (some nb):=by
 obtain ⟨w1,hw1⟩:∃ w1,w1=w.alloc (boxC f t (.pointer (some ⟨g,0,none⟩))):=⟨_,rfl⟩
 have g1:w1.heap[w.heap.size]?=some (boxC f t (.pointer (some ⟨g,0,none⟩))):=by rw [hw1];exact heap_alloc_new w _
 have hgr:w.grownBy w1 none:=by rw [hw1];exact World.grownBy_alloc w _ none
 have HM:=hid (show w1.ownsMap Tryz.prog 9 ptrR nb n D from hm.kept hgr (by simp))
 have HGR:=hid (show w.grownBy w1 (some nb) by rw [hw1];exact World.grownBy_alloc w _ _)
 obtain ⟨c0,c1,c2⟩:=box3 g1
 clear hm g1 hgr
 go_enter Tryz.func52,Tryz.ntmps52
 go_upto_region 1 with (fail)
 rw [← hw1]
 clear hw1
 go_wp2_with (at_mapUpdate;refine wpList_mapUpdate_own _ rfl _ _ _ 47 rfl 9 109 law9 Tryz.underlying47 ptrR nb n D rfl HM.out (by unfold maxLen;omega) _ _ (kL t) rfl rfl (key9 ht) (.lit (.int .i64 g)) [] rfl ?_;intro w2 hown2 hgrow2)
 go_end0
 exact ⟨rfl,hown2,HGR.out.trans hgrow2⟩
theorem do_move (w:World) (nb n:Nat) (D:DataW Unit) (hm:w.ownsMap Tryz.prog 9 ptrR nb n D) (hn:n < 1000000) (f t:ByteArray) (hf:f.size≤maxLen) (ht:t.size≤maxLen) (ht0:(t.toList == [])=false) (g:Nat) (hg:at? D f=.lit (.int .i64 g)) :
 Calls Tryz.prog 52 #[chA f t (.pointer none),.map (some nb)] w fun e w'=>e=.returned (.tuple #[])∧w'.ownsMap Tryz.prog 9 ptrR nb (n+1) ((D.del (kL f)).put (kL t) (.lit (.int .i64 g)))∧w.grownBy w' (some nb):=by
 obtain ⟨w1,hw1⟩:∃ w1,w1=w.alloc (boxC f t (.pointer none)):=⟨_,rfl⟩
 have g1:w1.heap[w.heap.size]?=some (boxC f t (.pointer none)):=by rw [hw1];exact heap_alloc_new w _
 have hgr:w.grownBy w1 none:=by rw [hw1];exact World.grownBy_alloc w _ none
 have hm1:w1.ownsMap Tryz.prog 9 ptrR nb n D:=hm.kept hgr (by simp)
 have HM:=hid hm1
 have HGR:=hid (show w.grownBy w1 (some nb) by rw [hw1];exact World.grownBy_alloc w _ _)
 obtain ⟨c0,c1,c2⟩:=box3 g1
 have hlk:=(look_ptr hm1 hf).1
 rw [hg] at hlk
 have hlk':(Instr.lookup 47 (.map (some nb)) (.string f) false).run Tryz.prog w1=.ok (.pointer (some ⟨g,0,none⟩)) w1:=hlk
 have hne:nb ≠ w.heap.size:=fun e=>by have:=hm.lt;omega
 have G1:=hid g1
 clear hm g1 hgr hlk hm1 hg
 go_enter Tryz.func52,Tryz.ntmps52
 go_upto_region 1 with (fail)
 rw [← hw1]
 clear hw1
 go_wp2_with (first
  | (at_delete;refine wpList_delete_own _ rfl _ _ 47 9 rfl 109 law9 Tryz.underlying47 ptrR nb n D rfl HM.out _ (kL f) rfl (key9 hf) ?_;intro w2 hown2 hturn2;have HM2:=hid hown2;have HGR2:=hid (HGR.out.trans hturn2.grown);obtain ⟨e0,e1,e2⟩:=box3 ((hturn2.grown.block w.heap.size (Array.getElem?_eq_some_iff.1 G1.out).1 (fun e=>hne (Option.some.inj e).symm)).trans G1.out);clear hown2 hturn2 c0 c1 c2 hlk')
  | (at_mapUpdate;refine wpList_mapUpdate_own _ rfl _ _ _ 47 rfl 9 109 law9 Tryz.underlying47 ptrR nb n _ rfl HM2.out (by unfold maxLen;omega) _ _ (kL t) rfl rfl (key9 ht) (.lit (.int .i64 g)) [] rfl ?_;intro w3 hown3 hgrow3))
 go_end0
 exact ⟨rfl,hown3,HGR2.out.trans hgrow3⟩
theorem do_drop (w:World) (nb n:Nat) (D:DataW Unit) (hm:w.ownsMap Tryz.prog 9 ptrR nb n D) (f:ByteArray) (hf:f.size≤maxLen) :
 Calls Tryz.prog 52 #[chA f ByteArray.empty (.pointer none),.map (some nb)] w fun e w'=>e=.returned (.tuple #[])∧w'.ownsMap Tryz.prog 9 ptrR nb n (D.del (kL f))∧w.grownBy w' (some nb):=by
 obtain ⟨w1,hw1⟩:∃ w1,w1=w.alloc (boxC f ByteArray.empty (.pointer none)):=⟨_,rfl⟩
 have g1:w1.heap[w.heap.size]?=some (boxC f ByteArray.empty (.pointer none)):=by rw [hw1];exact heap_alloc_new w _
 have hgr:w.grownBy w1 none:=by rw [hw1];exact World.grownBy_alloc w _ none
 have hm1:w1.ownsMap Tryz.prog 9 ptrR nb n D:=hm.kept hgr (by simp)
 have HM:=hid hm1
 have HGR:=hid (show w.grownBy w1 (some nb) by rw [hw1];exact World.grownBy_alloc w _ _)
 obtain ⟨c0,c1,c2⟩:=box3 g1
 have hlk:=(look_ptr hm1 hf).1
 obtain ⟨pv,hpv⟩:∃ pv,pv=ptrOf (at? D f):=⟨_,rfl⟩
 rw [← hpv] at hlk
 have hne:nb ≠ w.heap.size:=fun e=>by have:=hm.lt;omega
 have G1:=hid g1
 clear hm g1 hgr hm1 hpv
 go_enter Tryz.func52,Tryz.ntmps52
 go_upto_region 1 with (fail)
 rw [← hw1]
 clear hw1
 go_wp2_with (at_delete;refine wpList_delete_own _ rfl _ _ 47 9 rfl 109 law9 Tryz.underlying47 ptrR nb n D rfl HM.out _ (kL f) rfl (key9 hf) ?_;intro w2 hown2 hturn2;have HM2:=hid hown2;have HGR2:=hid (HGR.out.trans hturn2.grown);obtain ⟨e0,e1,e2⟩:=box3 ((hturn2.grown.block w.heap.size (Array.getElem?_eq_some_iff.1 G1.out).1 (fun e=>hne (Option.some.inj e).symm)).trans G1.out);clear hown2 hturn2 c0 c1 c2 hlk)
 go_end0
 exact ⟨rfl,HM2.out,HGR2.out⟩
end
section
open Go.Maps Go.WideMaps
theorem ownsMap_tight {w:World} {P:Program} {k:TypeId} {R:Value→Option (DataW Unit × List MemPlace)} {b n:Nat} {D:DataW Unit} (h:w.ownsMap P k R b n D):w.ownsMap P k R b (size D) D:=by
 obtain ⟨es,clock,hb,F,hs,rfl⟩:=h
 exact ⟨es,clock,hb,F,by simp [Maps.size,length_sorted],rfl⟩
theorem litS_inj {s t:Nm} (h:Lit.string s=Lit.string t):s=t:=by injection h
theorem NAt.put {w':World} {ρ:Nat→Nat} {r:Nat} {fa:Nat→Nat} {b n i:Nat} {m:List (Nm × Nat)} {D:DataW Unit} {s:Nm} (ht:Tidy D) (hρ:ρ b=r) (hz:size D=m.length) (hl:∀ s:Nm,D.atKey (.string s) .nil=(match lk m s with | none=>.nil | some i=>.lit (.int .i64 (fa i:Nat)))∧has D (.string s)=(lk m s).isSome)
 (hm':w'.ownsMap Tryz.prog 9 ptrR b n (D.put (.string s) (.lit (.int .i64 (fa i:Nat))))):NAt w' ρ r fa b (ins m s i):=by
 have hs:=size_put (k:=.string s) ht (.lit (.int .i64 (fa i:Nat)))
 have hsz:size (D.put (.string s) (.lit (.int .i64 (fa i:Nat))))=(ins m s i).length:=by
  rw [hs,(hl s).2,len_ins,hz]
  by_cases h:s ∈ keysOf m
  · rw [if_pos (lk_some.2 h),if_pos h]
  · rw [if_neg (by rw [lk_none.2 h];simp),if_neg h]
 refine ⟨_,by have:=ownsMap_tight hm';rwa [hsz] at this,hρ,hsz,fun t=>?_⟩
 rw [lk_ins]
 by_cases e:t=s
 · subst e
   rw [if_pos rfl]
   exact ⟨atKey_put_same ht.isMap (show WideAt.IsKeyLit (.string t) from trivial) _ _,has_put_same ht.isMap (show WideAt.IsKeyLit (.string t) from trivial) _⟩
 · rw [if_neg e]
   exact ⟨(atKey_put_other (fun h=>e (litS_inj h)) _ _).trans (hl t).1,(has_put_other (fun h=>e (litS_inj h)) _).trans (hl t).2⟩
theorem del_facts {fa:Nat→Nat} {m:List (Nm × Nat)} {D:DataW Unit} {s:Nm} (hn:(keysOf m).Nodup) (ht:Tidy D) (hz:size D=m.length) (hl:∀ s:Nm,D.atKey (.string s) .nil=(match lk m s with | none=>.nil | some i=>.lit (.int .i64 (fa i:Nat)))∧has D (.string s)=(lk m s).isSome) (hs:s ∈ keysOf m) :
 size (D.del (.string s))=(era m s).length∧∀ t:Nm,(D.del (.string s)).atKey (.string t) .nil=(match lk (era m s) t with | none=>.nil | some i=>.lit (.int .i64 (fa i:Nat)))∧has (D.del (.string s)) (.string t)=(lk (era m s) t).isSome:=by
 have hd:=size_del (k:=.string s) ht
 rw [(hl s).2,if_pos (lk_some.2 hs),hz] at hd
 refine ⟨by have:=len_era hs;omega,fun t=>?_⟩
 rw [lk_era hn]
 by_cases e:t=s
 · subst e
   rw [if_pos rfl]
   exact ⟨atKey_del_same _,has_del_same⟩
 · rw [if_neg e]
   exact ⟨(atKey_del_other (fun h=>e (litS_inj h)) _).trans (hl t).1,(has_del_other (fun h=>e (litS_inj h))).trans (hl t).2⟩
theorem NAt.del {w w':World} {ρ:Nat→Nat} {r:Nat} {fa:Nat→Nat} {b n n':Nat} {m:List (Nm × Nat)} {D:DataW Unit} {s:Nm} (hn:(keysOf m).Nodup) (hm:w.ownsMap Tryz.prog 9 ptrR b n D) (hρ:ρ b=r) (hz:size D=m.length) (hl:∀ s:Nm,D.atKey (.string s) .nil=(match lk m s with | none=>.nil | some i=>.lit (.int .i64 (fa i:Nat)))∧has D (.string s)=(lk m s).isSome)
 (hm':w'.ownsMap Tryz.prog 9 ptrR b n' (D.del (.string s))) (hs:s ∈ keysOf m):NAt w' ρ r fa b (era m s):=by
 obtain ⟨h1,h2⟩:=del_facts hn (hm.tidy law9) hz hl hs
 exact ⟨_,by have:=ownsMap_tight hm';rwa [h1] at this,hρ,h1,h2⟩
theorem kL_bs (s:Nm):kL (bs s)=.string s:=by simp [kL,bs]
theorem at_bs (D:DataW Unit) (s:Nm):at? D (bs s)=D.atKey (.string s) .nil:=by unfold at?;rw [kL_bs]
theorem bs_ne {s:Nm} (h:s ≠ []):((bs s).toList == [])=false:=by
 rw [ByteArray.toList_eq];simpa [bs] using h
theorem do_any (w:World) (ρ:Nat→Nat) (r:Nat) (fa:Nat→Nat) (b:Nat) (m:List (Nm × Nat)) (c:Chg) (hN:NAt w ρ r fa b m) (hn:(keysOf m).Nodup) (h1:c.src.length≤maxLen) (h2:c.dst.length≤maxLen) (h3:m.length < 1000000)
 (h4:c.made=none→lk m c.src ≠ none) (h5:c.made ≠ none→c.dst ≠ []) :
 Calls Tryz.prog 52 #[.agg #[.string (bs c.src),.string (bs c.dst),madeV fa c.made],.map (some b)] w fun e w'=>e=.returned (.tuple #[])∧NAt w' ρ r fa b (c.act m)∧w.grownBy w' (some b):=by
 obtain ⟨D,hm,hρ,hz,hl⟩:=hN
 obtain ⟨src,dst,made⟩:=c
 dsimp only at h1 h2 h4 h5 ⊢
 cases made with
 | some i =>
   have hd:dst ≠ []:=h5 (by simp)
   refine (do_make w b m.length D hm h3 (bs src) (bs dst) (lenBs h2) (bs_ne hd) (fa i)).mono ?_
   rintro e w' ⟨he,hm',hg⟩
   rw [kL_bs] at hm'
   refine ⟨he,?_,hg⟩
   unfold Chg.act
   simp only [hd,if_false]
   exact NAt.put (hm.tidy law9) hρ hz hl hm'
 | none =>
   cases hk:lk m src with
   | none=>exact absurd hk (h4 rfl)
   | some i =>
     have hs:src ∈ keysOf m:=lk_some.1 (by rw [hk];rfl)
     have hat:at? D (bs src)=.lit (.int .i64 (fa i:Nat)):=by rw [at_bs,(hl src).1,hk]
     by_cases hd:dst=[]
     · subst hd
       refine (do_drop w b m.length D hm (bs src) (lenBs h1)).mono ?_
       rintro e w' ⟨he,hm',hg⟩
       rw [kL_bs] at hm'
       refine ⟨he,?_,hg⟩
       unfold Chg.act
       simp only [hk,if_true]
       exact NAt.del hn hm hρ hz hl hm' hs
     · refine (do_move w b m.length D hm h3 (bs src) (bs dst) (lenBs h1) (lenBs h2) (bs_ne hd) (fa i) hat).mono ?_
       rintro e w' ⟨he,hm',hg⟩
       rw [kL_bs,kL_bs] at hm'
       refine ⟨he,?_,hg⟩
       unfold Chg.act
       simp only [hk,hd,if_false]
       obtain ⟨g1,g2⟩:=del_facts hn (hm.tidy law9) hz hl hs
       exact NAt.put ((hm.tidy law9).del _) hρ g1 g2 hm'
end
end Go.Proofs.YtgkehahklccacaaGreatDoor
