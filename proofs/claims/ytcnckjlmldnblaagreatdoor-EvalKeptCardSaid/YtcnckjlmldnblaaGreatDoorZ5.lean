import Derived.Test.YtcnckjlmldnblaaGreatDoorZ1
import Derived.Test.YtcnckjlmldnblaaGreatDoorE32
import Derived.Test.YtcnckjlmldnblaaGreatDoorX5
import Derived.Test.YtcnckjlmldnblaaGreatDoorR16
import Derived.BigGuardPart
import Derived.IntWalk
import Derived.Handy
import Derived.OrdersHeld
import Derived.Deep.RegionHeld3
import Derived.WalkLawsBesides
namespace Go.Proofs.YtcnckjlmldnblaaGreatDoor
open Go Go.RowKit
set_option maxRecDepth 100000
set_option maxHeartbeats 4000000
set_option linter.unusedVariables false
set_option linter.unusedSimpArgs false
theorem sv_uniq {w:World} {a:Option Addr} {n c:Nat} {xs ys:List ByteArray} (h1:RS 1 Sv w a n c xs) (h2:RS 1 Sv w a n c ys):xs=ys:=by
 apply List.ext_getElem (h1.1.trans h2.1.symm)
 intro i hi hj
 obtain ⟨b,off,e,hc⟩:=h1.2.2.2 i _ (List.getElem?_eq_getElem hi)
 obtain ⟨b',off',e',hc'⟩:=h2.2.2.2 i _ (List.getElem?_eq_getElem hj)
 rw [e] at e'
 simp only [Option.some.injEq,Addr.mk.injEq,and_true] at e'
 obtain ⟨rfl,rfl⟩:=e'
 have x1:=hc 0 _ rfl
 have x2:=hc' 0 _ rfl
 rw [x1] at x2
 simpa using x2
/-- Two copies of one node: each is what left wants of the other. -/
theorem WhoI.pair {w0 w1 w:World} {u v nd:Nd} (hu:WhoI w0 w u nd) (hv:WhoI w1 w v nd) (hb:Below w0.heap.size w0 w1) (h1:nd.kl≤20000) (h2:nd.sl≤20000):Who w w0.heap.size u v:=by
 obtain ⟨a1,a2,a3,a4,a5,a6,a7,a8,a9,a10,a11,ss,a12,a13,a14⟩:=hu
 obtain ⟨b1,b2,b3,b4,b5,b6,b7,b8,b9,b10,b11,ts,b12,b13,b14⟩:=hv
 obtain rfl:ss=ts:=sv_uniq (a13.below hb) b13
 have q:=(RS.of_owns b14 (by decide) Sv_len (by omega)).cut
 rw [b12] at q
 refine ⟨a1.trans b1.symm,a2.trans b2.symm,a3.trans b3.symm,a4.trans b4.symm,a5.trans b5.symm,a6.trans b6.symm,a7.trans b7.symm,a8.trans b8.symm,by rw [b7];exact a9,by rw [b6];exact a10,by rw [b7,b8];exact a11,ss,by rw [b6];exact a12,by rw [b6,b10];exact q,by rw [b6];exact a14⟩
/-- Another operator in a node and in its copy. -/
theorem WhoI.flip {w0 w:World} {u nd:Nd} (h:WhoI w0 w u nd) (o:Int):WhoI w0 w { u with op:=o } { nd with op:=o }:=by
 obtain ⟨b1,r⟩:=h
 exact ⟨rfl,r⟩
/-- The book ahead of the first answer. -/
theorem bk_new (w:World):BkI (w.alloc (.cells #[.slice none 0 0,.slice none 0 0,.int .i64 0,.bool false] 35)) w.heap.size w.heap.size [] [] [] :=
 ⟨.slice none 0 0,.slice none 0 0,0,heap_alloc_new w _,Nat.le_refl _,OwA.nil _ _ _,OwA.nil _ _ _,.inl rfl,by omega,by omega,⟨rfl,rfl,fun i v u d h=>by simp at h,fun i j v v' _ h=>by simp at h⟩⟩
theorem BkI.below {w w':World} {B gb:Nat} {ls ws:List Value} {ds:List (List ByteArray)} (h:BkI w B gb ls ws ds) (hb:Below w.heap.size w w'):BkI w' B gb ls ws ds:=by
 obtain ⟨lv,wv,held,hg,hB,hlv,hwv,hlw,h0,h1,hI⟩:=h
 exact ⟨lv,wv,held,(hb.block gb (Array.getElem?_eq_some_iff.1 hg).1).trans hg,hB,hlv.kept (fun k hk=>hb.block k (hlv.lt k hk).2.1),hwv.kept (fun k hk=>hb.block k (hwv.lt k hk).2.1),hlw,h0,h1,
  hI.keep (fun k cs t fz ht hk=>hb.block k (Array.getElem?_eq_some_iff.1 hk).1)⟩
/-- A new answer lies apart from all that was kept. -/
theorem BkI.fresh {w w':World} {B gb:Nat} {ls ws:List Value} {ds:List (List ByteArray)} (h:BkI w B gb ls ws ds) {v:Value} {e s n:Nat} {xs:List Value} (ho:w'.ownsRow w.heap.size e s v n xs):∀ x ∈ ls,x.ownBlock=none∨x.ownBlock ≠ v.ownBlock:=by
 intro x hx
 obtain ⟨lv,wv,held,hg,hB,hlv,hwv,hlw,h0,h1,hI⟩:=h
 obtain ⟨i,hi⟩:=List.getElem?_of_mem hx
 have hil:=(List.getElem?_eq_some_iff.1 hi).1
 obtain ⟨_,hv,_⟩:=hI.own i x _ _ hi (List.getElem?_eq_getElem (by have:=hI.l1;have:=hI.l2;omega)) (List.getElem?_eq_getElem (by have:=hI.l1;omega))
 cases hb:x.ownBlock with
 | none=>exact .inl rfl
 | some q =>
   right
   intro e
   have h2:=(hv.lt q hb).2
   have h3:=(ho.lt q e.symm).1
   omega
/-- Blocks of other types than t stand. -/
def Only (t:TypeId) (w w':World):Prop:=∀ (k:Nat) (cs:Array Value) (e:TypeId) (fz:Nat × Nat),e ≠ t→w.heap[k]?=some (Obj.cells cs e fz)→w'.heap[k]?=w.heap[k]?
theorem Only.row {t:TypeId} {w w':World} {B e s:Nat} {v:Value} {n:Nat} {xs:List Value} (k:Only t w w') (ht:e ≠ t) (h:w.ownsRow B e s v n xs):w'.ownsRow B e s v n xs:=by
 refine ⟨h.1,?_⟩
 rcases h.2 with h | ⟨g,cap,cur,hv,hb,hg,r⟩
 · exact .inl h
 · exact .inr ⟨g,cap,cur,hv,hb,(k g _ _ _ ht hg).trans hg,r⟩
theorem own_blk {w:World} {B e s g n c:Nat} {xs:List Value} (h:w.ownsRow B e s (.slice (some ⟨g,0,none⟩) n c) n xs):B≤g∧∃ cur,w.heap[g]?=some (.cells cur e (0,0)):=by
 rcases h.2 with h | ⟨g',cap,cur,hv,hb,hg,r⟩
 · obtain ⟨h,_⟩:=h;cases h
 · simp only [Value.slice.injEq,Option.some.injEq,Addr.mk.injEq] at hv
   obtain ⟨⟨rfl,_⟩,_⟩:=hv
   exact ⟨hb,cur,hg⟩
theorem own_blt {w:World} {B e s g n c:Nat} {xs:List Value} (h:w.ownsRow B e s (.slice (some ⟨g,0,none⟩) n c) n xs):g < w.heap.size:=by
 obtain ⟨_,cur,hc⟩:=own_blk h
 exact (Array.getElem?_eq_some_iff.1 hc).1
theorem Only.set {w:World} {B e s g n c:Nat} {xs:List Value} (h:w.ownsRow B e s (.slice (some ⟨g,0,none⟩) n c) n xs) (o:Nat) (u:Value):Only e w (w.setCell ⟨g,o,none⟩ u):=fun k cs e' fz hne hk =>
 heap_setCell_other w ⟨g,o,none⟩ k _ (fun hh=>by
  obtain ⟨_,cur,hc⟩:=own_blk h
  have:k=g:=hh
  subst this
  rw [hk] at hc
  simp only [Option.some.injEq,Obj.cells.injEq] at hc
  exact hne hc.2.1)
theorem Only.trans {t:TypeId} {a b c:World} (h:Only t a b) (k:Only t b c):Only t a c:=fun g cs e fz he hg=>(k g cs e fz he ((h g cs e fz he hg).trans hg)).trans (h g cs e fz he hg)
theorem Only.who {t:TypeId} {w0 w w':World} {u nd:Nd} (k:Only t w w') (k3:(3:TypeId) ≠ t) (k9:(9:TypeId) ≠ t) (h:WhoI w0 w u nd):WhoI w0 w' u nd:=by
 obtain ⟨h1,h2,h3,h4,h5,h6,h7,h8,h9,h10,h11,ss,h12,h13,h14⟩:=h
 exact ⟨h1,h2,h3,h4,h5,h6,h7,h8,h9,h10,k.row k3 h11,ss,h12,h13,k.row k9 h14⟩
/-- Another operator in one node. -/
def opAt (l:List Nd) (i:Nat) (o:Int):List Nd:=l.modify i fun x=>{ x with op:=o }
theorem opAt_len (l:List Nd) (i:Nat) (o:Int):(opAt l i o).length=l.length:=List.length_modify _ _ _
theorem opAt_get (l:List Nd) (i:Nat) (o:Int) (j:Nat) (x:Nd) (h:(opAt l i o)[j]?=some x):∃ y,l[j]?=some y∧x=(if i=j then { y with op:=o } else y):=by
 unfold opAt at h
 rw [List.getElem?_modify] at h
 cases hl:l[j]? with
 | none=>rw [hl] at h;simp at h
 | some y =>
   rw [hl] at h
   refine ⟨y,rfl,?_⟩
   by_cases hij:i=j
   · simp [hij] at h ⊢;exact h.symm
   · simp [hij] at h ⊢;exact h.symm
theorem opAt_row (R:List Nd) (o:Int):∀ (l:List Nd) (i:Nat),i < l.length→((l++R).flatMap Nd.cs).set (i * 7) (.int .i64 o)=((opAt l i o)++R).flatMap Nd.cs
 | [],i,h=>by simp at h
 | x :: t,0,_=>rfl
 | x :: t,i+1,h=>by
   have ih:=opAt_row R o t i (by simpa using h)
   show ((x :: (t++R)).flatMap Nd.cs).set ((i+1) * 7) _=(x :: (opAt t i o++R)).flatMap Nd.cs
   rw [List.flatMap_cons,List.flatMap_cons,← ih,List.set_append_right _ _ (by rw [Nd_len2];omega),Nd_len2]
   congr 2
   omega
structure AgI (w2 w3 wr:World) (m gu gv:Nat) (ns us vs:List Nd):Prop where
 u:wr.ownsRow w2.heap.size 56 7 (.slice (some ⟨gu,0,none⟩) (m+8) (m+8)) (m+8) ((us++List.replicate 8 markNd).flatMap Nd.cs)
 v:wr.ownsRow w3.heap.size 56 7 (.slice (some ⟨gv,0,none⟩) (m+8) (m+8)) (m+8) ((vs++List.replicate 8 markNd).flatMap Nd.cs)
 lu:us.length=m
 lv:vs.length=m
 ln:ns.length=m
 wu:∀ (i:Nat) (x nd:Nd),us[i]?=some x→ns[i]?=some nd→WhoI w2 wr x nd
 wv:∀ (i:Nat) (x nd:Nd),vs[i]?=some x→ns[i]?=some nd→WhoI w3 wr x nd
 ok:∀ nd ∈ ns,nd.ok w2∧nd.ok w3∧nd.kl≤20000∧nd.sl≤20000
theorem AgI.below {w2 w3 wr w':World} {m gu gv:Nat} {ns us vs:List Nd} (h:AgI w2 w3 wr m gu gv ns us vs) (hb:Below wr.heap.size wr w'):AgI w2 w3 w' m gu gv ns us vs :=
 ⟨own_below h.u hb,own_below h.v hb,h.lu,h.lv,h.ln,fun i x nd h1 h2=>(h.wu i x nd h1 h2).below hb,fun i x nd h1 h2=>(h.wv i x nd h1 h2).below hb,h.ok⟩
theorem AgI.flip {w2 w3 wr:World} {m gu gv:Nat} {ns us vs:List Nd} (h:AgI w2 w3 wr m gu gv ns us vs) {q:Nat} (hq:q < m) (hne:gu ≠ gv) (o:Int) :
 Only 56 wr ((wr.setCell ⟨gv,q * 7,none⟩ (.int .i64 o)).setCell ⟨gu,q * 7,none⟩ (.int .i64 o)) ∧
 AgI w2 w3 ((wr.setCell ⟨gv,q * 7,none⟩ (.int .i64 o)).setCell ⟨gu,q * 7,none⟩ (.int .i64 o)) m gu gv (opAt ns q o) (opAt us q o) (opAt vs q o):=by
 have o1:Only 56 wr (wr.setCell ⟨gv,q * 7,none⟩ (.int .i64 o)):=Only.set h.v _ _
 have hv1:=(h.v.stored (q * 7) (.int .i64 o)).1
 have hu1:=ownsRow_setCell_other h.u (a:=⟨gv,q * 7,none⟩) (by intro e;exact hne (Option.some.inj e)) (.int .i64 o)
 generalize wr.setCell ⟨gv,q * 7,none⟩ (.int .i64 o)=W1 at *
 have o2:Only 56 W1 (W1.setCell ⟨gu,q * 7,none⟩ (.int .i64 o)):=Only.set hu1 _ _
 have hu2:=(hu1.stored (q * 7) (.int .i64 o)).1
 have hv2:=ownsRow_setCell_other hv1 (a:=⟨gu,q * 7,none⟩) (by intro e;exact hne (Option.some.inj e).symm) (.int .i64 o)
 generalize W1.setCell ⟨gu,q * 7,none⟩ (.int .i64 o)=W2 at *
 rw [opAt_row _ _ _ _ (by rw [h.lu];omega)] at hu2
 rw [opAt_row _ _ _ _ (by rw [h.lv];omega)] at hv2
 have ot:=o1.trans o2
 refine ⟨ot,hu2,hv2,by rw [opAt_len];exact h.lu,by rw [opAt_len];exact h.lv,by rw [opAt_len];exact h.ln,fun i x nd h1 h2=>?_,fun i x nd h1 h2=>?_,fun nd hnd=>?_⟩
 · obtain ⟨y,hy,rfl⟩:=opAt_get _ _ _ _ _ h1
   obtain ⟨z,hz,rfl⟩:=opAt_get _ _ _ _ _ h2
   have p:=ot.who (by decide) (by decide) (h.wu i y z hy hz)
   by_cases hi:q=i
   · rw [if_pos hi,if_pos hi];exact p.flip o
   · rw [if_neg hi,if_neg hi];exact p
 · obtain ⟨y,hy,rfl⟩:=opAt_get _ _ _ _ _ h1
   obtain ⟨z,hz,rfl⟩:=opAt_get _ _ _ _ _ h2
   have p:=ot.who (by decide) (by decide) (h.wv i y z hy hz)
   by_cases hi:q=i
   · rw [if_pos hi,if_pos hi];exact p.flip o
   · rw [if_neg hi,if_neg hi];exact p
 · obtain ⟨j,hj⟩:=List.getElem?_of_mem hnd
   obtain ⟨z,hz,rfl⟩:=opAt_get _ _ _ _ _ hj
   have p:=h.ok z (List.mem_of_getElem? hz)
   by_cases hi:q=j
   · rw [if_pos hi];exact p
   · rw [if_neg hi];exact p
theorem PdOwn.only {t:TypeId} {W W':World} {B:Nat} {p:Pd} (k:Only t W W') (h50:(50:TypeId) ≠ t) (h9:(9:TypeId) ≠ t) (h:PdOwn W B p):PdOwn W' B p :=
 ⟨k.row h50 h.v,k.row h9 h.o,k.row h9 h.r,fun b hb=>⟨by
   obtain ⟨a,l,c,e,hl,hh⟩:=(h.b b hb).1
   exact ⟨a,l,c,e,hl,hh.imp id (fun hh=>k.row h9 hh)⟩,(h.b b hb).2⟩,h.n⟩
theorem again_any (w:World) (na:Option Addr) (nl nc:Nat) (ns:List Nd) (p:Pd) (hr:RS 7 Nd.cs w na nl nc ns) (hns:∀ nd ∈ ns,NdW w nd) (hp:VwArg w p) (hsm:SmallE ns nl p) (t0:ResTab w 0) (t1:ResTab w 1) (h1:1 < w.heap.size) (root:Int) (hroot:I64 root) :
 Calls Tryz.prog 8 #[.slice na nl nc,.int .i64 root,.agg p.cs] w fun e w'=>e=.returned (.bool true)∧Below w.heap.size w w':=by
 obtain ⟨hn5,hsn,hvl,hbl⟩:=hsm
 have hlen:=hr.1
 have hn48:=hr.2.2.1
 have hvw:VwOk p.vw:=⟨fun q hq=>by obtain ⟨b,hb,rfl⟩:=List.mem_map.1 hq;exact (hp.b b hb).2.1,hp.c,hp.s⟩
 have hol:p.ol≤300:=by omega
 have hrl:p.rl≤300:=by omega
 have hvl3:p.vl≤300:=by omega
 have HVW:=Lib.hid hvw
 have HR:=Lib.hid hr
 have HNS:=Lib.hid hns
 have HP:=Lib.hid hp
 have HSN:=Lib.hid hsn
 have HBL:=Lib.hid hbl
 have HLEN:=Lib.hid hlen
 have HRO:=Lib.hid hroot
 obtain ⟨w1,hw1⟩:∃ w1,w1=w.alloc (boxW35 p):=⟨_,rfl⟩
 have g0:w1.heap[w.heap.size]?=some (boxW35 p):=by rw [hw1];exact heap_alloc_new w _
 have hb1:Below w.heap.size w w1:=by rw [hw1];exact bel1 _ _
 have HT0:=Lib.hid (fun (W:World) (hb:Below w.heap.size w W)=>(t0.below hb (by omega) (by omega):ResTab W 0))
 have HT1:=Lib.hid (fun (W:World) (hb:Below w.heap.size w W)=>(t1.below hb h1 h1:ResTab W 1))
 have G0:=Lib.hid g0
 have HB1:=Lib.hid hb1
 have zw:w.heap.size < w1.heap.size:=by rw [hw1];simp
 have v0':=cell_of_row _ _ 0 _ _ _ g0
 have v1':=cell_of_row _ _ 1 _ _ _ g0
 have v2':=cell_of_row _ _ 2 _ _ _ g0
 have v3':=cell_of_row _ _ 3 _ _ _ g0
 have v4':=cell_of_row _ _ 4 _ _ _ g0
 simp only [List.getElem?_toArray,List.getElem?_cons_zero,List.getElem?_cons_succ] at v0' v1' v2' v3' v4'
 clear hr hns hp hsn hbl hlen hvw t0 t1 g0 hb1 hvl hroot
 go_enter Tryz.func8,Tryz.ntmps8
 go_upto_region 1 with (fail)
 rw [← hw1]
 clear hw1
 go_upto_region 2 with (fail)
 refine (plain_any w1 p.va p.vl p.vc p.bs (HP.out.v.below HB1.out) HP.out.vz (fun b hb=>⟨(HP.out.b b hb).1.below HB1.out,(HP.out.b b hb).2.1,by have:=HBL.out b hb;omega⟩) p.oa p.ol p.oc p.os (HP.out.o.below HB1.out) p.ra p.rl p.rc p.rs (HP.out.r.below HB1.out) (by omega) (by omega) (by omega) p.clock p.steps).mono ?_
 rintro e w2 ⟨⟨pp,rfl,hpo,hpv⟩,hb2⟩
 have HPO:=Lib.hid hpo
 have HPV:=Lib.hid (show pp.vw=p.vw from hpv)
 have HPW:=Lib.hid (show VwOk pp.vw by rw [HPV.out];exact HVW.out)
 have HB2:=Lib.hid (HB1.out.trans (hb2.mono (by omega)))
 have G02:=Lib.hid ((hb2.block _ zw).trans G0.out)
 have z2:=hb2.size
 clear hpo hpv hb2 v0' v1' v2' v3' v4' G0
 go_upto_region 3 with (fail)
 refine (whole_any w2 na nl nc ns (HR.out.below HB2.out) (fun nd h=>okS_below ⟨(HNS.out nd h).ok,by obtain ⟨ss,h⟩:=(HNS.out nd h).t;exact ⟨ss,h.rs⟩⟩ HB2.out) hn5 HSN.out).mono ?_
 rintro e w3 ⟨⟨gu,us,rfl,hus,hrow,hwho⟩,hb3⟩
 have HUS:=Lib.hid hus
 have HROW:=Lib.hid hrow
 have HWHO:=Lib.hid hwho
 have HB3:=Lib.hid (HB2.out.trans (hb3.mono (by omega)))
 have HB23:=Lib.hid hb3
 have HPO3:=Lib.hid (HPO.out.below hb3)
 have G03:=Lib.hid ((hb3.block _ (by omega)).trans G02.out)
 have HGU:=Lib.hid (own_blk hrow).1
 have HGUL:=Lib.hid (own_blt hrow)
 have z3:=hb3.size
 clear hus hrow hwho hb3 HPO G02
 go_upto_region 4 with (fail)
 refine (whole_any w3 na nl nc ns (HR.out.below HB3.out) (fun nd h=>okS_below ⟨(HNS.out nd h).ok,by obtain ⟨ss,h⟩:=(HNS.out nd h).t;exact ⟨ss,h.rs⟩⟩ HB3.out) hn5 HSN.out).mono ?_
 rintro e w4 ⟨⟨gv,vs,rfl,hvs,hrow,hwho⟩,hb4⟩
 have HB4:=Lib.hid (HB3.out.trans (hb4.mono (by omega)))
 have HPO4:=Lib.hid (HPO3.out.below hb4)
 have G04:=Lib.hid ((hb4.block _ (by omega)).trans G03.out)
 have HGV:=Lib.hid (own_blk hrow).1
 have HNE:=Lib.hid (show gu ≠ gv from fun e=>by
  have h1:=(own_blk hrow).1
  have h2:=HGUL.out
  omega)
 have HAG:=Lib.hid (show AgI w2 w3 w4 nl gu gv ns us vs from ⟨own_below HROW.out hb4,hrow,HUS.out,hvs,HLEN.out,fun i x nd h1 h2=>(HWHO.out i x nd h1 h2).below hb4,hwho,
  fun nd hnd=>⟨((HNS.out nd hnd).below HB2.out).ok,((HNS.out nd hnd).below HB3.out).ok,(HSN.out nd hnd).1,(HSN.out nd hnd).2⟩⟩)
 have z4:=hb4.size
 clear hvs hrow hwho hb4 HPO3 G03 HROW HWHO HUS HGUL
 go_wp2_with fail
 go_loopw [10] (fun x wr=>∃ (j:Nat) (ns' us' vs':List Nd),j≤3∧x=.int .i64 (j:Int)∧Below w.heap.size w wr∧AgI w2 w3 wr nl gu gv ns' us' vs'∧PdOwn wr w1.heap.size pp∧wr.heap[w.heap.size]?=some (boxW35 p)) (fun x _=>3 - (intOf x).toNat)
 case atStart=>exact ⟨0,ns,us,vs,by omega,rfl,HB4.out,HAG.out,HPO4.out,G04.out⟩
 case round =>
  clear HAG HPO4 G04
  obtain ⟨j,ns1,us1,vs1,hj,rfl,hb,hag,hpo,hg0⟩:=hrel
  have HB:=Lib.hid hb
  have HAG:=Lib.hid hag
  have HPO:=Lib.hid hpo
  have HG0:=Lib.hid hg0
  have zr:=hb.size
  clear hb hag hpo hg0
  by_cases hlt:j < 3
  · have hltI:(j:Int) < 3:=by omega
    go_upto_region 7 with (fail)
    go_cut [45] (fun s wx=>s=.bool (decide (0 < j∧0≤root∧root < (nl:Int)))∧wr=wx)
    case first =>
     by_cases h0:0 < j
     · have h0I:(0:Int) < (j:Int):=by omega
       by_cases hr0:0≤root
       · by_cases hrn:root < (nl:Int)
         · have HBD:=Lib.hid (show decide (0 < j∧0≤root∧root < (nl:Int))=true by simp;omega)
           go_wp2_with fail
           go_meet
           exact ⟨by have q:=HBD.out;(try rw [q]),rfl⟩
         · have HBD:=Lib.hid (show decide (0 < j∧0≤root∧root < (nl:Int))=false by simp;omega)
           go_wp2_with fail
           go_meet
           exact ⟨by have q:=HBD.out;(try rw [q]),rfl⟩
       · have HBD:=Lib.hid (show decide (0 < j∧0≤root∧root < (nl:Int))=false by simp;omega)
         go_wp2_with fail
         go_meet
         exact ⟨by have q:=HBD.out;(try rw [q]),rfl⟩
     · obtain rfl:j=0:=by omega
       have HBD:=Lib.hid (show decide (0 < 0∧0≤root∧root < (nl:Int))=false by simp)
       clear hlt hltI h0 hj
       go_wp2_with fail
       go_meet
       exact ⟨by have q:=HBD.out;(try rw [q]),rfl⟩
    case rest =>
     obtain ⟨rfl,rfl⟩:=hcut
     go_upto_if 45 with (fail)
     go_cut [] (fun wx=>∃ ns us vs,AgI w2 w3 wx nl gu gv ns us vs∧Below w.heap.size w wx∧PdOwn wx w1.heap.size pp∧wx.heap[w.heap.size]?=some (boxW35 p))
     case first =>
      cases hb2:decide (0 < j∧0≤root∧root < (nl:Int))
      · go_wp2_with fail
        go_meet
        exact ⟨ns1,us1,vs1,HAG.out,HB.out,HPO.out,HG0.out⟩
      · have hb3:0 < j∧0≤root∧root < (nl:Int):=of_decide_eq_true hb2
        obtain ⟨q,rfl⟩:∃ q:Nat,root=q:=⟨root.toNat,by omega⟩
        have hq:q < nl:=by omega
        have hqI:(q:Int) < (nl:Int):=by omega
        have hvl:q < vs1.length:=by have:=HAG.out.lv;omega
        have hul:q < us1.length:=by have:=HAG.out.lu;omega
        have hv8:(vs1++List.replicate 8 markNd)[q]?=some vs1[q]:=by rw [List.getElem?_append_left hvl];exact List.getElem?_eq_getElem hvl
        have hu8:(us1++List.replicate 8 markNd)[q]?=some us1[q]:=by rw [List.getElem?_append_left hul];exact List.getElem?_eq_getElem hul
        have c0:=own_at Nd_len2 HAG.out.v hv8 0 _ rfl
        have f0:=HAG.out.v.frozenAt (q * 7)
        have d0:=own_at Nd_len2 HAG.out.u hu8 0 _ rfl
        have g0:=HAG.out.u.frozenAt (q * 7)
        simp only [Nat.add_zero] at c0 d0
        generalize vs1[q]=vx at c0 hv8
        generalize us1[q]=ux at d0 hu8
        have hne:=HNE.out
        have HFL:=Lib.hid (HAG.out.flip hq hne (bits .xor .i64 vx.op 1))
        have hgu:=HGU.out
        have hgv:=HGV.out
        have hbl:Below w.heap.size w ((wr.setCell ⟨gv,q * 7,none⟩ (.int .i64 (bits .xor .i64 vx.op 1))).setCell ⟨gu,q * 7,none⟩ (.int .i64 (bits .xor .i64 vx.op 1))) :=
         (HB.out.setCell (by show w.heap.size≤gv;omega) _).setCell (by show w.heap.size≤gu;omega) _
        have hg5:((wr.setCell ⟨gv,q * 7,none⟩ (.int .i64 (bits .xor .i64 vx.op 1))).setCell ⟨gu,q * 7,none⟩ (.int .i64 (bits .xor .i64 vx.op 1))).heap[w.heap.size]?=some (boxW35 p) :=
         (heap_setCell_other _ ⟨gu,q * 7,none⟩ w.heap.size _ (by show w.heap.size ≠ gu;omega)).trans ((heap_setCell_other wr ⟨gv,q * 7,none⟩ w.heap.size _ (by show w.heap.size ≠ gv;omega)).trans HG0.out)
        have HBL:=Lib.hid hbl
        have HG5:=Lib.hid hg5
        have d1:(wr.setCell ⟨gv,q * 7,none⟩ (.int .i64 (bits .xor .i64 vx.op 1))).cell? ⟨gu,q * 7,none⟩=some (.int .i64 ux.op) :=
         (World.cell?_of_block (heap_setCell_other wr ⟨gv,q * 7,none⟩ gu _ hne)).trans d0
        clear hvl hul hv8 hu8 hbl hg5 hb3 hb2 hgu hgv
        go_wp2_with fail
        go_meet
        exact ⟨_,_,_,HFL.out.2,HBL.out,PdOwn.only HFL.out.1 (by decide) (by decide) HPO.out,HG5.out⟩
     case rest =>
      clear HAG HB HPO HG0
      obtain ⟨ns3,us3,vs3,hag,hb,hpo,hg0⟩:=hcut
      have zc:=hb.size
      have zc1:w.heap.size < wc.heap.size:=(Array.getElem?_eq_some_iff.1 hg0).1
      have huw:∀ u ∈ us3,NdW wc u∧u.kl≤20000:=fun u hu=>by
       obtain ⟨i,hi⟩:=List.getElem?_of_mem hu
       have hil:=(List.getElem?_eq_some_iff.1 hi).1
       have h1:=hag.lu;have h2:=hag.ln
       have hnd:ns3[i]?=some ns3[i]:=List.getElem?_eq_getElem (by omega)
       have hok:=hag.ok _ (List.mem_of_getElem? hnd)
       have hw:=hag.wu i u _ hi hnd
       exact ⟨who_ndw hw hok.1 hok.2.2.1 hok.2.2.2,by rw [hw.2.2.2.2.2.2.1];exact hok.2.2.1⟩
      have hvw:∀ u ∈ vs3,NdW wc u∧u.kl≤20000∧u.sl≤20000:=fun u hu=>by
       obtain ⟨i,hi⟩:=List.getElem?_of_mem hu
       have hil:=(List.getElem?_eq_some_iff.1 hi).1
       have h1:=hag.lv;have h2:=hag.ln
       have hnd:ns3[i]?=some ns3[i]:=List.getElem?_eq_getElem (by omega)
       have hok:=hag.ok _ (List.mem_of_getElem? hnd)
       have hw:=hag.wv i u _ hi hnd
       exact ⟨who_ndw hw hok.2.1 hok.2.2.1 hok.2.2.2,by rw [hw.2.2.2.2.2.2.1];exact hok.2.2.1,by rw [hw.2.2.2.2.2.1];exact hok.2.2.2⟩
      obtain ⟨r,hrr⟩:∃ r,r=worthR us3 root pp.vw:=⟨_,rfl⟩
      obtain ⟨X,hX⟩:∃ X,X=valOf r:=⟨_,rfl⟩
      obtain ⟨E,hE⟩:∃ E,E=erOf r:=⟨_,rfl⟩
      obtain ⟨L,hL⟩:∃ L,L=X.ss.length:=⟨_,rfl⟩
      have HUN:=Lib.hid (show ∀ x ∈ us3,x.ks.length=x.kl∧I64 x.vn from fun x hx=>⟨(huw x hx).1.ok.1.1,(huw x hx).1.ok.2.2⟩)
      have HVN:=Lib.hid (show ∀ x ∈ vs3,x.ks.length=x.kl∧I64 x.vn from fun x hx=>⟨(hvw x hx).1.ok.1.1,(hvw x hx).1.ok.2.2⟩)
      have hL64:L≤64:=by
       rw [hL,hX,hrr]
       exact val_small HPW.out HUN.out (fun nd h=>by have:=(huw nd h).2;omega) root
      have HRR:=Lib.hid hrr
      have HX:=Lib.hid hX
      have HE:=Lib.hid hE
      have HL:=Lib.hid hL
      have hEE:(E != E)=false:=by simp
      have HE3:=Lib.hid (show EnvW wc (some ⟨gu,0,none⟩) nl (nl+8) us3 pp from ⟨by
       have h:=(RS.of_owns hag.u (by decide) Nd_len2 (by omega)).cut
       rwa [hag.lu] at h,fun u hu=>(huw u hu).1,hpo.ok⟩)
      have HRV:=Lib.hid (show RS 7 Nd.cs wc (some ⟨gv,0,none⟩) nl (nl+8) vs3 by
       have h:=(RS.of_owns hag.v (by decide) Nd_len2 (by omega)).cut
       rwa [hag.lv] at h)
      have HPA:=Lib.hid (HP.out.below hb)
      have henv:EnvR wc (some ⟨gv,0,none⟩) nl (nl+8) vs3 p:=⟨HRV.out,fun u hu=>(hvw u hu).1,HPA.out.v,HPA.out.o.rs,HPA.out.r.rs,fun b hb=>(HPA.out.b b hb).1⟩
      have HEN:=Lib.hid (show RefEnv wc (some ⟨gv,0,none⟩) nl (nl+8) vs3 p from ⟨henv,HVW.out,HVN.out,HT0.out wc hb,by omega,hn5,fun nd h=>by have:=(hvw nd h).2.1;omega,rworth_any wc _ nl (nl+8) vs3 p henv HVW.out HVN.out⟩)
      have HWV:=Lib.hid (show worthR vs3 root p.vw=r by
       rw [HRR.out,HPV.out]
       exact worthR_like ((whole_bone (by rw [hag.lv,hag.ln]) hag.wv).trans (whole_bone (by rw [hag.lu,hag.ln]) hag.wu).symm) root p.vw)
      have HUK:=Lib.hid (show ∀ (i:Nat) (nd:Nd),(i:Int)≤root→us3[i]?=some nd→nd.kl≤1000000 from fun i nd _ h=>by have:=(huw nd (List.mem_of_getElem? h)).2;omega)
      have HOKS:=Lib.hid (show ∀ nd ∈ vs3,nd.okS wc from fun nd hnd=>⟨(hvw nd hnd).1.ok,by obtain ⟨ss,h⟩:=(hvw nd hnd).1.t;exact ⟨ss,h.rs⟩⟩)
      have HSV3:=Lib.hid (show ∀ nd ∈ vs3,nd.kl≤20000∧nd.sl≤20000 from fun nd hnd=>(hvw nd hnd).2)
      have HWH:=Lib.hid (show ∀ (i:Nat) (u nd:Nd),us3[i]?=some u→vs3[i]?=some nd→Who wc w2.heap.size u nd from fun i u v h1 h2=>by
       have hil:=(List.getElem?_eq_some_iff.1 h1).1
       have e1:=hag.lu;have e2:=hag.ln
       have hnd:ns3[i]?=some ns3[i]:=List.getElem?_eq_getElem (by omega)
       have hok:=hag.ok _ (List.mem_of_getElem? hnd)
       exact WhoI.pair (hag.wu i u _ h1 hnd) (hag.wv i v _ h2 hnd) HB23.out hok.2.2.1 hok.2.2.2)
      have HAG:=Lib.hid hag
      have HB:=Lib.hid hb
      have HPO:=Lib.hid hpo
      have HG0:=Lib.hid hg0
      clear hag hb hpo hg0 huw hvw henv hrr hX hE hL
      go_upto_region 11 with (fail)
      refine (worthf_any wc _ nl (nl+8) us3 pp HE3.out HPW.out HUN.out (HT1.out wc HB.out) (by omega) root HRO.out HUK.out).mono ?_
      rintro e w5 ⟨hw,hb5⟩
      rw [← HRR.out] at hw
      obtain ⟨a,c,rfl,hso⟩:=hw.is HX.out HE.out HL.out
      have HSV:=Lib.hid hso.sv
      have HB5:=Lib.hid hb5
      have z5:=hb5.size
      clear hw hso hb5
      go_upto_region 11 with (fail)
      obtain ⟨w6,hw6⟩:∃ w6,w6=w5.alloc (.cells #[.int .i64 X.k,.int .i64 X.n,.string X.t,.slice a L c] 43):=⟨_,rfl⟩
      have g6:w6.heap[w5.heap.size]?=some (.cells #[.int .i64 X.k,.int .i64 X.n,.string X.t,.slice a L c] 43):=by rw [hw6];exact heap_alloc_new w5 _
      have hb6:Below w5.heap.size w5 w6:=by rw [hw6];exact bel1 _ _
      have z6:w5.heap.size < w6.heap.size:=by rw [hw6];simp
      rw [← hw6]
      have HG6:=Lib.hid g6
      have HC6:=Lib.hid (HB5.out.trans (hb6.mono (by omega)))
      have HSV6:=Lib.hid (HSV.out.below hb6)
      have G06:=Lib.hid ((HC6.out.block _ (by omega)).trans HG0.out)
      clear hw6 g6 hb6 HSV HB5
      have v0':=cell_of_row _ _ 0 _ _ _ G06.out
      have v1':=cell_of_row _ _ 1 _ _ _ G06.out
      have v2':=cell_of_row _ _ 2 _ _ _ G06.out
      have v3':=cell_of_row _ _ 3 _ _ _ G06.out
      have v4':=cell_of_row _ _ 4 _ _ _ G06.out
      simp only [List.getElem?_toArray,List.getElem?_cons_zero,List.getElem?_cons_succ] at v0' v1' v2' v3' v4'
      go_upto_region 12 with (fail)
      refine (viewplain_any w6 p).mono ?_
      rintro e w7 ⟨rfl,hb7⟩
      have HC7:=Lib.hid (HC6.out.trans (hb7.mono HC6.out.size))
      have HG7:=Lib.hid ((hb7.block _ z6).trans HG6.out)
      have HSV7:=Lib.hid (HSV6.out.below hb7)
      have z7:=hb7.size
      clear hb7 v0' v1' v2' v3' v4'
      go_upto_region 12 with (fail)
      refine (refworth_any wc _ nl (nl+8) vs3 p HEN.out w7 HC7.out root).mono ?_
      rintro e w8 ⟨hw,hb8⟩
      rw [HWV.out] at hw
      obtain ⟨b,d,rfl,hrv⟩:=hw.is HX.out HE.out HL.out
      have HRV8:=Lib.hid hrv
      have HC8:=Lib.hid (HC7.out.trans (hb8.mono HC7.out.size))
      have HG8:=Lib.hid ((hb8.block _ (by omega)).trans HG7.out)
      have HSV8:=Lib.hid (HSV7.out.below hb8)
      have z8:=hb8.size
      clear hw hrv hb8
      go_upto_region 12 with (fail)
      obtain ⟨w9,hw9⟩:∃ w9,w9=w8.alloc (.cells #[.int .i64 X.k,.int .i64 X.n,.string X.t,.slice b L d] 43):=⟨_,rfl⟩
      have g9:w9.heap[w8.heap.size]?=some (.cells #[.int .i64 X.k,.int .i64 X.n,.string X.t,.slice b L d] 43):=by rw [hw9];exact heap_alloc_new w8 _
      have hb9:Below w8.heap.size w8 w9:=by rw [hw9];exact bel1 _ _
      rw [← hw9]
      have HC9:=Lib.hid (HC8.out.trans (hb9.mono HC8.out.size))
      have g9':=(hb9.block _ (show w5.heap.size < w8.heap.size by omega)).trans HG8.out
      have HSV9:=Lib.hid (HSV8.out.below hb9)
      have HRV9:=Lib.hid (HRV8.out.imp (fun h=>h) (fun h=>h.below hb9))
      obtain ⟨x0,x1,x2,x3,-⟩:=box4 g9'
      obtain ⟨y0,y1,y2,y3,-⟩:=box4 g9
      clear hw9 hb9 g9 g9'
      go_wp2_with fail
      refine (sameV_any w9 X a L c (HSV9.out.rz (by omega)).rs b d (rv_rs HRV9.out HC9.out (by omega))).mono ?_
      rintro e w10 ⟨rfl,hb10⟩
      have HC10:=Lib.hid (HC9.out.trans (hb10.mono HC9.out.size))
      clear hb10 x0 x1 x2 x3 y0 y1 y2 y3
      go_wp2_with fail
      refine (left_any w10 w2.heap.size gu nl us3 vs3 (own_below HAG.out.u HC10.out) HAG.out.lu _ (nl+8) (HRV.out.below HC10.out) (fun nd h=>okS_below (HOKS.out nd h) HC10.out) (fun i u nd hu hnd=>(HWH.out i u nd hu hnd).below HC10.out) hn5 HSV3.out).mono ?_
      rintro e w11 ⟨rfl,hb11⟩
      have HC11:=Lib.hid (HC10.out.trans (hb11.mono HC10.out.size))
      clear hb11
      go_wp2_with fail
      go_roundw
      case rel=>exact ⟨j+1,ns3,us3,vs3,by omega,by go_num,HB.out.trans (HC11.out.mono zc),HAG.out.below HC11.out,HPO.out.below HC11.out,(HC11.out.block _ (by omega)).trans HG0.out⟩
      case measure=>simp [intOf] <;> omega
  · obtain rfl:j=3:=by omega
    go_wp2_with fail
    go_ret
    exact ⟨rfl,HB.out⟩
end Go.Proofs.YtcnckjlmldnblaaGreatDoor
