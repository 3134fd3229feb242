import Derived.Test.YtcnckjlmldnblaaGreatDoorE31
import Derived.Test.YtcnckjlmldnblaaGreatDoorE20
namespace Go.Proofs.YtcnckjlmldnblaaGreatDoor
open Go Go.RowKit
open List renaming setIfInBounds_toArray → pa, set_cons_zero → pb, set_cons_succ → pc, getElem_toArray → pd, getElem_cons_succ → pe, getElem_cons_zero → pf
set_option maxRecDepth 100000
set_option maxHeartbeats 4000000
set_option linter.unusedVariables false
set_option linter.unusedSimpArgs false
/-- A view that Plain made: all of its memory is its own. -/
structure PdOwn (w:World) (B:Nat) (p:Pd):Prop where
 v:w.ownsRow B 50 5 (.slice p.va p.vl p.vc) p.vl (p.bs.flatMap Bc.cs)
 o:w.ownsRow B 9 1 (.slice p.oa p.ol p.oc) p.ol (p.os.flatMap Sv)
 r:w.ownsRow B 9 1 (.slice p.ra p.rl p.rc) p.rl (p.rs.flatMap Sv)
 b:∀ b ∈ p.bs,SV w B (VA b.v.x b.v.a b.v.l b.v.c) b.v.x∧I64 b.v.x.n∧b.v.l≤1000000
 n:p.vl≤1000000∧p.ol≤1000000∧p.rl≤1000000
theorem PdOwn.ok {w:World} {B:Nat} {p:Pd} (h:PdOwn w B p):p.ok w :=
 ⟨RS.of_owns h.v (by decide) Bc_len (by have:=h.n;omega),RS.of_owns h.o (by decide) Sv_len (by have:=h.n;omega),RS.of_owns h.r (by decide) Sv_len (by have:=h.n;omega),
   fun b hb=>⟨(h.b b hb).1.rz (by have:=(h.b b hb).2.2;omega),(h.b b hb).2⟩⟩
theorem PdOwn.below {w w':World} {B:Nat} {p:Pd} (h:PdOwn w B p) (hb:Below w.heap.size w w'):PdOwn w' B p :=
 ⟨own_below h.v hb,own_below h.o hb,own_below h.r hb,fun b hm=>⟨(h.b b hm).1.below hb,(h.b b hm).2⟩,h.n⟩
/-- The same names and values, the first k of them in memory of their own. -/
def HalfOwn (w:World) (B k:Nat) (bs ds:List Bc):Prop :=
 ds.length=bs.length∧(∀ (i:Nat) (b d:Bc),bs[i]?=some b→ds[i]?=some d→d.nm=b.nm∧d.v.x=b.v.x∧d.v.l=b.v.l∧(k≤i→d=b)∧(i < k→SV w B (VA d.v.x d.v.a d.v.l d.v.c) d.v.x))
theorem HalfOwn.start (w:World) (B:Nat) (bs:List Bc):HalfOwn w B 0 bs bs:=⟨rfl,fun i b d hb hd=>by rw [hb] at hd;cases hd;exact ⟨rfl,rfl,rfl,fun _=>rfl,fun h=>by omega⟩⟩
theorem HalfOwn.to {w w':World} {B k:Nat} {bs ds:List Bc} (h:HalfOwn w B k bs ds) (hs:∀ (v:Value) (x:Vl),SV w B v x→SV w' B v x):HalfOwn w' B k bs ds :=
 ⟨h.1,fun i b d hb hd=>by obtain ⟨h1,h2,h3,h4,h5⟩:=h.2 i b d hb hd;exact ⟨h1,h2,h3,h4,fun hi=>hs _ _ (h5 hi)⟩⟩
theorem HalfOwn.set {w:World} {B k:Nat} {bs ds:List Bc} (h:HalfOwn w B k bs ds) {b:Bc} (hb:bs[k]?=some b) {a:Option Addr} {c:Nat} (hs:SV w B (VA b.v.x a b.v.l c) b.v.x):HalfOwn w B (k+1) bs (ds.set k ⟨b.nm,⟨b.v.x,a,b.v.l,c⟩⟩):=by
 refine ⟨by simp [h.1],fun i b' d hb' hd=>?_⟩
 rw [List.getElem?_set] at hd
 by_cases e:k=i
 · subst e
   rw [hb] at hb'
   cases hb'
   rw [if_pos rfl,if_pos (by rw [h.1];exact (List.getElem?_eq_some_iff.1 hb).1)] at hd
   cases hd
   exact ⟨rfl,rfl,rfl,fun h=>by omega,fun _=>hs⟩
 · rw [if_neg e] at hd
   obtain ⟨h1,h2,h3,h4,h5⟩:=h.2 i b' d hb' hd
   exact ⟨h1,h2,h3,fun hi=>h4 (by omega),fun hi=>h5 (by omega)⟩
theorem HalfOwn.vals {w:World} {B k:Nat} {bs ds:List Bc} (h:HalfOwn w B k bs ds):ds.map (fun b=>(b.nm,b.v.x))=bs.map fun b=>(b.nm,b.v.x):=by
 apply List.ext_getElem?
 intro i
 rw [List.getElem?_map,List.getElem?_map]
 cases hb:bs[i]? with
 | none=>rw [List.getElem?_eq_none (by rw [h.1];exact List.getElem?_eq_none_iff.1 hb)]
 | some b =>
   obtain ⟨d,hd⟩:∃ d,ds[i]?=some d:=⟨_,List.getElem?_eq_getElem (by rw [h.1];exact (List.getElem?_eq_some_iff.1 hb).1)⟩
   rw [hd]
   obtain ⟨h1,h2,-⟩:=h.2 i b d hb hd
   simp [h1,h2]
abbrev PlainP (va:Option Addr) (n vc:Nat) (oa:Option Addr) (ol oc:Nat) (ra:Option Addr) (rl rc:Nat) (clock steps:Int):Array Value:=#[.slice va n vc,.slice oa ol oc,.slice ra rl rc,.int .i64 clock,.int .i64 steps]
/-- What holds in Plain's loop. -/
def PlR (w w3:World) (n vc':Nat) (bs:List Bc) (oa':Option Addr) (ol oc':Nat) (os:List ByteArray) (ra':Option Addr) (rl rc':Nat) (rs:List ByteArray) (clock steps:Int) (va':Option Addr) (k:Nat) (wr:World):Prop :=
 ∃ ds:List Bc,wr.ownsRow w.heap.size 50 5 (.slice va' n vc') n (ds.flatMap Bc.cs)∧HalfOwn wr w.heap.size k bs ds∧wr.ownsRow w.heap.size 9 1 (.slice oa' ol oc') ol (os.flatMap Sv)∧wr.ownsRow w.heap.size 9 1 (.slice ra' rl rc') rl (rs.flatMap Sv)∧wr.heap[w3.heap.size]?=some (.cells (PlainP va' n vc' oa' ol oc' ra' rl rc' clock steps) 72 (0,0))∧Below w.heap.size w wr
theorem keepo {w:World} {b o B o0 o1 o2 o3:Nat} {v x0 x1 x2 x3:Value} (h:w.cell? ⟨b,o,none⟩=some v) (hne:b ≠ B):((((w.setCell ⟨B,o0,none⟩ x0).setCell ⟨B,o1,none⟩ x1).setCell ⟨B,o2,none⟩ x2).setCell ⟨B,o3,none⟩ x3).cell? ⟨b,o,none⟩=some v :=
 (World.cell?_of_block (heap_setCell_other _ ⟨B,o3,none⟩ b x3 hne)).trans ((World.cell?_of_block (heap_setCell_other _ ⟨B,o2,none⟩ b x2 hne)).trans ((World.cell?_of_block (heap_setCell_other _ ⟨B,o1,none⟩ b x1 hne)).trans ((World.cell?_of_block (heap_setCell_other w ⟨B,o0,none⟩ b x0 hne)).trans h)))
theorem setList_skip {xs:List Value} {o:Nat} {x:Value} (h:xs[o]?=some x) (vs:List Value):setList xs o (x :: vs)=setList xs (o+1) vs:=by
 show setList (xs.set o x) (o+1) vs=_
 congr 1
 apply List.ext_getElem?
 intro i
 rw [List.getElem?_set]
 split
 · rename_i e
   subst e
   rw [if_pos (List.getElem?_eq_some_iff.1 h).1,h]
 · rfl
theorem chain_other {g:Nat}:∀ (vs:List Value) (w:World) (o:Nat) {h:Nat},h ≠ g→(setChain w g o vs).heap[h]?=w.heap[h]?
 | [],_,_,_,_=>rfl
 | v :: t,w,o,h,hne=>by
   show (setChain (w.setCell ⟨g,o,none⟩ v) g (o+1) t).heap[h]?=_
   rw [chain_other t _ _ hne]
   exact heap_setCell_other w ⟨g,o,none⟩ h v hne
theorem plr_step {w w3 w6:World} {g n vc' k:Nat} {bs ds:List Bc} {oa':Option Addr} {ol oc':Nat} {os:List ByteArray} {ra':Option Addr} {rl rc':Nat} {rs:List ByteArray} {clock steps:Int} {d:Bc} {a6:Option Addr} {c6:Nat}
 (hv:w6.ownsRow w.heap.size 50 5 (.slice (some ⟨g,0,none⟩) n vc') n (ds.flatMap Bc.cs)) (hh:HalfOwn w6 w.heap.size k bs ds) (ho:w6.ownsRow w.heap.size 9 1 (.slice oa' ol oc') ol (os.flatMap Sv)) (hr:w6.ownsRow w.heap.size 9 1 (.slice ra' rl rc') rl (rs.flatMap Sv))
 (hg:w6.heap[w3.heap.size]?=some (.cells (PlainP (some ⟨g,0,none⟩) n vc' oa' ol oc' ra' rl rc' clock steps) 72 (0,0))) (hb:Below w.heap.size w w6) (hs:SV w6 w.heap.size (VA d.v.x a6 d.v.l c6) d.v.x) (hbk:bs[k]?=some d) (hdk:ds[k]?=some d) (hgB:w.heap.size≤g) (hgne:w3.heap.size ≠ g) :
 PlR w w3 n vc' bs oa' ol oc' os ra' rl rc' rs clock steps (some ⟨g,0,none⟩) (k+1) ((((w6.setCell ⟨g,k * 5+1,none⟩ (.int .i64 d.v.x.k)).setCell ⟨g,k * 5+2,none⟩ (.int .i64 d.v.x.n)).setCell ⟨g,k * 5+3,none⟩ (.string d.v.x.t)).setCell ⟨g,k * 5+4,none⟩ (.slice a6 d.v.l c6)):=by
 have hch:((((w6.setCell ⟨g,k * 5+1,none⟩ (.int .i64 d.v.x.k)).setCell ⟨g,k * 5+2,none⟩ (.int .i64 d.v.x.n)).setCell ⟨g,k * 5+3,none⟩ (.string d.v.x.t)).setCell ⟨g,k * 5+4,none⟩ (.slice a6 d.v.l c6))=setChain w6 g (k * 5+1) [.int .i64 d.v.x.k,.int .i64 d.v.x.n,.string d.v.x.t,.slice a6 d.v.l c6]:=rfl
 rw [hch]
 obtain ⟨h7,hg7⟩:=own_chain [.int .i64 d.v.x.k,.int .i64 d.v.x.n,.string d.v.x.t,.slice a6 d.v.l c6] _ w6 (k * 5+1) hv
 have hkl:=(List.getElem?_eq_some_iff.1 hdk).1
 rw [← setList_skip (x:=.string d.nm) (show (ds.flatMap Bc.cs)[k * 5]?=some (.string d.nm) from flat_get Bc.cs 5 Bc_len ds k d hdk 0 _ rfl)] at h7
 have e7:=setList_flat Bc.cs 5 Bc_len ds k ⟨d.nm,⟨d.v.x,a6,d.v.l,c6⟩⟩ hkl
 rw [show setList (ds.flatMap Bc.cs) (k * 5) (.string d.nm :: [.int .i64 d.v.x.k,.int .i64 d.v.x.n,.string d.v.x.t,.slice a6 d.v.l c6])=_ from e7] at h7
 have hsv:∀ (v:Value) (x:Vl),SV w6 w.heap.size v x→SV (setChain w6 g (k * 5+1) [.int .i64 d.v.x.k,.int .i64 d.v.x.n,.string d.v.x.t,.slice a6 d.v.l c6]) w.heap.size v x:=fun v x h=>by
  obtain ⟨a',l',c',e,hl,h⟩:=h
  refine ⟨a',l',c',e,hl,?_⟩
  rcases h with h | h
  · exact .inl h
  · exact .inr (own_grown h hv (by decide) hg7)
 refine ⟨ds.set k ⟨d.nm,⟨d.v.x,a6,d.v.l,c6⟩⟩,h7,?_,own_grown ho hv (by decide) hg7,own_grown hr hv (by decide) hg7,?_,below_chain hgB _ _ _ hb⟩
 · exact (hh.to hsv).set hbk (hsv _ _ hs)
 · rw [chain_other _ _ _ hgne]
   exact hg
/-- What Plain makes of plain data. -/
def PlainOut (e:Ending) (w':World) (B:Nat) (v:Vw):Prop:=∃ p:Pd,e=.returned (.iface 72 (.agg p.cs))∧PdOwn w' B p∧p.vw=v
theorem plain_any (w:World) (va:Option Addr) (n vc:Nat) (bs:List Bc) (hv:RS 5 Bc.cs w va n vc bs) (hvz:va=none→vc=0) (hbs:∀ b ∈ bs,RZ w b.v.a b.v.l b.v.c b.v.x.ss∧I64 b.v.x.n∧b.v.l≤1000000)
 (oa:Option Addr) (ol oc:Nat) (os:List ByteArray) (ho:RZ w oa ol oc os) (ra:Option Addr) (rl rc:Nat) (rs:List ByteArray) (hr:RZ w ra rl rc rs) (hn:n≤1000000) (hol:ol≤1000000) (hrl:rl≤1000000) (clock steps:Int) :
 Calls Tryz.prog 9 #[.slice va n vc,.slice oa ol oc,.slice ra rl rc,.int .i64 clock,.int .i64 steps] w fun e w'=>PlainOut e w' w.heap.size ⟨bs.map fun b=>(b.nm,b.v.x),os,rs,clock,steps⟩∧Below w.heap.size w w':=by
 have HV:=Lib.hid hv
 have HVZ:=Lib.hid hvz
 have HBS:=Lib.hid hbs
 have HOO:=Lib.hid ho
 have HRR:=Lib.hid hr
 have HLN:=Lib.hid hv.1
 clear hv hvz hbs ho hr
 go_enter Tryz.func9,Tryz.ntmps9
 go_wp2_with fail
 with_reducible refine (cloneB_any w va n vc bs HV.out HVZ.out hn).mono ?_
 rintro e w1 ⟨va',vc',rfl,ho1,hb1⟩
 have z1:=hb1.size
 have HO1:=Lib.hid ho1
 have HB1:=Lib.hid hb1
 clear ho1 hb1
 go_wp2_with fail
 with_reducible refine (clone_any w1 oa ol oc os (HOO.out.below HB1.out).rs (by omega)).mono ?_
 rintro e w2 ⟨oa',oc',rfl,ho2,hb2⟩
 have z2:=hb2.size
 have HO2:=Lib.hid (owns_mono ho2 z1)
 have HB2:=Lib.hid (HB1.out.trans (hb2.mono z1))
 have HO12:=Lib.hid (own_below HO1.out hb2)
 clear ho2 hb2
 go_wp2_with fail
 with_reducible refine (clone_any w2 ra rl rc rs (HRR.out.below HB2.out).rs (by omega)).mono ?_
 rintro e w3 ⟨ra',rc',rfl,ho3,hb3⟩
 have z3:=hb3.size
 have HO3:=Lib.hid (owns_mono ho3 (by omega:w.heap.size≤w2.heap.size))
 have HB3:=Lib.hid (HB2.out.trans (hb3.mono (by omega)))
 have HO13:=Lib.hid (own_below HO12.out hb3)
 have HO23:=Lib.hid (own_below HO2.out hb3)
 clear ho3 hb3
 go_upto_region 2 with (fail)
 obtain ⟨w4,hw4⟩:∃ w4,w4=w3.alloc (.cells (PlainP va' n vc' oa' ol oc' ra' rl rc' clock steps) 72):=⟨_,rfl⟩
 have g4:w4.heap[w3.heap.size]?=some (.cells (PlainP va' n vc' oa' ol oc' ra' rl rc' clock steps) 72 (0,0)):=by rw [hw4];exact heap_alloc_new w3 _
 have hb4:Below w3.heap.size w3 w4:=by rw [hw4];exact bel1 _ _
 have z4:w3.heap.size < w4.heap.size:=by rw [hw4];simp
 have z04:w.heap.size≤w3.heap.size:=by omega
 rw [← hw4]
 clear hw4
 have G4:=Lib.hid g4
 have HB4:=Lib.hid (HB3.out.trans (hb4.mono (by omega)))
 have HV4:=Lib.hid (own_below HO13.out hb4)
 have HO4:=Lib.hid (own_below HO23.out hb4)
 have HR4:=Lib.hid (own_below HO3.out hb4)
 have HBS4:=Lib.hid (fun b hm=>(⟨(HBS.out b hm).1.below HB4.out,(HBS.out b hm).2⟩:RZ w4 b.v.a b.v.l b.v.c b.v.x.ss∧I64 b.v.x.n∧b.v.l≤1000000))
 have p0:=cell_of_row w4 _ 0 _ _ _ g4
 simp only [List.getElem?_toArray,List.getElem?_cons_zero] at p0
 clear g4 hb4 HO1 HO2 HO12 HO13 HO23 HO3 HB1 HB2 HB3
 go_wp2_with fail
 go_loopw [25] (fun i wr=>∃ k:Nat,k≤n∧i=.int .i64 k∧PlR w w3 n vc' bs oa' ol oc' os ra' rl rc' rs clock steps va' k wr) (fun i _=>n - (intOf i).toNat)
 case atStart=>exact ⟨0,by omega,rfl,bs,HV4.out,HalfOwn.start _ _ _,HO4.out,HR4.out,G4.out,HB4.out⟩
 case round =>
  obtain ⟨k,hk,rfl,ds,hv,hh,ho,hr,hg,hb⟩:=hrel
  have HVr:=Lib.hid hv
  have HH:=Lib.hid hh
  have HOr:=Lib.hid ho
  have HRr:=Lib.hid hr
  have HGr:=Lib.hid hg
  have HBr:=Lib.hid hb
  have zr:=hb.size
  have zgr:w3.heap.size < wr.heap.size:=(Array.getElem?_eq_some_iff.1 hg).1
  have q0:=cell_of_row wr _ 0 _ _ _ hg
  simp only [List.getElem?_toArray,List.getElem?_cons_zero] at q0
  clear hv hh ho hr hg hb p0
  by_cases hlt:k < n
  · have hltI:(k:Int) < (n:Int):=by omega
    obtain ⟨g,hga,hgB,hgs⟩:=own_addr HVr.out (by omega)
    subst hga
    obtain ⟨b,hbk⟩:∃ b,bs[k]?=some b:=⟨_,List.getElem?_eq_getElem (by rw [HLN.out];exact hlt)⟩
    obtain ⟨d,hdk⟩:∃ d,ds[k]?=some d:=⟨_,List.getElem?_eq_getElem (by rw [HH.out.1,HLN.out];exact hlt)⟩
    obtain rfl:d=b:=(HH.out.2 k b d hbk hdk).2.2.2.1 (Nat.le_refl _)
    have r1:=own_at Bc_len HVr.out hdk 1 (.int .i64 d.v.x.k) rfl
    have r2:=own_at Bc_len HVr.out hdk 2 (.int .i64 d.v.x.n) rfl
    have r3:=own_at Bc_len HVr.out hdk 3 (.string d.v.x.t) rfl
    have r4:=own_at Bc_len HVr.out hdk 4 (.slice d.v.a d.v.l d.v.c) rfl
    have HBK:=Lib.hid hbk
    have HDK:=Lib.hid hdk
    have hrz:=(HBS.out d (List.mem_of_getElem? hbk)).1.below HBr.out
    have HRZ:=Lib.hid (hrz.below (Below.refl _ _).drew)
    have hl6:=(HBS.out d (List.mem_of_getElem? hbk)).2.2
    clear hbk hdk hrz
    go_wp2_with fail
    refine wp_region_held_drew (S:=(fun w'=>w'.cell? ⟨w3.heap.size,0,none⟩=some (.slice (some ⟨g,0,none⟩) n vc'))) (by kernel_rfl) q0 (fun hHeld=>?_)
    refine tkI (i:=0) (v:=?_) rfl ?_ ?_
    rotate_left
    · intro w hSw;(try dsimp only at hSw);go_simp;try with_reducible rfl
    (try simp only [Act.put,pa,pb,pc,pd,pe,pf])
    refine tkI (i:=1) (v:=?_) rfl ?_ ?_
    rotate_left
    · intro w hSw;(try dsimp only at hSw);go_simp;try with_reducible rfl
    (try simp only [Act.put,pa,pb,pc,pd,pe,pf])
    refine tkI (i:=2) (v:=?_) rfl ?_ ?_
    rotate_left
    · intro w hSw;(try dsimp only at hSw);go_simp;try with_reducible rfl
    (try simp only [Act.put,pa,pb,pc,pd,pe,pf])
    refine tkI (i:=3) (v:=?_) rfl ?_ ?_
    rotate_left
    · intro w hSw;(try dsimp only at hSw);go_simp;try with_reducible rfl
    (try simp only [Act.put,pa,pb,pc,pd,pe,pf])
    refine tkI (i:=4) (v:=?_) rfl ?_ ?_
    rotate_left
    · intro w hSw;(try dsimp only at hSw);go_simp;try with_reducible rfl
    (try simp only [Act.put,pa,pb,pc,pd,pe,pf])
    refine tkI (i:=5) (v:=?_) rfl ?_ ?_
    rotate_left
    · intro w hSw;(try dsimp only at hSw);go_simp;try with_reducible rfl
    (try simp only [Act.put,pa,pb,pc,pd,pe,pf])
    refine tkI (i:=6) (v:=?_) rfl ?_ ?_
    rotate_left
    · intro w hSw;(try dsimp only at hSw);go_simp;try with_reducible rfl
    (try simp only [Act.put,pa,pb,pc,pd,pe,pf])
    refine tkI (i:=7) (v:=?_) rfl ?_ ?_
    rotate_left
    · intro w hSw;(try dsimp only at hSw);go_simp;try with_reducible rfl
    (try simp only [Act.put,pa,pb,pc,pd,pe,pf])
    refine wpAnyH_ready (rs:=[8]) (by kernel_rfl) (by simp) ?_
    refine AllReadyH.cons (o:=_) rfl (fun K hK=>?_) AllReadyH.nil
    go_simp
    refine hK.out _ _ hHeld (fun hA=>?_)
    clear hK K
    (try simp only [Act.put,pa,pb,pc,pd,pe,pf])
    refine wpAnyH_ready (rs:=[9]) (by kernel_rfl) (by simp) ?_
    refine AllReadyH.cons (o:=_) rfl (fun K hK=>?_) AllReadyH.nil
    go_simp
    refine (own_any wr.drew d.v.x d.v.a d.v.l d.v.c HRZ.out.rs (by omega)).mono ?_
    rintro e w6 ⟨v,rfl,hs6,hb6'⟩
    replace hs6:=hs6.sv
    obtain ⟨a6,l6,c6,rfl,hl6',-⟩:=id hs6
    obtain rfl:l6=d.v.l:=by rw [hl6',← HRZ.out.rs.1]
    have hb6:Below wr.heap.size wr w6:=(Below.refl _ _).drew.trans hb6'
    have z6:wr.heap.size≤w6.heap.size:=hb6.size
    have HS6:=Lib.hid (hs6.mono (by show w.heap.size≤wr.heap.size;exact zr):SV w6 w.heap.size (VA d.v.x a6 d.v.l c6) d.v.x)
    have HB6:=Lib.hid (HBr.out.trans (hb6.mono zr))
    have HV6:=Lib.hid (own_below HVr.out hb6)
    have HO6:=Lib.hid (own_below HOr.out hb6)
    have HR6:=Lib.hid (own_below HRr.out hb6)
    have HH6:=Lib.hid (HH.out.to (fun v x h=>SV.below h hb6))
    have HG6:=Lib.hid ((hb6.block _ zgr).trans HGr.out)
    have hgne:w3.heap.size ≠ g:=fun e=>own_ne HVr.out HGr.out (by decide) (by rw [e];rfl)
    have r1:=own_at Bc_len HV6.out HDK.out 1 (.int .i64 d.v.x.k) rfl
    have r2:=own_at Bc_len HV6.out HDK.out 2 (.int .i64 d.v.x.n) rfl
    have r3:=own_at Bc_len HV6.out HDK.out 3 (.string d.v.x.t) rfl
    have r4:=own_at Bc_len HV6.out HDK.out 4 (.slice d.v.a d.v.l d.v.c) rfl
    have e1:=HV6.out.frozenAt (k * 5+1)
    have e2:=HV6.out.frozenAt (k * 5+2)
    have e3:=HV6.out.frozenAt (k * 5+3)
    have e4:=HV6.out.frozenAt (k * 5+4)
    have hX6:=plr_step (w6:=w6) (k:=k) HV6.out HH6.out HO6.out HR6.out HG6.out HB6.out HS6.out HBK.out HDK.out hgB hgne
    have HX6:=Lib.hid hX6
    have HQ6:=Lib.hid (keepb hb6 q0)
    clear hX6 hb6 hs6 hl6' hb6'
    refine hK.out _ _ HQ6.out (fun hB=>?_)
    clear hK K
    (try simp only [Act.put,pa,pb,pc,pd,pe,pf])
    refine tkI (i:=10) (v:=?_) rfl ?_ ?_
    rotate_left
    · intro w hSw;(try dsimp only at hSw);go_simp;try with_reducible rfl
    (try simp only [Act.put,pa,pb,pc,pd,pe,pf])
    refine tkI (i:=11) (v:=?_) rfl ?_ ?_
    rotate_left
    · intro w hSw;(try dsimp only at hSw);go_simp;try with_reducible rfl
    (try simp only [Act.put,pa,pb,pc,pd,pe,pf])
    refine wpAnyH_ready (rs:=[12]) (by kernel_rfl) (by simp) ?_
    refine AllReadyH.cons (o:=_) rfl (fun K hK=>?_) AllReadyH.nil
    go_simp
    refine hK.out _ _ (keepo hB hgne) (fun hC=>?_)
    clear hK K
    (try simp only [Act.put,pa,pb,pc,pd,pe,pf])
    refine wpAnyH_done (by kernel_rfl) ?_ _
    go_wp2_with fail
    go_roundw
    case rel=>exact ⟨k+1,by omega,by go_num,HX6.out⟩
    case measure=>simp [intOf];omega
  · have hltI:¬ (k:Int) < (n:Int):=by omega
    obtain rfl:k=n:=by omega
    have q1:=cell_of_row wr _ 1 _ _ _ HGr.out
    have q2:=cell_of_row wr _ 2 _ _ _ HGr.out
    have q3:=cell_of_row wr _ 3 _ _ _ HGr.out
    have q4:=cell_of_row wr _ 4 _ _ _ HGr.out
    simp only [List.getElem?_toArray,List.getElem?_cons_zero,List.getElem?_cons_succ] at q1 q2 q3 q4
    go_wp2_with fail
    go_ret
    refine ⟨⟨⟨va',k,vc',ds,oa',ol,oc',os,ra',rl,rc',rs,clock,steps⟩,rfl,⟨HVr.out,HOr.out,HRr.out,fun d hd=>?_,hn,hol,hrl⟩,?_⟩,HBr.out⟩
    · obtain ⟨i,hi⟩:=List.getElem?_of_mem hd
      obtain ⟨b,hb⟩:∃ b,bs[i]?=some b:=⟨_,List.getElem?_eq_getElem (by rw [← HH.out.1];exact (List.getElem?_eq_some_iff.1 hi).1)⟩
      obtain ⟨h1,h2,h3,h4,h5⟩:=HH.out.2 i b d hb hi
      have h6:=HBS.out b (List.mem_of_getElem? hb)
      exact ⟨h5 (by have:=(List.getElem?_eq_some_iff.1 hb).1;have:=HLN.out;omega),by rw [h2];exact h6.2.1,by rw [h3];exact h6.2.2⟩
    · show Vw.mk (ds.map fun b=>(b.nm,b.v.x)) os rs clock steps=_
      rw [HH.out.vals]
end Go.Proofs.YtcnckjlmldnblaaGreatDoor
