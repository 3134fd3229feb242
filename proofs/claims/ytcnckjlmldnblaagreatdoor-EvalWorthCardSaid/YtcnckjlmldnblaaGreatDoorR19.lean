import Derived.Test.YtcnckjlmldnblaaGreatDoorR18
import Derived.Test.YtcnckjlmldnblaaGreatDoorE54
import Derived.Test.YtcnckjlmldnblaaGreatDoorT1
import Derived.BigGuardPart
import Derived.IntWalk
import Derived.Handy
import Derived.OrdersHeld
import Derived.Deep.RegionHeld3
import Derived.WalkLawsBesides
namespace Go.Proofs.YtcnckjlmldnblaaGreatDoor
open Go Go.RowKit
set_option maxRecDepth 100000
set_option maxHeartbeats 4000000
set_option linter.unusedVariables false
set_option linter.unusedSimpArgs false
theorem evalworth_walk (w:World) (na:Option Addr) (nl nc:Nat) (ns:List Nd) (hr:RS 7 Nd.cs w na nl nc ns) (hns:∀ nd ∈ ns,nd.okA w) (root:Int) (hroot:I64 root) (p q:Pd) (hp:VwArg w p) (hq:VwArg w q) (t0:ResTab w 0) (t1:ResTab w 1) (h1:1 < w.heap.size) :
 Calls Tryz.prog 3 #[.slice na nl nc,.int .i64 root,.agg p.cs,.agg q.cs] w fun e w'=>e=.returned (.bool true)∧Below w.heap.size w w':=by
 obtain ⟨w2,hw2⟩:∃ w2,w2=(w.alloc (boxW35 p)).alloc (boxW35 q):=⟨_,rfl⟩
 have g0:w2.heap[w.heap.size]?=some (boxW35 p):=by rw [hw2];exact heap_alloc2_old w _ _
 have g1:w2.heap[w.heap.size+1]?=some (boxW35 q):=by rw [hw2];exact heap_alloc2_new w _ _
 have hb2:Below w.heap.size w w2:=by rw [hw2];exact bel2 _ _ _
 have z2:w.heap.size+1 < w2.heap.size:=by rw [hw2];simp
 have HR:=Lib.hid hr
 have HNS:=Lib.hid hns
 have HP:=Lib.hid hp
 have HQ:=Lib.hid hq
 have HRO:=Lib.hid hroot
 have HT0:=Lib.hid (fun (W:World) (hb:Below w.heap.size w W)=>(t0.below hb (by omega) (by omega):ResTab W 0))
 have HT1:=Lib.hid (fun (W:World) (hb:Below w.heap.size w W)=>(t1.below hb h1 h1:ResTab W 1))
 have G0:=Lib.hid g0
 have G1:=Lib.hid g1
 have HB2:=Lib.hid hb2
 have H22:=Lib.hid (Below.refl w2.heap.size w2)
 clear hr hns hp hq hroot t0 t1 g0 g1 hb2
 have HBw2:=HB2
 have HDw2:=H22
 have gg:=(HDw2.out.block (w.heap.size) (by omega)).trans G0.out
 have c0:=cell_of_row _ _ 0 _ _ _ gg
 have c1:=cell_of_row _ _ 1 _ _ _ gg
 have c2:=cell_of_row _ _ 2 _ _ _ gg
 have c3:=cell_of_row _ _ 3 _ _ _ gg
 have c4:=cell_of_row _ _ 4 _ _ _ gg
 simp only [List.getElem?_toArray,List.getElem?_cons_zero,List.getElem?_cons_succ] at c0 c1 c2 c3 c4
 clear gg
 have gg:=(HDw2.out.block (w.heap.size+1) (by omega)).trans G1.out
 have d0:=cell_of_row _ _ 0 _ _ _ gg
 have d1:=cell_of_row _ _ 1 _ _ _ gg
 have d2:=cell_of_row _ _ 2 _ _ _ gg
 have d3:=cell_of_row _ _ 3 _ _ _ gg
 have d4:=cell_of_row _ _ 4 _ _ _ gg
 simp only [List.getElem?_toArray,List.getElem?_cons_zero,List.getElem?_cons_succ] at d0 d1 d2 d3 d4
 clear gg
 go_enter Tryz.func3,Tryz.ntmps3
 go_upto_region 1 with (fail)
 rw [← hw2]
 clear hw2
 go_wp2_with fail
 refine (great_any w2 na nl nc ns (HR.out.below HBw2.out) (fun nd h=>⟨by have:=(HNS.out nd h).1.ok.1.2.1;have:=(HNS.out nd h).1.ok.1.2.2.1;omega,by have:=(HNS.out nd h).2;omega⟩) p (HP.out.below HBw2.out)).mono ?_
 rintro e w3 ⟨hg,hbk⟩
 have HBw3:=Lib.hid (HBw2.out.trans (hbk.mono HBw2.out.size))
 have HDw3:=Lib.hid (HDw2.out.trans (hbk.mono HDw2.out.size))
 clear hbk c0 d0 c1 d1 c2 d2 c3 d3 c4 d4
 obtain ⟨b1,rfl,hs1⟩:=hg.cases
 cases b1
 rotate_left
 · have gg:=(HDw3.out.block (w.heap.size) (by omega)).trans G0.out
   have c0:=cell_of_row _ _ 0 _ _ _ gg
   have c1:=cell_of_row _ _ 1 _ _ _ gg
   have c2:=cell_of_row _ _ 2 _ _ _ gg
   have c3:=cell_of_row _ _ 3 _ _ _ gg
   have c4:=cell_of_row _ _ 4 _ _ _ gg
   simp only [List.getElem?_toArray,List.getElem?_cons_zero,List.getElem?_cons_succ] at c0 c1 c2 c3 c4
   clear gg
   have gg:=(HDw3.out.block (w.heap.size+1) (by omega)).trans G1.out
   have d0:=cell_of_row _ _ 0 _ _ _ gg
   have d1:=cell_of_row _ _ 1 _ _ _ gg
   have d2:=cell_of_row _ _ 2 _ _ _ gg
   have d3:=cell_of_row _ _ 3 _ _ _ gg
   have d4:=cell_of_row _ _ 4 _ _ _ gg
   simp only [List.getElem?_toArray,List.getElem?_cons_zero,List.getElem?_cons_succ] at d0 d1 d2 d3 d4
   clear gg
   go_wp2_with fail
   refine (known_any w3 (HT1.out w3 HBw3.out) (by have:=HBw3.out.size;omega)).mono ?_
   rintro e w4 ⟨rfl,hbk⟩
   have HBw4:=Lib.hid (HBw3.out.trans (hbk.mono HBw3.out.size))
   have HDw4:=Lib.hid (HDw3.out.trans (hbk.mono HDw3.out.size))
   clear hbk c0 d0 c1 d1 c2 d2 c3 d3 c4 d4
   have gg:=(HDw4.out.block (w.heap.size) (by omega)).trans G0.out
   have c0:=cell_of_row _ _ 0 _ _ _ gg
   have c1:=cell_of_row _ _ 1 _ _ _ gg
   have c2:=cell_of_row _ _ 2 _ _ _ gg
   have c3:=cell_of_row _ _ 3 _ _ _ gg
   have c4:=cell_of_row _ _ 4 _ _ _ gg
   simp only [List.getElem?_toArray,List.getElem?_cons_zero,List.getElem?_cons_succ] at c0 c1 c2 c3 c4
   clear gg
   have gg:=(HDw4.out.block (w.heap.size+1) (by omega)).trans G1.out
   have d0:=cell_of_row _ _ 0 _ _ _ gg
   have d1:=cell_of_row _ _ 1 _ _ _ gg
   have d2:=cell_of_row _ _ 2 _ _ _ gg
   have d3:=cell_of_row _ _ 3 _ _ _ gg
   have d4:=cell_of_row _ _ 4 _ _ _ gg
   simp only [List.getElem?_toArray,List.getElem?_cons_zero,List.getElem?_cons_succ] at d0 d1 d2 d3 d4
   clear gg
   go_wp2_with fail
   go_ret
   exact ⟨rfl,HBw4.out⟩
 have HS1:=Lib.hid (hs1 rfl)
 clear hs1 hg
 have gg:=(HDw3.out.block (w.heap.size) (by omega)).trans G0.out
 have c0:=cell_of_row _ _ 0 _ _ _ gg
 have c1:=cell_of_row _ _ 1 _ _ _ gg
 have c2:=cell_of_row _ _ 2 _ _ _ gg
 have c3:=cell_of_row _ _ 3 _ _ _ gg
 have c4:=cell_of_row _ _ 4 _ _ _ gg
 simp only [List.getElem?_toArray,List.getElem?_cons_zero,List.getElem?_cons_succ] at c0 c1 c2 c3 c4
 clear gg
 have gg:=(HDw3.out.block (w.heap.size+1) (by omega)).trans G1.out
 have d0:=cell_of_row _ _ 0 _ _ _ gg
 have d1:=cell_of_row _ _ 1 _ _ _ gg
 have d2:=cell_of_row _ _ 2 _ _ _ gg
 have d3:=cell_of_row _ _ 3 _ _ _ gg
 have d4:=cell_of_row _ _ 4 _ _ _ gg
 simp only [List.getElem?_toArray,List.getElem?_cons_zero,List.getElem?_cons_succ] at d0 d1 d2 d3 d4
 clear gg
 go_wp2_with fail
 refine (great_any w3 na nl nc ns (HR.out.below HBw3.out) (fun nd h=>⟨by have:=(HNS.out nd h).1.ok.1.2.1;have:=(HNS.out nd h).1.ok.1.2.2.1;omega,by have:=(HNS.out nd h).2;omega⟩) q (HQ.out.below HBw3.out)).mono ?_
 rintro e w4 ⟨hg,hbk⟩
 have HBw4:=Lib.hid (HBw3.out.trans (hbk.mono HBw3.out.size))
 have HDw4:=Lib.hid (HDw3.out.trans (hbk.mono HDw3.out.size))
 clear hbk c0 d0 c1 d1 c2 d2 c3 d3 c4 d4
 obtain ⟨b2,rfl,hs2⟩:=hg.cases
 cases b2
 rotate_left
 · have gg:=(HDw4.out.block (w.heap.size) (by omega)).trans G0.out
   have c0:=cell_of_row _ _ 0 _ _ _ gg
   have c1:=cell_of_row _ _ 1 _ _ _ gg
   have c2:=cell_of_row _ _ 2 _ _ _ gg
   have c3:=cell_of_row _ _ 3 _ _ _ gg
   have c4:=cell_of_row _ _ 4 _ _ _ gg
   simp only [List.getElem?_toArray,List.getElem?_cons_zero,List.getElem?_cons_succ] at c0 c1 c2 c3 c4
   clear gg
   have gg:=(HDw4.out.block (w.heap.size+1) (by omega)).trans G1.out
   have d0:=cell_of_row _ _ 0 _ _ _ gg
   have d1:=cell_of_row _ _ 1 _ _ _ gg
   have d2:=cell_of_row _ _ 2 _ _ _ gg
   have d3:=cell_of_row _ _ 3 _ _ _ gg
   have d4:=cell_of_row _ _ 4 _ _ _ gg
   simp only [List.getElem?_toArray,List.getElem?_cons_zero,List.getElem?_cons_succ] at d0 d1 d2 d3 d4
   clear gg
   go_wp2_with fail
   refine (known_any w4 (HT1.out w4 HBw4.out) (by have:=HBw4.out.size;omega)).mono ?_
   rintro e w5 ⟨rfl,hbk⟩
   have HBw5:=Lib.hid (HBw4.out.trans (hbk.mono HBw4.out.size))
   have HDw5:=Lib.hid (HDw4.out.trans (hbk.mono HDw4.out.size))
   clear hbk c0 d0 c1 d1 c2 d2 c3 d3 c4 d4
   have gg:=(HDw5.out.block (w.heap.size) (by omega)).trans G0.out
   have c0:=cell_of_row _ _ 0 _ _ _ gg
   have c1:=cell_of_row _ _ 1 _ _ _ gg
   have c2:=cell_of_row _ _ 2 _ _ _ gg
   have c3:=cell_of_row _ _ 3 _ _ _ gg
   have c4:=cell_of_row _ _ 4 _ _ _ gg
   simp only [List.getElem?_toArray,List.getElem?_cons_zero,List.getElem?_cons_succ] at c0 c1 c2 c3 c4
   clear gg
   have gg:=(HDw5.out.block (w.heap.size+1) (by omega)).trans G1.out
   have d0:=cell_of_row _ _ 0 _ _ _ gg
   have d1:=cell_of_row _ _ 1 _ _ _ gg
   have d2:=cell_of_row _ _ 2 _ _ _ gg
   have d3:=cell_of_row _ _ 3 _ _ _ gg
   have d4:=cell_of_row _ _ 4 _ _ _ gg
   simp only [List.getElem?_toArray,List.getElem?_cons_zero,List.getElem?_cons_succ] at d0 d1 d2 d3 d4
   clear gg
   go_wp2_with fail
   go_ret
   exact ⟨rfl,HBw5.out⟩
 have HS2:=Lib.hid (hs2 rfl)
 clear hs2 hg
 have gg:=(HDw4.out.block (w.heap.size) (by omega)).trans G0.out
 have c0:=cell_of_row _ _ 0 _ _ _ gg
 have c1:=cell_of_row _ _ 1 _ _ _ gg
 have c2:=cell_of_row _ _ 2 _ _ _ gg
 have c3:=cell_of_row _ _ 3 _ _ _ gg
 have c4:=cell_of_row _ _ 4 _ _ _ gg
 simp only [List.getElem?_toArray,List.getElem?_cons_zero,List.getElem?_cons_succ] at c0 c1 c2 c3 c4
 clear gg
 have gg:=(HDw4.out.block (w.heap.size+1) (by omega)).trans G1.out
 have d0:=cell_of_row _ _ 0 _ _ _ gg
 have d1:=cell_of_row _ _ 1 _ _ _ gg
 have d2:=cell_of_row _ _ 2 _ _ _ gg
 have d3:=cell_of_row _ _ 3 _ _ _ gg
 have d4:=cell_of_row _ _ 4 _ _ _ gg
 simp only [List.getElem?_toArray,List.getElem?_cons_zero,List.getElem?_cons_succ] at d0 d1 d2 d3 d4
 clear gg
 go_wp2_with fail
 refine (known_any w4 (HT1.out w4 HBw4.out) (by have:=HBw4.out.size;omega)).mono ?_
 rintro e w5 ⟨rfl,hbk⟩
 have HBw5:=Lib.hid (HBw4.out.trans (hbk.mono HBw4.out.size))
 have HDw5:=Lib.hid (HDw4.out.trans (hbk.mono HDw4.out.size))
 clear hbk c0 d0 c1 d1 c2 d2 c3 d3 c4 d4
 have gg:=(HDw5.out.block (w.heap.size) (by omega)).trans G0.out
 have c0:=cell_of_row _ _ 0 _ _ _ gg
 have c1:=cell_of_row _ _ 1 _ _ _ gg
 have c2:=cell_of_row _ _ 2 _ _ _ gg
 have c3:=cell_of_row _ _ 3 _ _ _ gg
 have c4:=cell_of_row _ _ 4 _ _ _ gg
 simp only [List.getElem?_toArray,List.getElem?_cons_zero,List.getElem?_cons_succ] at c0 c1 c2 c3 c4
 clear gg
 have gg:=(HDw5.out.block (w.heap.size+1) (by omega)).trans G1.out
 have d0:=cell_of_row _ _ 0 _ _ _ gg
 have d1:=cell_of_row _ _ 1 _ _ _ gg
 have d2:=cell_of_row _ _ 2 _ _ _ gg
 have d3:=cell_of_row _ _ 3 _ _ _ gg
 have d4:=cell_of_row _ _ 4 _ _ _ gg
 simp only [List.getElem?_toArray,List.getElem?_cons_zero,List.getElem?_cons_succ] at d0 d1 d2 d3 d4
 clear gg
 go_wp2_with fail
 refine (toldR_any w5 na nl nc ns p (HR.out.below HBw5.out) (fun nd h=>(HNS.out nd h).1.below HBw5.out) (HP.out.below HBw5.out) HS1.out (HT0.out w5 HBw5.out) (HT1.out w5 HBw5.out) (by have:=HBw5.out.size;omega) root HRO.out).mono ?_
 rintro e w6 ⟨rfl,hbk⟩
 have HBw6:=Lib.hid (HBw5.out.trans (hbk.mono HBw5.out.size))
 have HDw6:=Lib.hid (HDw5.out.trans (hbk.mono HDw5.out.size))
 clear hbk c0 d0 c1 d1 c2 d2 c3 d3 c4 d4
 have gg:=(HDw6.out.block (w.heap.size) (by omega)).trans G0.out
 have c0:=cell_of_row _ _ 0 _ _ _ gg
 have c1:=cell_of_row _ _ 1 _ _ _ gg
 have c2:=cell_of_row _ _ 2 _ _ _ gg
 have c3:=cell_of_row _ _ 3 _ _ _ gg
 have c4:=cell_of_row _ _ 4 _ _ _ gg
 simp only [List.getElem?_toArray,List.getElem?_cons_zero,List.getElem?_cons_succ] at c0 c1 c2 c3 c4
 clear gg
 have gg:=(HDw6.out.block (w.heap.size+1) (by omega)).trans G1.out
 have d0:=cell_of_row _ _ 0 _ _ _ gg
 have d1:=cell_of_row _ _ 1 _ _ _ gg
 have d2:=cell_of_row _ _ 2 _ _ _ gg
 have d3:=cell_of_row _ _ 3 _ _ _ gg
 have d4:=cell_of_row _ _ 4 _ _ _ gg
 simp only [List.getElem?_toArray,List.getElem?_cons_zero,List.getElem?_cons_succ] at d0 d1 d2 d3 d4
 clear gg
 go_wp2_with fail
 refine (toldR_any w6 na nl nc ns q (HR.out.below HBw6.out) (fun nd h=>(HNS.out nd h).1.below HBw6.out) (HQ.out.below HBw6.out) HS2.out (HT0.out w6 HBw6.out) (HT1.out w6 HBw6.out) (by have:=HBw6.out.size;omega) root HRO.out).mono ?_
 rintro e w7 ⟨rfl,hbk⟩
 have HBw7:=Lib.hid (HBw6.out.trans (hbk.mono HBw6.out.size))
 have HDw7:=Lib.hid (HDw6.out.trans (hbk.mono HDw6.out.size))
 clear hbk c0 d0 c1 d1 c2 d2 c3 d3 c4 d4
 have gg:=(HDw7.out.block (w.heap.size) (by omega)).trans G0.out
 have c0:=cell_of_row _ _ 0 _ _ _ gg
 have c1:=cell_of_row _ _ 1 _ _ _ gg
 have c2:=cell_of_row _ _ 2 _ _ _ gg
 have c3:=cell_of_row _ _ 3 _ _ _ gg
 have c4:=cell_of_row _ _ 4 _ _ _ gg
 simp only [List.getElem?_toArray,List.getElem?_cons_zero,List.getElem?_cons_succ] at c0 c1 c2 c3 c4
 clear gg
 have gg:=(HDw7.out.block (w.heap.size+1) (by omega)).trans G1.out
 have d0:=cell_of_row _ _ 0 _ _ _ gg
 have d1:=cell_of_row _ _ 1 _ _ _ gg
 have d2:=cell_of_row _ _ 2 _ _ _ gg
 have d3:=cell_of_row _ _ 3 _ _ _ gg
 have d4:=cell_of_row _ _ 4 _ _ _ gg
 simp only [List.getElem?_toArray,List.getElem?_cons_zero,List.getElem?_cons_succ] at d0 d1 d2 d3 d4
 clear gg
 go_wp2_with fail
 refine (toldR_any w7 na nl nc ns p (HR.out.below HBw7.out) (fun nd h=>(HNS.out nd h).1.below HBw7.out) (HP.out.below HBw7.out) HS1.out (HT0.out w7 HBw7.out) (HT1.out w7 HBw7.out) (by have:=HBw7.out.size;omega) root HRO.out).mono ?_
 rintro e w8 ⟨rfl,hbk⟩
 have HBw8:=Lib.hid (HBw7.out.trans (hbk.mono HBw7.out.size))
 have HDw8:=Lib.hid (HDw7.out.trans (hbk.mono HDw7.out.size))
 clear hbk c0 d0 c1 d1 c2 d2 c3 d3 c4 d4
 have gg:=(HDw8.out.block (w.heap.size) (by omega)).trans G0.out
 have c0:=cell_of_row _ _ 0 _ _ _ gg
 have c1:=cell_of_row _ _ 1 _ _ _ gg
 have c2:=cell_of_row _ _ 2 _ _ _ gg
 have c3:=cell_of_row _ _ 3 _ _ _ gg
 have c4:=cell_of_row _ _ 4 _ _ _ gg
 simp only [List.getElem?_toArray,List.getElem?_cons_zero,List.getElem?_cons_succ] at c0 c1 c2 c3 c4
 clear gg
 have gg:=(HDw8.out.block (w.heap.size+1) (by omega)).trans G1.out
 have d0:=cell_of_row _ _ 0 _ _ _ gg
 have d1:=cell_of_row _ _ 1 _ _ _ gg
 have d2:=cell_of_row _ _ 2 _ _ _ gg
 have d3:=cell_of_row _ _ 3 _ _ _ gg
 have d4:=cell_of_row _ _ 4 _ _ _ gg
 simp only [List.getElem?_toArray,List.getElem?_cons_zero,List.getElem?_cons_succ] at d0 d1 d2 d3 d4
 clear gg
 go_wp2_with fail
 go_ret
 exact ⟨rfl,HBw8.out⟩
end Go.Proofs.YtcnckjlmldnblaaGreatDoor
