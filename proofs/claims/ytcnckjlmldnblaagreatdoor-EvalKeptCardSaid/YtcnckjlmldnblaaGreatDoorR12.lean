import Derived.Test.YtcnckjlmldnblaaGreatDoorR10
import Derived.BigGuardPart
import Derived.IntWalk
import Derived.Handy
import Derived.OrdersHeld
import Derived.Deep.RegionHeld3
import Derived.WalkLawsBesides
namespace Go.Proofs.YtcnckjlmldnblaaGreatDoor
open Go Go.RowKit
open List renaming setIfInBounds_toArray → pa, set_cons_zero → pb, set_cons_succ → pc, getElem_toArray → pd, getElem_cons_succ → pe, getElem_cons_zero → pf
set_option maxRecDepth 100000
set_option maxHeartbeats 4000000
set_option linter.unusedVariables false
set_option linter.unusedSimpArgs false
theorem r_and (w0:World) (na:Option Addr) (nl nc:Nat) (ns:List Nd) (p:Pd) (d:Nat) (IH:RefAt w0 na nl nc ns p d) (hE:EnvR w0 na nl nc ns p) (hv:VwOk p.vw) (w:World) (hbw:Below w0.heap.size w0 w) (q:Nat) (nd:Nd) (hq:q < nl) (hnd:ns[q]?=some nd) (hright:nd.right=true) (hk:∀ k ∈ nd.ks,goodN ns d k) (hop:nd.op=9) :
 Calls Tryz.prog 42 #[.slice na nl nc,.int .i64 (q:Int),.agg p.cs] w fun e w'=>TogOut w0 w e w' (nodeW (wK ns p.vw d) nd p.vw)∧Below w.heap.size w w':=by
 obtain ⟨w2,hw2⟩:∃ w2,w2=(w.alloc (boxR p)).alloc boxZ:=⟨_,rfl⟩
 have g0:w2.heap[w.heap.size]?=some (boxR p):=by rw [hw2];exact heap_alloc2_old w _ _
 have g1:w2.heap[w.heap.size+1]?=some boxZ:=by rw [hw2];exact heap_alloc2_new w _ _
 have hb2:Below w.heap.size w w2:=by rw [hw2];exact bel2 _ _ _
 have z2:w2.heap.size=w.heap.size+2:=by rw [hw2];simp
 have hz0:=hbw.size
 have HNW:=Lib.hid (hE.n nd (List.mem_of_getElem? hnd))
 obtain ⟨nb,no,nd',rfl,hnd',hcl0⟩:=hE.r.at hq
 obtain rfl:nd'=nd:=by rw [hnd] at hnd';exact (Option.some.inj hnd').symm
 have hbw2:Below w0.heap.size w0 w2:=hbw.trans (hb2.mono hz0)
 have hcl:=fun j v hv=>(hbw2.cell (p:=⟨nb,no+q * 7+j,none⟩) (block_lt_of_cell (hcl0 j v hv))).trans (hcl0 j v hv)
 have n0:=hcl 0 _ rfl
 have n1:=hcl 1 _ rfl
 have n2:=hcl 2 _ rfl
 have n3:=hcl 3 _ rfl
 have n4:=hcl 4 _ rfl
 have n5:=hcl 5 _ rfl
 have n6:=hcl 6 _ rfl
 simp only [Nat.add_zero] at n0
 rw [hop] at n0
 have hqI:(q:Int) < (nl:Int):=by omega
 have hnl:=hE.r.2.1
 have hnc:=hE.r.2.2.1
 have HK:=Lib.hid hk
 have HE:=Lib.hid hE
 have HIH:=Lib.hid IH
 have HV:=Lib.hid hv
 have HR:=Lib.hid hright
 have G0:=Lib.hid g0
 have G1:=Lib.hid g1
 have HB2:=Lib.hid hb2
 have HOP:=Lib.hid hop
 have HND:=Lib.hid hnd
 have HBW:=Lib.hid hbw
 clear hk hE IH hv hright g0 g1 hb2 hnd hnd' hcl hcl0 hop hbw hbw2
 go_enter Tryz.func42,Tryz.ntmps42
 go_upto_region 1 with (fail)
 rw [← hw2]
 clear hw2
 go_upto_region 2 with (fail)
 obtain ⟨w3,hw3⟩:∃ w3,w3=w2.alloc (.cells (nodeV 9 nd'.nm nd'.vk nd'.vn nd'.vt nd'.sa nd'.sl nd'.sc nd'.ka nd'.kl nd'.kc) 56):=⟨_,rfl⟩
 have g3:w3.heap[w.heap.size+2]?=some (.cells (nodeV 9 nd'.nm nd'.vk nd'.vn nd'.vt nd'.sa nd'.sl nd'.sc nd'.ka nd'.kl nd'.kc) 56 (0,0)):=by rw [hw3,← z2];exact heap_alloc_new w2 _
 have hb3:Below w2.heap.size w2 w3:=by rw [hw3];exact bel1 _ _
 have z3:w3.heap.size=w.heap.size+3:=by rw [hw3];simp [z2]
 have h1':=(hb3.block _ (by omega)).trans G1.out
 have h0':=(hb3.block _ (by omega)).trans G0.out
 obtain ⟨wx,hwx⟩:∃ wx,wx=w2.heap.size:=⟨_,rfl⟩
 rw [← hw3]
 obtain ⟨c0,c1,c2,c3,f0,f1,f2,f3⟩:=box4 h1'
 have H1:=Lib.hid h1'
 have H0:=Lib.hid h0'
 have G3:=Lib.hid g3
 have HB3:=Lib.hid (HB2.out.trans (hb3.mono (by omega)))
 have HW3:=Lib.hid (HBW.out.trans (HB3.out.mono hz0))
 have v0':=cell_of_row _ _ 0 _ _ _ h0'
 have v1':=cell_of_row _ _ 1 _ _ _ h0'
 have v2':=cell_of_row _ _ 2 _ _ _ h0'
 have v3':=cell_of_row _ _ 3 _ _ _ h0'
 have v4':=cell_of_row _ _ 4 _ _ _ h0'
 have m0:=cell_of_row _ _ 0 _ _ _ g3
 have m1:=cell_of_row _ _ 1 _ _ _ g3
 have m2:=cell_of_row _ _ 2 _ _ _ g3
 have m3:=cell_of_row _ _ 3 _ _ _ g3
 have m4:=cell_of_row _ _ 4 _ _ _ g3
 have m5:=cell_of_row _ _ 5 _ _ _ g3
 have m6:=cell_of_row _ _ 6 _ _ _ g3
 simp only [nodeV,List.getElem?_toArray,List.getElem?_cons_zero,List.getElem?_cons_succ] at v0' v1' v2' v3' v4' m0 m1 m2 m3 m4 m5 m6
 have Z0:w.heap.size < w3.heap.size:=by omega
 have Z1:w.heap.size+1 < w3.heap.size:=by omega
 have Z3:w.heap.size+2 < w3.heap.size:=by omega
 clear h1' h0' g3 hb3 hw3 n0 n1 n2 n3 n4 n5 n6 z2 z3 hwx
 have hkl:nd'.kl=2:=by
  have h:=(right_cases HR.out).1
  rw [HOP.out] at h
  simp [kidsN] at h
  omega
 have hkr:=HNW.out.ok.1
 obtain ⟨kb,ko,x0,hka,hx0,-⟩:=hkr.at (show 0 < nd'.kl by omega)
 obtain ⟨kb1,ko1,x1,-,hx1,-⟩:=hkr.at (show 1 < nd'.kl by omega)
 have HKR:=hkr.below HW3.out
 rw [hka] at HKR m6
 rw [hkl] at m6
 have kd0:w3.cell? ⟨kb,ko,none⟩=some (.int .i64 x0):=by have:=RS.atR HKR hx0 0 _ rfl;simpa using this
 have HG0:=Lib.hid (HK.out x0 (List.mem_of_getElem? hx0))
 have kd1:w3.cell? ⟨kb,ko+1,none⟩=some (.int .i64 x1):=by have:=RS.atR HKR hx1 0 _ rfl;simpa using this
 have HG1:=Lib.hid (HK.out x1 (List.mem_of_getElem? hx1))
 clear hkl hkr hka HKR m1 m2 m3 m4 m5
 have HS:=Lib.hid (node_and (f:=wK ns p.vw d) (v:=p.vw) HOP.out hx0 hx1)
 clear hx0 hx1 c0 c1 c2 c3 f0 f1 f2 f3
 go_wp2_with fail
 refine wp_region_held_drew (S:=(fun w'=>Below w3.heap.size w3 w'∧w'.cell? ⟨w.heap.size+2,0,none⟩=some (.int .i64 9)∧w'.cell? ⟨w.heap.size+2,6,none⟩=some (.slice (some ⟨kb,ko,none⟩) 2 nd'.kc)∧w'.cell? ⟨kb,ko,none⟩=some (.int .i64 x0)∧w'.cell? ⟨kb,ko+1,none⟩=some (.int .i64 x1)∧w'.cell? ⟨w.heap.size,0,none⟩=some (.slice p.va p.vl p.vc)∧w'.cell? ⟨w.heap.size,1,none⟩=some (.slice p.oa p.ol p.oc)∧w'.cell? ⟨w.heap.size,2,none⟩=some (.slice p.ra p.rl p.rc)∧w'.cell? ⟨w.heap.size,3,none⟩=some (.int .i64 p.clock)∧w'.cell? ⟨w.heap.size,4,none⟩=some (.int .i64 p.steps))) (by kernel_rfl) ⟨(Below.refl _ _).drew,m0,m6,kd0,kd1,v0',v1',v2',v3',v4'⟩ (fun hHeld=>?_)
 clear m0 m6 kd0 kd1 v0' v1' v2' v3' v4'
 obtain ⟨wd,hwd⟩:∃ wd,wd=w3.drew:=⟨_,rfl⟩
 rw [← hwd] at hHeld ⊢
 clear hwd
 refine tkI (i:=0) (v:=?_) rfl ?_ ?_
 rotate_left
 · intro w hSw;(try dsimp only at hSw);go_simp;try with_reducible rfl
 (try simp only [Act.put,pa,pb,pc,pd,pe,pf])
 refine tkI (i:=1) (v:=?_) rfl ?_ ?_
 rotate_left
 · intro w hSw;(try dsimp only at hSw);go_simp;try with_reducible rfl
 (try simp only [Act.put,pa,pb,pc,pd,pe,pf])
 refine tkI (i:=2) (v:=?_) rfl ?_ ?_
 rotate_left
 · intro w hSw;(try dsimp only at hSw);go_simp;try with_reducible rfl
 (try simp only [Act.put,pa,pb,pc,pd,pe,pf])
 refine tkI (i:=3) (v:=?_) rfl ?_ ?_
 rotate_left
 · intro w hSw;(try dsimp only at hSw);go_simp;try with_reducible rfl
 (try simp only [Act.put,pa,pb,pc,pd,pe,pf])
 refine tkI (i:=4) (v:=?_) rfl ?_ ?_
 rotate_left
 · intro w hSw;(try dsimp only at hSw);go_simp;try with_reducible rfl
 (try simp only [Act.put,pa,pb,pc,pd,pe,pf])
 refine tkI (i:=5) (v:=?_) rfl ?_ ?_
 rotate_left
 · intro w hSw;(try dsimp only at hSw);go_simp;try with_reducible rfl
 (try simp only [Act.put,pa,pb,pc,pd,pe,pf])
 refine wpAnyH_ready (rs:=[6]) (by kernel_rfl) (by simp) ?_
 refine AllReadyH.cons (o:=_) rfl (fun K hK=>?_) AllReadyH.nil
 go_simp
 refine (certain_any w0 _ nl nc ns p d HIH.out wd x0 (HW3.out.trans (hHeld.1.mono HW3.out.size)) HG0.out).mono ?_
 rintro e y1 ⟨⟨b,er,rfl,hr⟩,hb⟩
 have HRR:=Lib.hid hr
 clear hr
 refine hK.out _ _ ⟨hHeld.1.trans (hb.mono hHeld.1.size),keepb hb hHeld.2.1,keepb hb hHeld.2.2.1,keepb hb hHeld.2.2.2.1,keepb hb hHeld.2.2.2.2.1,keepb hb hHeld.2.2.2.2.2.1,keepb hb hHeld.2.2.2.2.2.2.1,keepb hb hHeld.2.2.2.2.2.2.2.1,keepb hb hHeld.2.2.2.2.2.2.2.2.1,keepb hb hHeld.2.2.2.2.2.2.2.2.2⟩ (fun hHeld=>?_)
 clear hK K hb
 (try simp only [Act.put,pa,pb,pc,pd,pe,pf])
 refine tkI (i:=7) (v:=?_) rfl ?_ ?_
 rotate_left
 · intro w hSw;(try dsimp only at hSw);go_simp;try with_reducible rfl
 (try simp only [Act.put,pa,pb,pc,pd,pe,pf])
 refine tkI (i:=8) (v:=?_) rfl ?_ ?_
 rotate_left
 · intro w hSw;(try dsimp only at hSw);go_simp;try with_reducible rfl
 (try simp only [Act.put,pa,pb,pc,pd,pe,pf])
 refine tkI (i:=9) (v:=?_) rfl ?_ ?_
 rotate_left
 · intro w hSw;(try dsimp only at hSw);go_simp;try with_reducible rfl
 (try simp only [Act.put,pa,pb,pc,pd,pe,pf])
 refine tkI (i:=10) (v:=?_) rfl ?_ ?_
 rotate_left
 · intro w hSw;(try dsimp only at hSw);go_simp;try with_reducible rfl
 (try simp only [Act.put,pa,pb,pc,pd,pe,pf])
 refine tkI (i:=11) (v:=?_) rfl ?_ ?_
 rotate_left
 · intro w hSw;(try dsimp only at hSw);go_simp;try with_reducible rfl
 (try simp only [Act.put,pa,pb,pc,pd,pe,pf])
 refine wpAnyH_done (by kernel_rfl) ?_ _
 go_upto_region 21 with (fail)
 obtain ⟨w4,hw4⟩:∃ w4,w4=y1:=⟨_,rfl⟩
 rw [← hw4] at hHeld ⊢
 clear hw4
 have hb4:=hHeld.1
 have H14:=Lib.hid ((hb4.block _ Z1).trans H1.out)
 have HB4:=Lib.hid (HB3.out.trans (hb4.mono (by omega)))
 have HW4:=Lib.hid (HW3.out.trans (hb4.mono HW3.out.size))
 have Z14:w.heap.size+1 < w4.heap.size:=by have:=hb4.size;omega
 have m0:=hHeld.2.1
 have m6:=hHeld.2.2.1
 have kd0:=hHeld.2.2.2.1
 have kd1:=hHeld.2.2.2.2.1
 have v0':=hHeld.2.2.2.2.2.1
 have v1':=hHeld.2.2.2.2.2.2.1
 have v2':=hHeld.2.2.2.2.2.2.2.1
 have v3':=hHeld.2.2.2.2.2.2.2.2.1
 have v4':=hHeld.2.2.2.2.2.2.2.2.2
 clear hHeld hb4
 cases he:(er != 0)
 rotate_left
 · have HS2:=Lib.hid (show nodeW (wK ns p.vw d) nd' p.vw=.error er∧er ≠ 0 by
    rcases HRR.out with ⟨-,h⟩ | ⟨h,h0⟩
    · rw [h] at he;cases he
    · exact ⟨by rw [HS.out,h],h0⟩)
   clear HRR
   go_wp2_with (go_at_call 60;refine (boolean_any _ b).mono ?_;rintro e w5 ⟨rfl,hb5⟩;have H15:=Lib.hid ((hb5.block _ Z14).trans H14.out);obtain ⟨d0,d1,d2,d3,e0,e1,e2,e3⟩:=box4 H15.out)
   refine bodyPost_ret (res2c Tryz.results42 _ _ (w.heap.size+1) _ _ _ _ _ (heap_box H15.out _ _ _ _) rfl rfl) rfl ?_
   exact ⟨.err (z:=truthV b) rfl ⟨none,0,0,rfl,.inl (rz_nil1 w0)⟩ HS2.out.1 HS2.out.2,below_box (by omega) (HB4.out.trans (hb5.mono HB4.out.size)) _ _ _ _⟩
 have hez:er=0:=by simpa using he
 have HQ:=Lib.hid (show sureW (wK ns p.vw d x0)=.ok b by
  rcases HRR.out with ⟨h,-⟩ | ⟨-,h⟩
  · exact h
  · exact absurd hez h)
 subst hez
 clear he HRR
 cases b
 · have HS2:=Lib.hid (show nodeW (wK ns p.vw d) nd' p.vw=.ok (truthV false) by rw [HS.out,HQ.out])
   go_wp2_with (go_at_call 60;refine (boolean_any _ false).mono ?_;rintro e w5 ⟨rfl,hb5⟩;have H15:=Lib.hid ((hb5.block _ Z14).trans H14.out);obtain ⟨d0,d1,d2,d3,e0,e1,e2,e3⟩:=box4 H15.out)
   refine bodyPost_ret (res2c Tryz.results42 _ _ (w.heap.size+1) _ _ _ _ _ (heap_box H15.out _ _ _ _) rfl rfl) rfl ?_
   exact ⟨.ok (z:=truthV false) rfl ⟨none,0,0,rfl,.inl (rz_nil1 w0)⟩ HS2.out,below_box (by omega) (HB4.out.trans (hb5.mono HB4.out.size)) _ _ _ _⟩
 · have HS2:=Lib.hid (show nodeW (wK ns p.vw d) nd' p.vw=(match sureW (wK ns p.vw d x1) with | .error e=>.error e | .ok b=>.ok (truthV b)) by rw [HS.out,HQ.out];rfl)
   clear HQ
   go_wp2_with fail
   refine wp_region_held_drew (S:=(fun w'=>Below w4.heap.size w4 w'∧w'.cell? ⟨w.heap.size+2,0,none⟩=some (.int .i64 9)∧w'.cell? ⟨w.heap.size+2,6,none⟩=some (.slice (some ⟨kb,ko,none⟩) 2 nd'.kc)∧w'.cell? ⟨kb,ko,none⟩=some (.int .i64 x0)∧w'.cell? ⟨kb,ko+1,none⟩=some (.int .i64 x1)∧w'.cell? ⟨w.heap.size,0,none⟩=some (.slice p.va p.vl p.vc)∧w'.cell? ⟨w.heap.size,1,none⟩=some (.slice p.oa p.ol p.oc)∧w'.cell? ⟨w.heap.size,2,none⟩=some (.slice p.ra p.rl p.rc)∧w'.cell? ⟨w.heap.size,3,none⟩=some (.int .i64 p.clock)∧w'.cell? ⟨w.heap.size,4,none⟩=some (.int .i64 p.steps))) (by kernel_rfl) ⟨(Below.refl _ _).drew,m0,m6,kd0,kd1,v0',v1',v2',v3',v4'⟩ (fun hHeld=>?_)
   clear m0 m6 kd0 kd1 v0' v1' v2' v3' v4'
   obtain ⟨wd,hwd⟩:∃ wd,wd=w4.drew:=⟨_,rfl⟩
   rw [← hwd] at hHeld ⊢
   clear hwd
   refine tkI (i:=0) (v:=?_) rfl ?_ ?_
   rotate_left
   · intro w hSw;(try dsimp only at hSw);go_simp;try with_reducible rfl
   (try simp only [Act.put,pa,pb,pc,pd,pe,pf])
   refine tkI (i:=1) (v:=?_) rfl ?_ ?_
   rotate_left
   · intro w hSw;(try dsimp only at hSw);go_simp;try with_reducible rfl
   (try simp only [Act.put,pa,pb,pc,pd,pe,pf])
   refine tkI (i:=2) (v:=?_) rfl ?_ ?_
   rotate_left
   · intro w hSw;(try dsimp only at hSw);go_simp;try with_reducible rfl
   (try simp only [Act.put,pa,pb,pc,pd,pe,pf])
   refine tkI (i:=3) (v:=?_) rfl ?_ ?_
   rotate_left
   · intro w hSw;(try dsimp only at hSw);go_simp;try with_reducible rfl
   (try simp only [Act.put,pa,pb,pc,pd,pe,pf])
   refine tkI (i:=4) (v:=?_) rfl ?_ ?_
   rotate_left
   · intro w hSw;(try dsimp only at hSw);go_simp;try with_reducible rfl
   (try simp only [Act.put,pa,pb,pc,pd,pe,pf])
   refine tkI (i:=5) (v:=?_) rfl ?_ ?_
   rotate_left
   · intro w hSw;(try dsimp only at hSw);go_simp;try with_reducible rfl
   (try simp only [Act.put,pa,pb,pc,pd,pe,pf])
   refine wpAnyH_ready (rs:=[6]) (by kernel_rfl) (by simp) ?_
   refine AllReadyH.cons (o:=_) rfl (fun K hK=>?_) AllReadyH.nil
   go_simp
   refine (certain_any w0 _ nl nc ns p d HIH.out wd x1 (HW4.out.trans (hHeld.1.mono HW4.out.size)) HG1.out).mono ?_
   rintro e y1 ⟨⟨b,er,rfl,hr⟩,hb⟩
   have HRR:=Lib.hid hr
   clear hr
   refine hK.out _ _ ⟨hHeld.1.trans (hb.mono hHeld.1.size),keepb hb hHeld.2.1,keepb hb hHeld.2.2.1,keepb hb hHeld.2.2.2.1,keepb hb hHeld.2.2.2.2.1,keepb hb hHeld.2.2.2.2.2.1,keepb hb hHeld.2.2.2.2.2.2.1,keepb hb hHeld.2.2.2.2.2.2.2.1,keepb hb hHeld.2.2.2.2.2.2.2.2.1,keepb hb hHeld.2.2.2.2.2.2.2.2.2⟩ (fun hHeld=>?_)
   clear hK K hb
   (try simp only [Act.put,pa,pb,pc,pd,pe,pf])
   refine tkI (i:=7) (v:=?_) rfl ?_ ?_
   rotate_left
   · intro w hSw;(try dsimp only at hSw);go_simp;try with_reducible rfl
   (try simp only [Act.put,pa,pb,pc,pd,pe,pf])
   refine tkI (i:=8) (v:=?_) rfl ?_ ?_
   rotate_left
   · intro w hSw;(try dsimp only at hSw);go_simp;try with_reducible rfl
   (try simp only [Act.put,pa,pb,pc,pd,pe,pf])
   refine tkI (i:=9) (v:=?_) rfl ?_ ?_
   rotate_left
   · intro w hSw;(try dsimp only at hSw);go_simp;try with_reducible rfl
   (try simp only [Act.put,pa,pb,pc,pd,pe,pf])
   refine tkI (i:=10) (v:=?_) rfl ?_ ?_
   rotate_left
   · intro w hSw;(try dsimp only at hSw);go_simp;try with_reducible rfl
   (try simp only [Act.put,pa,pb,pc,pd,pe,pf])
   refine tkI (i:=11) (v:=?_) rfl ?_ ?_
   rotate_left
   · intro w hSw;(try dsimp only at hSw);go_simp;try with_reducible rfl
   (try simp only [Act.put,pa,pb,pc,pd,pe,pf])
   refine wpAnyH_done (by kernel_rfl) ?_ _
   go_upto_region 24 with (fail)
   obtain ⟨w6,hw6⟩:∃ w6,w6=y1:=⟨_,rfl⟩
   rw [← hw6] at hHeld ⊢
   clear hw6
   have H16:=Lib.hid ((hHeld.1.block _ Z14).trans H14.out)
   have HB6:=Lib.hid (HB4.out.trans (hHeld.1.mono HB4.out.size))
   have Z16:w.heap.size+1 < w6.heap.size:=by have:=hHeld.1.size;omega
   clear hHeld
   go_wp2_with (go_at_call 60;refine (boolean_any _ b).mono ?_;rintro e w5 ⟨rfl,hb5⟩;have H15:=Lib.hid ((hb5.block _ Z16).trans H16.out);obtain ⟨d0,d1,d2,d3,e0,e1,e2,e3⟩:=box4 H15.out)
   refine bodyPost_ret (res2c Tryz.results42 _ _ (w.heap.size+1) _ _ _ _ _ (heap_box H15.out _ _ _ _) rfl rfl) rfl ?_
   have HBL:=below_box (show w.heap.size≤w.heap.size+1 by omega) (HB6.out.trans (hb5.mono HB6.out.size))
   rcases HRR.out with ⟨h,h0⟩ | ⟨h,h0⟩
   · subst h0
     exact ⟨.ok (z:=truthV b) rfl ⟨none,0,0,rfl,.inl (rz_nil1 w0)⟩ (by rw [HS2.out,h]),HBL _ _ _ _⟩
   · exact ⟨.err (z:=truthV b) rfl ⟨none,0,0,rfl,.inl (rz_nil1 w0)⟩ (by rw [HS2.out,h]) h0,HBL _ _ _ _⟩
theorem r_or (w0:World) (na:Option Addr) (nl nc:Nat) (ns:List Nd) (p:Pd) (d:Nat) (IH:RefAt w0 na nl nc ns p d) (hE:EnvR w0 na nl nc ns p) (hv:VwOk p.vw) (w:World) (hbw:Below w0.heap.size w0 w) (q:Nat) (nd:Nd) (hq:q < nl) (hnd:ns[q]?=some nd) (hright:nd.right=true) (hk:∀ k ∈ nd.ks,goodN ns d k) (hop:nd.op=10) :
 Calls Tryz.prog 42 #[.slice na nl nc,.int .i64 (q:Int),.agg p.cs] w fun e w'=>TogOut w0 w e w' (nodeW (wK ns p.vw d) nd p.vw)∧Below w.heap.size w w':=by
 obtain ⟨w2,hw2⟩:∃ w2,w2=(w.alloc (boxR p)).alloc boxZ:=⟨_,rfl⟩
 have g0:w2.heap[w.heap.size]?=some (boxR p):=by rw [hw2];exact heap_alloc2_old w _ _
 have g1:w2.heap[w.heap.size+1]?=some boxZ:=by rw [hw2];exact heap_alloc2_new w _ _
 have hb2:Below w.heap.size w w2:=by rw [hw2];exact bel2 _ _ _
 have z2:w2.heap.size=w.heap.size+2:=by rw [hw2];simp
 have hz0:=hbw.size
 have HNW:=Lib.hid (hE.n nd (List.mem_of_getElem? hnd))
 obtain ⟨nb,no,nd',rfl,hnd',hcl0⟩:=hE.r.at hq
 obtain rfl:nd'=nd:=by rw [hnd] at hnd';exact (Option.some.inj hnd').symm
 have hbw2:Below w0.heap.size w0 w2:=hbw.trans (hb2.mono hz0)
 have hcl:=fun j v hv=>(hbw2.cell (p:=⟨nb,no+q * 7+j,none⟩) (block_lt_of_cell (hcl0 j v hv))).trans (hcl0 j v hv)
 have n0:=hcl 0 _ rfl
 have n1:=hcl 1 _ rfl
 have n2:=hcl 2 _ rfl
 have n3:=hcl 3 _ rfl
 have n4:=hcl 4 _ rfl
 have n5:=hcl 5 _ rfl
 have n6:=hcl 6 _ rfl
 simp only [Nat.add_zero] at n0
 rw [hop] at n0
 have hqI:(q:Int) < (nl:Int):=by omega
 have hnl:=hE.r.2.1
 have hnc:=hE.r.2.2.1
 have HK:=Lib.hid hk
 have HE:=Lib.hid hE
 have HIH:=Lib.hid IH
 have HV:=Lib.hid hv
 have HR:=Lib.hid hright
 have G0:=Lib.hid g0
 have G1:=Lib.hid g1
 have HB2:=Lib.hid hb2
 have HOP:=Lib.hid hop
 have HND:=Lib.hid hnd
 have HBW:=Lib.hid hbw
 clear hk hE IH hv hright g0 g1 hb2 hnd hnd' hcl hcl0 hop hbw hbw2
 go_enter Tryz.func42,Tryz.ntmps42
 go_upto_region 1 with (fail)
 rw [← hw2]
 clear hw2
 go_upto_region 2 with (fail)
 obtain ⟨w3,hw3⟩:∃ w3,w3=w2.alloc (.cells (nodeV 10 nd'.nm nd'.vk nd'.vn nd'.vt nd'.sa nd'.sl nd'.sc nd'.ka nd'.kl nd'.kc) 56):=⟨_,rfl⟩
 have g3:w3.heap[w.heap.size+2]?=some (.cells (nodeV 10 nd'.nm nd'.vk nd'.vn nd'.vt nd'.sa nd'.sl nd'.sc nd'.ka nd'.kl nd'.kc) 56 (0,0)):=by rw [hw3,← z2];exact heap_alloc_new w2 _
 have hb3:Below w2.heap.size w2 w3:=by rw [hw3];exact bel1 _ _
 have z3:w3.heap.size=w.heap.size+3:=by rw [hw3];simp [z2]
 have h1':=(hb3.block _ (by omega)).trans G1.out
 have h0':=(hb3.block _ (by omega)).trans G0.out
 obtain ⟨wx,hwx⟩:∃ wx,wx=w2.heap.size:=⟨_,rfl⟩
 rw [← hw3]
 obtain ⟨c0,c1,c2,c3,f0,f1,f2,f3⟩:=box4 h1'
 have H1:=Lib.hid h1'
 have H0:=Lib.hid h0'
 have G3:=Lib.hid g3
 have HB3:=Lib.hid (HB2.out.trans (hb3.mono (by omega)))
 have HW3:=Lib.hid (HBW.out.trans (HB3.out.mono hz0))
 have v0':=cell_of_row _ _ 0 _ _ _ h0'
 have v1':=cell_of_row _ _ 1 _ _ _ h0'
 have v2':=cell_of_row _ _ 2 _ _ _ h0'
 have v3':=cell_of_row _ _ 3 _ _ _ h0'
 have v4':=cell_of_row _ _ 4 _ _ _ h0'
 have m0:=cell_of_row _ _ 0 _ _ _ g3
 have m1:=cell_of_row _ _ 1 _ _ _ g3
 have m2:=cell_of_row _ _ 2 _ _ _ g3
 have m3:=cell_of_row _ _ 3 _ _ _ g3
 have m4:=cell_of_row _ _ 4 _ _ _ g3
 have m5:=cell_of_row _ _ 5 _ _ _ g3
 have m6:=cell_of_row _ _ 6 _ _ _ g3
 simp only [nodeV,List.getElem?_toArray,List.getElem?_cons_zero,List.getElem?_cons_succ] at v0' v1' v2' v3' v4' m0 m1 m2 m3 m4 m5 m6
 have Z0:w.heap.size < w3.heap.size:=by omega
 have Z1:w.heap.size+1 < w3.heap.size:=by omega
 have Z3:w.heap.size+2 < w3.heap.size:=by omega
 clear h1' h0' g3 hb3 hw3 n0 n1 n2 n3 n4 n5 n6 z2 z3 hwx
 have hkl:nd'.kl=2:=by
  have h:=(right_cases HR.out).1
  rw [HOP.out] at h
  simp [kidsN] at h
  omega
 have hkr:=HNW.out.ok.1
 obtain ⟨kb,ko,x0,hka,hx0,-⟩:=hkr.at (show 0 < nd'.kl by omega)
 obtain ⟨kb1,ko1,x1,-,hx1,-⟩:=hkr.at (show 1 < nd'.kl by omega)
 have HKR:=hkr.below HW3.out
 rw [hka] at HKR m6
 rw [hkl] at m6
 have kd0:w3.cell? ⟨kb,ko,none⟩=some (.int .i64 x0):=by have:=RS.atR HKR hx0 0 _ rfl;simpa using this
 have HG0:=Lib.hid (HK.out x0 (List.mem_of_getElem? hx0))
 have kd1:w3.cell? ⟨kb,ko+1,none⟩=some (.int .i64 x1):=by have:=RS.atR HKR hx1 0 _ rfl;simpa using this
 have HG1:=Lib.hid (HK.out x1 (List.mem_of_getElem? hx1))
 clear hkl hkr hka HKR m1 m2 m3 m4 m5
 have HS:=Lib.hid (node_or (f:=wK ns p.vw d) (v:=p.vw) HOP.out hx0 hx1)
 clear hx0 hx1 c0 c1 c2 c3 f0 f1 f2 f3
 go_wp2_with fail
 refine wp_region_held_drew (S:=(fun w'=>Below w3.heap.size w3 w'∧w'.cell? ⟨w.heap.size+2,0,none⟩=some (.int .i64 10)∧w'.cell? ⟨w.heap.size+2,6,none⟩=some (.slice (some ⟨kb,ko,none⟩) 2 nd'.kc)∧w'.cell? ⟨kb,ko,none⟩=some (.int .i64 x0)∧w'.cell? ⟨kb,ko+1,none⟩=some (.int .i64 x1)∧w'.cell? ⟨w.heap.size,0,none⟩=some (.slice p.va p.vl p.vc)∧w'.cell? ⟨w.heap.size,1,none⟩=some (.slice p.oa p.ol p.oc)∧w'.cell? ⟨w.heap.size,2,none⟩=some (.slice p.ra p.rl p.rc)∧w'.cell? ⟨w.heap.size,3,none⟩=some (.int .i64 p.clock)∧w'.cell? ⟨w.heap.size,4,none⟩=some (.int .i64 p.steps))) (by kernel_rfl) ⟨(Below.refl _ _).drew,m0,m6,kd0,kd1,v0',v1',v2',v3',v4'⟩ (fun hHeld=>?_)
 clear m0 m6 kd0 kd1 v0' v1' v2' v3' v4'
 obtain ⟨wd,hwd⟩:∃ wd,wd=w3.drew:=⟨_,rfl⟩
 rw [← hwd] at hHeld ⊢
 clear hwd
 refine tkI (i:=0) (v:=?_) rfl ?_ ?_
 rotate_left
 · intro w hSw;(try dsimp only at hSw);go_simp;try with_reducible rfl
 (try simp only [Act.put,pa,pb,pc,pd,pe,pf])
 refine tkI (i:=1) (v:=?_) rfl ?_ ?_
 rotate_left
 · intro w hSw;(try dsimp only at hSw);go_simp;try with_reducible rfl
 (try simp only [Act.put,pa,pb,pc,pd,pe,pf])
 refine tkI (i:=2) (v:=?_) rfl ?_ ?_
 rotate_left
 · intro w hSw;(try dsimp only at hSw);go_simp;try with_reducible rfl
 (try simp only [Act.put,pa,pb,pc,pd,pe,pf])
 refine tkI (i:=3) (v:=?_) rfl ?_ ?_
 rotate_left
 · intro w hSw;(try dsimp only at hSw);go_simp;try with_reducible rfl
 (try simp only [Act.put,pa,pb,pc,pd,pe,pf])
 refine tkI (i:=4) (v:=?_) rfl ?_ ?_
 rotate_left
 · intro w hSw;(try dsimp only at hSw);go_simp;try with_reducible rfl
 (try simp only [Act.put,pa,pb,pc,pd,pe,pf])
 refine tkI (i:=5) (v:=?_) rfl ?_ ?_
 rotate_left
 · intro w hSw;(try dsimp only at hSw);go_simp;try with_reducible rfl
 (try simp only [Act.put,pa,pb,pc,pd,pe,pf])
 refine wpAnyH_ready (rs:=[6]) (by kernel_rfl) (by simp) ?_
 refine AllReadyH.cons (o:=_) rfl (fun K hK=>?_) AllReadyH.nil
 go_simp
 refine (certain_any w0 _ nl nc ns p d HIH.out wd x0 (HW3.out.trans (hHeld.1.mono HW3.out.size)) HG0.out).mono ?_
 rintro e y1 ⟨⟨b,er,rfl,hr⟩,hb⟩
 have HRR:=Lib.hid hr
 clear hr
 refine hK.out _ _ ⟨hHeld.1.trans (hb.mono hHeld.1.size),keepb hb hHeld.2.1,keepb hb hHeld.2.2.1,keepb hb hHeld.2.2.2.1,keepb hb hHeld.2.2.2.2.1,keepb hb hHeld.2.2.2.2.2.1,keepb hb hHeld.2.2.2.2.2.2.1,keepb hb hHeld.2.2.2.2.2.2.2.1,keepb hb hHeld.2.2.2.2.2.2.2.2.1,keepb hb hHeld.2.2.2.2.2.2.2.2.2⟩ (fun hHeld=>?_)
 clear hK K hb
 (try simp only [Act.put,pa,pb,pc,pd,pe,pf])
 refine tkI (i:=7) (v:=?_) rfl ?_ ?_
 rotate_left
 · intro w hSw;(try dsimp only at hSw);go_simp;try with_reducible rfl
 (try simp only [Act.put,pa,pb,pc,pd,pe,pf])
 refine tkI (i:=8) (v:=?_) rfl ?_ ?_
 rotate_left
 · intro w hSw;(try dsimp only at hSw);go_simp;try with_reducible rfl
 (try simp only [Act.put,pa,pb,pc,pd,pe,pf])
 refine tkI (i:=9) (v:=?_) rfl ?_ ?_
 rotate_left
 · intro w hSw;(try dsimp only at hSw);go_simp;try with_reducible rfl
 (try simp only [Act.put,pa,pb,pc,pd,pe,pf])
 refine tkI (i:=10) (v:=?_) rfl ?_ ?_
 rotate_left
 · intro w hSw;(try dsimp only at hSw);go_simp;try with_reducible rfl
 (try simp only [Act.put,pa,pb,pc,pd,pe,pf])
 refine tkI (i:=11) (v:=?_) rfl ?_ ?_
 rotate_left
 · intro w hSw;(try dsimp only at hSw);go_simp;try with_reducible rfl
 (try simp only [Act.put,pa,pb,pc,pd,pe,pf])
 refine wpAnyH_done (by kernel_rfl) ?_ _
 go_upto_region 21 with (fail)
 obtain ⟨w4,hw4⟩:∃ w4,w4=y1:=⟨_,rfl⟩
 rw [← hw4] at hHeld ⊢
 clear hw4
 have hb4:=hHeld.1
 have H14:=Lib.hid ((hb4.block _ Z1).trans H1.out)
 have HB4:=Lib.hid (HB3.out.trans (hb4.mono (by omega)))
 have HW4:=Lib.hid (HW3.out.trans (hb4.mono HW3.out.size))
 have Z14:w.heap.size+1 < w4.heap.size:=by have:=hb4.size;omega
 have m0:=hHeld.2.1
 have m6:=hHeld.2.2.1
 have kd0:=hHeld.2.2.2.1
 have kd1:=hHeld.2.2.2.2.1
 have v0':=hHeld.2.2.2.2.2.1
 have v1':=hHeld.2.2.2.2.2.2.1
 have v2':=hHeld.2.2.2.2.2.2.2.1
 have v3':=hHeld.2.2.2.2.2.2.2.2.1
 have v4':=hHeld.2.2.2.2.2.2.2.2.2
 clear hHeld hb4
 cases he:(er != 0)
 rotate_left
 · have HS2:=Lib.hid (show nodeW (wK ns p.vw d) nd' p.vw=.error er∧er ≠ 0 by
    rcases HRR.out with ⟨-,h⟩ | ⟨h,h0⟩
    · rw [h] at he;cases he
    · exact ⟨by rw [HS.out,h],h0⟩)
   clear HRR
   go_wp2_with (go_at_call 60;refine (boolean_any _ b).mono ?_;rintro e w5 ⟨rfl,hb5⟩;have H15:=Lib.hid ((hb5.block _ Z14).trans H14.out);obtain ⟨d0,d1,d2,d3,e0,e1,e2,e3⟩:=box4 H15.out)
   refine bodyPost_ret (res2c Tryz.results42 _ _ (w.heap.size+1) _ _ _ _ _ (heap_box H15.out _ _ _ _) rfl rfl) rfl ?_
   exact ⟨.err (z:=truthV b) rfl ⟨none,0,0,rfl,.inl (rz_nil1 w0)⟩ HS2.out.1 HS2.out.2,below_box (by omega) (HB4.out.trans (hb5.mono HB4.out.size)) _ _ _ _⟩
 have hez:er=0:=by simpa using he
 have HQ:=Lib.hid (show sureW (wK ns p.vw d x0)=.ok b by
  rcases HRR.out with ⟨h,-⟩ | ⟨-,h⟩
  · exact h
  · exact absurd hez h)
 subst hez
 clear he HRR
 cases b
 · have HS2:=Lib.hid (show nodeW (wK ns p.vw d) nd' p.vw=(match sureW (wK ns p.vw d x1) with | .error e=>.error e | .ok b=>.ok (truthV b)) by rw [HS.out,HQ.out];rfl)
   clear HQ
   go_wp2_with fail
   refine wp_region_held_drew (S:=(fun w'=>Below w4.heap.size w4 w'∧w'.cell? ⟨w.heap.size+2,0,none⟩=some (.int .i64 10)∧w'.cell? ⟨w.heap.size+2,6,none⟩=some (.slice (some ⟨kb,ko,none⟩) 2 nd'.kc)∧w'.cell? ⟨kb,ko,none⟩=some (.int .i64 x0)∧w'.cell? ⟨kb,ko+1,none⟩=some (.int .i64 x1)∧w'.cell? ⟨w.heap.size,0,none⟩=some (.slice p.va p.vl p.vc)∧w'.cell? ⟨w.heap.size,1,none⟩=some (.slice p.oa p.ol p.oc)∧w'.cell? ⟨w.heap.size,2,none⟩=some (.slice p.ra p.rl p.rc)∧w'.cell? ⟨w.heap.size,3,none⟩=some (.int .i64 p.clock)∧w'.cell? ⟨w.heap.size,4,none⟩=some (.int .i64 p.steps))) (by kernel_rfl) ⟨(Below.refl _ _).drew,m0,m6,kd0,kd1,v0',v1',v2',v3',v4'⟩ (fun hHeld=>?_)
   clear m0 m6 kd0 kd1 v0' v1' v2' v3' v4'
   obtain ⟨wd,hwd⟩:∃ wd,wd=w4.drew:=⟨_,rfl⟩
   rw [← hwd] at hHeld ⊢
   clear hwd
   refine tkI (i:=0) (v:=?_) rfl ?_ ?_
   rotate_left
   · intro w hSw;(try dsimp only at hSw);go_simp;try with_reducible rfl
   (try simp only [Act.put,pa,pb,pc,pd,pe,pf])
   refine tkI (i:=1) (v:=?_) rfl ?_ ?_
   rotate_left
   · intro w hSw;(try dsimp only at hSw);go_simp;try with_reducible rfl
   (try simp only [Act.put,pa,pb,pc,pd,pe,pf])
   refine tkI (i:=2) (v:=?_) rfl ?_ ?_
   rotate_left
   · intro w hSw;(try dsimp only at hSw);go_simp;try with_reducible rfl
   (try simp only [Act.put,pa,pb,pc,pd,pe,pf])
   refine tkI (i:=3) (v:=?_) rfl ?_ ?_
   rotate_left
   · intro w hSw;(try dsimp only at hSw);go_simp;try with_reducible rfl
   (try simp only [Act.put,pa,pb,pc,pd,pe,pf])
   refine tkI (i:=4) (v:=?_) rfl ?_ ?_
   rotate_left
   · intro w hSw;(try dsimp only at hSw);go_simp;try with_reducible rfl
   (try simp only [Act.put,pa,pb,pc,pd,pe,pf])
   refine tkI (i:=5) (v:=?_) rfl ?_ ?_
   rotate_left
   · intro w hSw;(try dsimp only at hSw);go_simp;try with_reducible rfl
   (try simp only [Act.put,pa,pb,pc,pd,pe,pf])
   refine wpAnyH_ready (rs:=[6]) (by kernel_rfl) (by simp) ?_
   refine AllReadyH.cons (o:=_) rfl (fun K hK=>?_) AllReadyH.nil
   go_simp
   refine (certain_any w0 _ nl nc ns p d HIH.out wd x1 (HW4.out.trans (hHeld.1.mono HW4.out.size)) HG1.out).mono ?_
   rintro e y1 ⟨⟨b,er,rfl,hr⟩,hb⟩
   have HRR:=Lib.hid hr
   clear hr
   refine hK.out _ _ ⟨hHeld.1.trans (hb.mono hHeld.1.size),keepb hb hHeld.2.1,keepb hb hHeld.2.2.1,keepb hb hHeld.2.2.2.1,keepb hb hHeld.2.2.2.2.1,keepb hb hHeld.2.2.2.2.2.1,keepb hb hHeld.2.2.2.2.2.2.1,keepb hb hHeld.2.2.2.2.2.2.2.1,keepb hb hHeld.2.2.2.2.2.2.2.2.1,keepb hb hHeld.2.2.2.2.2.2.2.2.2⟩ (fun hHeld=>?_)
   clear hK K hb
   (try simp only [Act.put,pa,pb,pc,pd,pe,pf])
   refine tkI (i:=7) (v:=?_) rfl ?_ ?_
   rotate_left
   · intro w hSw;(try dsimp only at hSw);go_simp;try with_reducible rfl
   (try simp only [Act.put,pa,pb,pc,pd,pe,pf])
   refine tkI (i:=8) (v:=?_) rfl ?_ ?_
   rotate_left
   · intro w hSw;(try dsimp only at hSw);go_simp;try with_reducible rfl
   (try simp only [Act.put,pa,pb,pc,pd,pe,pf])
   refine tkI (i:=9) (v:=?_) rfl ?_ ?_
   rotate_left
   · intro w hSw;(try dsimp only at hSw);go_simp;try with_reducible rfl
   (try simp only [Act.put,pa,pb,pc,pd,pe,pf])
   refine tkI (i:=10) (v:=?_) rfl ?_ ?_
   rotate_left
   · intro w hSw;(try dsimp only at hSw);go_simp;try with_reducible rfl
   (try simp only [Act.put,pa,pb,pc,pd,pe,pf])
   refine tkI (i:=11) (v:=?_) rfl ?_ ?_
   rotate_left
   · intro w hSw;(try dsimp only at hSw);go_simp;try with_reducible rfl
   (try simp only [Act.put,pa,pb,pc,pd,pe,pf])
   refine wpAnyH_done (by kernel_rfl) ?_ _
   go_upto_region 24 with (fail)
   obtain ⟨w6,hw6⟩:∃ w6,w6=y1:=⟨_,rfl⟩
   rw [← hw6] at hHeld ⊢
   clear hw6
   have H16:=Lib.hid ((hHeld.1.block _ Z14).trans H14.out)
   have HB6:=Lib.hid (HB4.out.trans (hHeld.1.mono HB4.out.size))
   have Z16:w.heap.size+1 < w6.heap.size:=by have:=hHeld.1.size;omega
   clear hHeld
   go_wp2_with (go_at_call 60;refine (boolean_any _ b).mono ?_;rintro e w5 ⟨rfl,hb5⟩;have H15:=Lib.hid ((hb5.block _ Z16).trans H16.out);obtain ⟨d0,d1,d2,d3,e0,e1,e2,e3⟩:=box4 H15.out)
   refine bodyPost_ret (res2c Tryz.results42 _ _ (w.heap.size+1) _ _ _ _ _ (heap_box H15.out _ _ _ _) rfl rfl) rfl ?_
   have HBL:=below_box (show w.heap.size≤w.heap.size+1 by omega) (HB6.out.trans (hb5.mono HB6.out.size))
   rcases HRR.out with ⟨h,h0⟩ | ⟨h,h0⟩
   · subst h0
     exact ⟨.ok (z:=truthV b) rfl ⟨none,0,0,rfl,.inl (rz_nil1 w0)⟩ (by rw [HS2.out,h]),HBL _ _ _ _⟩
   · exact ⟨.err (z:=truthV b) rfl ⟨none,0,0,rfl,.inl (rz_nil1 w0)⟩ (by rw [HS2.out,h]) h0,HBL _ _ _ _⟩
 · have HS2:=Lib.hid (show nodeW (wK ns p.vw d) nd' p.vw=.ok (truthV true) by rw [HS.out,HQ.out])
   go_wp2_with (go_at_call 60;refine (boolean_any _ true).mono ?_;rintro e w5 ⟨rfl,hb5⟩;have H15:=Lib.hid ((hb5.block _ Z14).trans H14.out);obtain ⟨d0,d1,d2,d3,e0,e1,e2,e3⟩:=box4 H15.out)
   refine bodyPost_ret (res2c Tryz.results42 _ _ (w.heap.size+1) _ _ _ _ _ (heap_box H15.out _ _ _ _) rfl rfl) rfl ?_
   exact ⟨.ok (z:=truthV true) rfl ⟨none,0,0,rfl,.inl (rz_nil1 w0)⟩ HS2.out,below_box (by omega) (HB4.out.trans (hb5.mono HB4.out.size)) _ _ _ _⟩
theorem r_if (w0:World) (na:Option Addr) (nl nc:Nat) (ns:List Nd) (p:Pd) (d:Nat) (IH:RefAt w0 na nl nc ns p d) (hE:EnvR w0 na nl nc ns p) (hv:VwOk p.vw) (w:World) (hbw:Below w0.heap.size w0 w) (q:Nat) (nd:Nd) (hq:q < nl) (hnd:ns[q]?=some nd) (hright:nd.right=true) (hk:∀ k ∈ nd.ks,goodN ns d k) (hop:nd.op=23) :
 Calls Tryz.prog 42 #[.slice na nl nc,.int .i64 (q:Int),.agg p.cs] w fun e w'=>TogOut w0 w e w' (nodeW (wK ns p.vw d) nd p.vw)∧Below w.heap.size w w':=by
 obtain ⟨w2,hw2⟩:∃ w2,w2=(w.alloc (boxR p)).alloc boxZ:=⟨_,rfl⟩
 have g0:w2.heap[w.heap.size]?=some (boxR p):=by rw [hw2];exact heap_alloc2_old w _ _
 have g1:w2.heap[w.heap.size+1]?=some boxZ:=by rw [hw2];exact heap_alloc2_new w _ _
 have hb2:Below w.heap.size w w2:=by rw [hw2];exact bel2 _ _ _
 have z2:w2.heap.size=w.heap.size+2:=by rw [hw2];simp
 have hz0:=hbw.size
 have HNW:=Lib.hid (hE.n nd (List.mem_of_getElem? hnd))
 obtain ⟨nb,no,nd',rfl,hnd',hcl0⟩:=hE.r.at hq
 obtain rfl:nd'=nd:=by rw [hnd] at hnd';exact (Option.some.inj hnd').symm
 have hbw2:Below w0.heap.size w0 w2:=hbw.trans (hb2.mono hz0)
 have hcl:=fun j v hv=>(hbw2.cell (p:=⟨nb,no+q * 7+j,none⟩) (block_lt_of_cell (hcl0 j v hv))).trans (hcl0 j v hv)
 have n0:=hcl 0 _ rfl
 have n1:=hcl 1 _ rfl
 have n2:=hcl 2 _ rfl
 have n3:=hcl 3 _ rfl
 have n4:=hcl 4 _ rfl
 have n5:=hcl 5 _ rfl
 have n6:=hcl 6 _ rfl
 simp only [Nat.add_zero] at n0
 rw [hop] at n0
 have hqI:(q:Int) < (nl:Int):=by omega
 have hnl:=hE.r.2.1
 have hnc:=hE.r.2.2.1
 have HK:=Lib.hid hk
 have HE:=Lib.hid hE
 have HIH:=Lib.hid IH
 have HV:=Lib.hid hv
 have HR:=Lib.hid hright
 have G0:=Lib.hid g0
 have G1:=Lib.hid g1
 have HB2:=Lib.hid hb2
 have HOP:=Lib.hid hop
 have HND:=Lib.hid hnd
 have HBW:=Lib.hid hbw
 clear hk hE IH hv hright g0 g1 hb2 hnd hnd' hcl hcl0 hop hbw hbw2
 go_enter Tryz.func42,Tryz.ntmps42
 go_upto_region 1 with (fail)
 rw [← hw2]
 clear hw2
 go_upto_region 2 with (fail)
 obtain ⟨w3,hw3⟩:∃ w3,w3=w2.alloc (.cells (nodeV 23 nd'.nm nd'.vk nd'.vn nd'.vt nd'.sa nd'.sl nd'.sc nd'.ka nd'.kl nd'.kc) 56):=⟨_,rfl⟩
 have g3:w3.heap[w.heap.size+2]?=some (.cells (nodeV 23 nd'.nm nd'.vk nd'.vn nd'.vt nd'.sa nd'.sl nd'.sc nd'.ka nd'.kl nd'.kc) 56 (0,0)):=by rw [hw3,← z2];exact heap_alloc_new w2 _
 have hb3:Below w2.heap.size w2 w3:=by rw [hw3];exact bel1 _ _
 have z3:w3.heap.size=w.heap.size+3:=by rw [hw3];simp [z2]
 have h1':=(hb3.block _ (by omega)).trans G1.out
 have h0':=(hb3.block _ (by omega)).trans G0.out
 obtain ⟨wx,hwx⟩:∃ wx,wx=w2.heap.size:=⟨_,rfl⟩
 rw [← hw3]
 obtain ⟨c0,c1,c2,c3,f0,f1,f2,f3⟩:=box4 h1'
 have H1:=Lib.hid h1'
 have H0:=Lib.hid h0'
 have G3:=Lib.hid g3
 have HB3:=Lib.hid (HB2.out.trans (hb3.mono (by omega)))
 have HW3:=Lib.hid (HBW.out.trans (HB3.out.mono hz0))
 have v0':=cell_of_row _ _ 0 _ _ _ h0'
 have v1':=cell_of_row _ _ 1 _ _ _ h0'
 have v2':=cell_of_row _ _ 2 _ _ _ h0'
 have v3':=cell_of_row _ _ 3 _ _ _ h0'
 have v4':=cell_of_row _ _ 4 _ _ _ h0'
 have m0:=cell_of_row _ _ 0 _ _ _ g3
 have m1:=cell_of_row _ _ 1 _ _ _ g3
 have m2:=cell_of_row _ _ 2 _ _ _ g3
 have m3:=cell_of_row _ _ 3 _ _ _ g3
 have m4:=cell_of_row _ _ 4 _ _ _ g3
 have m5:=cell_of_row _ _ 5 _ _ _ g3
 have m6:=cell_of_row _ _ 6 _ _ _ g3
 simp only [nodeV,List.getElem?_toArray,List.getElem?_cons_zero,List.getElem?_cons_succ] at v0' v1' v2' v3' v4' m0 m1 m2 m3 m4 m5 m6
 have Z0:w.heap.size < w3.heap.size:=by omega
 have Z1:w.heap.size+1 < w3.heap.size:=by omega
 have Z3:w.heap.size+2 < w3.heap.size:=by omega
 clear h1' h0' g3 hb3 hw3 n0 n1 n2 n3 n4 n5 n6 z2 z3 hwx
 have hkl:nd'.kl=3:=by
  have h:=(right_cases HR.out).1
  rw [HOP.out] at h
  simp [kidsN] at h
  omega
 have hkr:=HNW.out.ok.1
 obtain ⟨kb,ko,x0,hka,hx0,-⟩:=hkr.at (show 0 < nd'.kl by omega)
 obtain ⟨kb1,ko1,x1,-,hx1,-⟩:=hkr.at (show 1 < nd'.kl by omega)
 obtain ⟨kb2,ko2,x2,-,hx2,-⟩:=hkr.at (show 2 < nd'.kl by omega)
 have HKA:=Lib.hid hka
 have HKR:=hkr.below HW3.out
 rw [hka] at HKR m6
 rw [hkl] at m6
 have kd0:w3.cell? ⟨kb,ko,none⟩=some (.int .i64 x0):=by have:=RS.atR HKR hx0 0 _ rfl;simpa using this
 have HG0:=Lib.hid (HK.out x0 (List.mem_of_getElem? hx0))
 have kd1:w3.cell? ⟨kb,ko+1,none⟩=some (.int .i64 x1):=by have:=RS.atR HKR hx1 0 _ rfl;simpa using this
 have HG1:=Lib.hid (HK.out x1 (List.mem_of_getElem? hx1))
 have kd2:w3.cell? ⟨kb,ko+2,none⟩=some (.int .i64 x2):=by have:=RS.atR HKR hx2 0 _ rfl;simpa using this
 have HG2:=Lib.hid (HK.out x2 (List.mem_of_getElem? hx2))
 clear hkl hkr hka HKR m1 m2 m3 m4 m5
 have hkbw:kb < w.heap.size:=by have h9:kb < w0.heap.size:=block_lt_of_cell (RS.atR (show RS 1 Iv w0 (some ⟨kb,ko,none⟩) nd'.kl nd'.kc nd'.ks from by rw [← HKA.out];exact HNW.out.ok.1) hx0 0 _ rfl);omega
 have HS:=Lib.hid (node_if (f:=wK ns p.vw d) (v:=p.vw) HOP.out hx0 hx1 hx2)
 clear hx0 hx1 hx2 c0 c1 c2 c3 f0 f1 f2 f3
 go_wp2_with fail
 refine wp_region_held_drew (S:=(fun w'=>Below w3.heap.size w3 w'∧w'.cell? ⟨w.heap.size+2,0,none⟩=some (.int .i64 23)∧w'.cell? ⟨w.heap.size+2,6,none⟩=some (.slice (some ⟨kb,ko,none⟩) 3 nd'.kc)∧w'.cell? ⟨kb,ko,none⟩=some (.int .i64 x0)∧w'.cell? ⟨kb,ko+1,none⟩=some (.int .i64 x1)∧w'.cell? ⟨kb,ko+2,none⟩=some (.int .i64 x2)∧w'.cell? ⟨w.heap.size,0,none⟩=some (.slice p.va p.vl p.vc)∧w'.cell? ⟨w.heap.size,1,none⟩=some (.slice p.oa p.ol p.oc)∧w'.cell? ⟨w.heap.size,2,none⟩=some (.slice p.ra p.rl p.rc)∧w'.cell? ⟨w.heap.size,3,none⟩=some (.int .i64 p.clock)∧w'.cell? ⟨w.heap.size,4,none⟩=some (.int .i64 p.steps))) (by kernel_rfl) ⟨(Below.refl _ _).drew,m0,m6,kd0,kd1,kd2,v0',v1',v2',v3',v4'⟩ (fun hHeld=>?_)
 clear m0 m6 kd0 kd1 kd2 v0' v1' v2' v3' v4'
 obtain ⟨wd,hwd⟩:∃ wd,wd=w3.drew:=⟨_,rfl⟩
 rw [← hwd] at hHeld ⊢
 clear hwd
 refine tkI (i:=0) (v:=?_) rfl ?_ ?_
 rotate_left
 · intro w hSw;(try dsimp only at hSw);go_simp;try with_reducible rfl
 (try simp only [Act.put,pa,pb,pc,pd,pe,pf])
 refine tkI (i:=1) (v:=?_) rfl ?_ ?_
 rotate_left
 · intro w hSw;(try dsimp only at hSw);go_simp;try with_reducible rfl
 (try simp only [Act.put,pa,pb,pc,pd,pe,pf])
 refine tkI (i:=2) (v:=?_) rfl ?_ ?_
 rotate_left
 · intro w hSw;(try dsimp only at hSw);go_simp;try with_reducible rfl
 (try simp only [Act.put,pa,pb,pc,pd,pe,pf])
 refine tkI (i:=3) (v:=?_) rfl ?_ ?_
 rotate_left
 · intro w hSw;(try dsimp only at hSw);go_simp;try with_reducible rfl
 (try simp only [Act.put,pa,pb,pc,pd,pe,pf])
 refine tkI (i:=4) (v:=?_) rfl ?_ ?_
 rotate_left
 · intro w hSw;(try dsimp only at hSw);go_simp;try with_reducible rfl
 (try simp only [Act.put,pa,pb,pc,pd,pe,pf])
 refine tkI (i:=5) (v:=?_) rfl ?_ ?_
 rotate_left
 · intro w hSw;(try dsimp only at hSw);go_simp;try with_reducible rfl
 (try simp only [Act.put,pa,pb,pc,pd,pe,pf])
 refine wpAnyH_ready (rs:=[6]) (by kernel_rfl) (by simp) ?_
 refine AllReadyH.cons (o:=_) rfl (fun K hK=>?_) AllReadyH.nil
 go_simp
 refine (certain_any w0 _ nl nc ns p d HIH.out wd x0 (HW3.out.trans (hHeld.1.mono HW3.out.size)) HG0.out).mono ?_
 rintro e y1 ⟨⟨b,er,rfl,hr⟩,hb⟩
 have HRR:=Lib.hid hr
 clear hr
 refine hK.out _ _ ⟨hHeld.1.trans (hb.mono hHeld.1.size),keepb hb hHeld.2.1,keepb hb hHeld.2.2.1,keepb hb hHeld.2.2.2.1,keepb hb hHeld.2.2.2.2.1,keepb hb hHeld.2.2.2.2.2.1,keepb hb hHeld.2.2.2.2.2.2.1,keepb hb hHeld.2.2.2.2.2.2.2.1,keepb hb hHeld.2.2.2.2.2.2.2.2.1,keepb hb hHeld.2.2.2.2.2.2.2.2.2.1,keepb hb hHeld.2.2.2.2.2.2.2.2.2.2⟩ (fun hHeld=>?_)
 clear hK K hb
 (try simp only [Act.put,pa,pb,pc,pd,pe,pf])
 refine tkI (i:=7) (v:=?_) rfl ?_ ?_
 rotate_left
 · intro w hSw;(try dsimp only at hSw);go_simp;try with_reducible rfl
 (try simp only [Act.put,pa,pb,pc,pd,pe,pf])
 refine tkI (i:=8) (v:=?_) rfl ?_ ?_
 rotate_left
 · intro w hSw;(try dsimp only at hSw);go_simp;try with_reducible rfl
 (try simp only [Act.put,pa,pb,pc,pd,pe,pf])
 refine tkI (i:=9) (v:=?_) rfl ?_ ?_
 rotate_left
 · intro w hSw;(try dsimp only at hSw);go_simp;try with_reducible rfl
 (try simp only [Act.put,pa,pb,pc,pd,pe,pf])
 refine tkI (i:=10) (v:=?_) rfl ?_ ?_
 rotate_left
 · intro w hSw;(try dsimp only at hSw);go_simp;try with_reducible rfl
 (try simp only [Act.put,pa,pb,pc,pd,pe,pf])
 refine tkI (i:=11) (v:=?_) rfl ?_ ?_
 rotate_left
 · intro w hSw;(try dsimp only at hSw);go_simp;try with_reducible rfl
 (try simp only [Act.put,pa,pb,pc,pd,pe,pf])
 refine wpAnyH_done (by kernel_rfl) ?_ _
 go_upto_region 27 with (fail)
 obtain ⟨w4,hw4⟩:∃ w4,w4=y1:=⟨_,rfl⟩
 rw [← hw4] at hHeld ⊢
 clear hw4
 have hb4:=hHeld.1
 have H14:=Lib.hid ((hb4.block _ Z1).trans H1.out)
 have HB4:=Lib.hid (HB3.out.trans (hb4.mono (by omega)))
 have Z14:w.heap.size+1 < w4.heap.size:=by have:=hb4.size;omega
 have m0:=hHeld.2.1
 have m6:=hHeld.2.2.1
 have kd0:=hHeld.2.2.2.1
 have kd1:=hHeld.2.2.2.2.1
 have kd2:=hHeld.2.2.2.2.2.1
 have v0':=hHeld.2.2.2.2.2.2.1
 have v1':=hHeld.2.2.2.2.2.2.2.1
 have v2':=hHeld.2.2.2.2.2.2.2.2.1
 have v3':=hHeld.2.2.2.2.2.2.2.2.2.1
 have v4':=hHeld.2.2.2.2.2.2.2.2.2.2
 clear hHeld hb4
 cases he:(er != 0)
 rotate_left
 · have HS2:=Lib.hid (show nodeW (wK ns p.vw d) nd' p.vw=.error er∧er ≠ 0 by
    rcases HRR.out with ⟨-,h⟩ | ⟨h,h0⟩
    · rw [h] at he;cases he
    · exact ⟨by rw [HS.out,h],h0⟩)
   clear HRR
   obtain ⟨d0,d1,d2,d3,e0,e1,e2,e3⟩:=box4 H14.out
   go_wp2_with fail
   refine bodyPost_ret (res2c Tryz.results42 _ _ (w.heap.size+1) _ _ _ _ _ (heap_box H14.out _ _ _ _) rfl rfl) rfl ?_
   exact ⟨.err (z:=v0) rfl ⟨none,0,0,rfl,.inl (rz_nil1 w0)⟩ HS2.out.1 HS2.out.2,below_box (by omega) HB4.out _ _ _ _⟩
 have hez:er=0:=by simpa using he
 have HQ:=Lib.hid (show sureW (wK ns p.vw d x0)=.ok b by
  rcases HRR.out with ⟨h,-⟩ | ⟨-,h⟩
  · exact h
  · exact absurd hez h)
 subst hez
 clear he HRR
 cases b
 · have HS2:=Lib.hid (show nodeW (wK ns p.vw d) nd' p.vw=wK ns p.vw d x2 by rw [HS.out,HQ.out])
   clear HQ
   go_wp2_with fail
   refine wp_region_held_drew (S:=(fun w'=>Below w.heap.size w w'∧w'.cell? ⟨w.heap.size+2,0,none⟩=some (.int .i64 23)∧w'.cell? ⟨w.heap.size+2,6,none⟩=some (.slice (some ⟨kb,ko,none⟩) 3 nd'.kc)∧w'.cell? ⟨kb,ko,none⟩=some (.int .i64 x0)∧w'.cell? ⟨kb,ko+1,none⟩=some (.int .i64 x1)∧w'.cell? ⟨kb,ko+2,none⟩=some (.int .i64 x2)∧w'.cell? ⟨w.heap.size,0,none⟩=some (.slice p.va p.vl p.vc)∧w'.cell? ⟨w.heap.size,1,none⟩=some (.slice p.oa p.ol p.oc)∧w'.cell? ⟨w.heap.size,2,none⟩=some (.slice p.ra p.rl p.rc)∧w'.cell? ⟨w.heap.size,3,none⟩=some (.int .i64 p.clock)∧w'.cell? ⟨w.heap.size,4,none⟩=some (.int .i64 p.steps))) (by kernel_rfl) ⟨HB4.out.trans ((Below.refl w4.heap.size w4).drew.mono HB4.out.size),m0,m6,kd0,kd1,kd2,v0',v1',v2',v3',v4'⟩ (fun hHeld=>?_)
   clear m0 m6 kd0 kd1 kd2 v0' v1' v2' v3' v4'
   obtain ⟨wd,hwd⟩:∃ wd,wd=w4.drew:=⟨_,rfl⟩
   have H1D:=Lib.hid (show wd.heap[w.heap.size+1]?=some boxZ by rw [hwd];exact H14.out)
   rw [← hwd] at hHeld ⊢
   clear hwd
   refine tkI (i:=0) (v:=?_) rfl ?_ ?_
   rotate_left
   · intro w hSw;(try dsimp only at hSw);go_simp;try with_reducible rfl
   (try simp only [Act.put,pa,pb,pc,pd,pe,pf])
   refine tkI (i:=1) (v:=?_) rfl ?_ ?_
   rotate_left
   · intro w hSw;(try dsimp only at hSw);go_simp;try with_reducible rfl
   (try simp only [Act.put,pa,pb,pc,pd,pe,pf])
   refine tkI (i:=2) (v:=?_) rfl ?_ ?_
   rotate_left
   · intro w hSw;(try dsimp only at hSw);go_simp;try with_reducible rfl
   (try simp only [Act.put,pa,pb,pc,pd,pe,pf])
   refine tkI (i:=3) (v:=?_) rfl ?_ ?_
   rotate_left
   · intro w hSw;(try dsimp only at hSw);go_simp;try with_reducible rfl
   (try simp only [Act.put,pa,pb,pc,pd,pe,pf])
   refine tkI (i:=4) (v:=?_) rfl ?_ ?_
   rotate_left
   · intro w hSw;(try dsimp only at hSw);go_simp;try with_reducible rfl
   (try simp only [Act.put,pa,pb,pc,pd,pe,pf])
   refine tkI (i:=5) (v:=?_) rfl ?_ ?_
   rotate_left
   · intro w hSw;(try dsimp only at hSw);go_simp;try with_reducible rfl
   (try simp only [Act.put,pa,pb,pc,pd,pe,pf])
   refine wpAnyH_ready (rs:=[6]) (by kernel_rfl) (by simp) ?_
   refine AllReadyH.cons (o:=_) rfl (fun K hK=>?_) AllReadyH.nil
   go_simp
   refine (HIH.out wd x2 (HBW.out.trans (hHeld.1.mono hz0)) HG2.out).mono ?_
   rintro e y1 ⟨⟨v,z,er,rfl,⟨za,zl,zc,rfl,hrv⟩,hr⟩,hb⟩
   have HRR:=Lib.hid hr
   have HRV:=Lib.hid hrv
   have H11:=Lib.hid ((hb.block _ (Array.getElem?_eq_some_iff.1 H1D.out).1).trans H1D.out)
   have HWD:=Lib.hid hHeld.1.size
   clear hr hrv
   refine hK.out _ _ ⟨hHeld.1.trans (hb.mono hHeld.1.size),keepb hb hHeld.2.1,keepb hb hHeld.2.2.1,keepb hb hHeld.2.2.2.1,keepb hb hHeld.2.2.2.2.1,keepb hb hHeld.2.2.2.2.2.1,keepb hb hHeld.2.2.2.2.2.2.1,keepb hb hHeld.2.2.2.2.2.2.2.1,keepb hb hHeld.2.2.2.2.2.2.2.2.1,keepb hb hHeld.2.2.2.2.2.2.2.2.2.1,keepb hb hHeld.2.2.2.2.2.2.2.2.2.2⟩ (fun hHeld=>?_)
   clear hK K hb
   (try simp only [Act.put,pa,pb,pc,pd,pe,pf])
   refine tkI (i:=7) (v:=?_) rfl ?_ ?_
   rotate_left
   · intro w hSw;(try dsimp only at hSw);go_simp;try with_reducible rfl
   (try simp only [Act.put,pa,pb,pc,pd,pe,pf])
   refine tkI (i:=8) (v:=?_) rfl ?_ ?_
   rotate_left
   · intro w hSw;(try dsimp only at hSw);go_simp;try with_reducible rfl
   (try simp only [Act.put,pa,pb,pc,pd,pe,pf])
   obtain ⟨d0,d1,d2,d3,f0,f1,f2,f3⟩:=box4 H11.out
   have hne2:w.heap.size+2 ≠ w.heap.size+1:=by omega
   have hne0:w.heap.size ≠ w.heap.size+1:=by omega
   have hnek:kb ≠ w.heap.size+1:=by omega
   refine wpAnyH_ready (rs:=[9]) (by kernel_rfl) (by simp) ?_
   refine AllReadyH.cons (o:=_) rfl (fun K hK=>?_) AllReadyH.nil
   go_simp
   refine hK.out _ _ ⟨below_box (by omega) hHeld.1 _ _ _ _,keepo hHeld.2.1 hne2,keepo hHeld.2.2.1 hne2,keepo hHeld.2.2.2.1 hnek,keepo hHeld.2.2.2.2.1 hnek,keepo hHeld.2.2.2.2.2.1 hnek,keepo hHeld.2.2.2.2.2.2.1 hne0,keepo hHeld.2.2.2.2.2.2.2.1 hne0,keepo hHeld.2.2.2.2.2.2.2.2.1 hne0,keepo hHeld.2.2.2.2.2.2.2.2.2.1 hne0,keepo hHeld.2.2.2.2.2.2.2.2.2.2 hne0⟩ (fun hHeld=>?_)
   clear hK K d0 d1 d2 d3 f0 f1 f2 f3
   (try simp only [Act.put,pa,pb,pc,pd,pe,pf])
   refine tkI (i:=10) (v:=?_) rfl ?_ ?_
   rotate_left
   · intro w hSw;(try dsimp only at hSw);go_simp;try with_reducible rfl
   (try simp only [Act.put,pa,pb,pc,pd,pe,pf])
   refine wpAnyH_done (by kernel_rfl) ?_ _
   go_wp2_with fail
   refine bodyPost_ret (res2c Tryz.results42 _ _ (w.heap.size+1) _ _ _ _ _ (heap_box H11.out _ _ _ _) rfl rfl) rfl ?_
   have hrv2:RV w0 _ w.heap.size (VA z za zl zc) z:=⟨za,zl,zc,rfl,HRV.out.imp id (fun h=>(SV.setbox h H11.out (by decide) (.int .i64 z.k) (.int .i64 z.n) (.string z.t) (.slice za zl zc)).mono HWD.out)⟩
   rcases HRR.out with ⟨h,h0⟩ | ⟨h,h0⟩
   · subst h0
     exact ⟨.ok (z:=z) rfl hrv2 (by rw [HS2.out,h]),hHeld.1⟩
   · exact ⟨.err (z:=z) rfl hrv2 (by rw [HS2.out,h]) h0,hHeld.1⟩
 · have HS2:=Lib.hid (show nodeW (wK ns p.vw d) nd' p.vw=wK ns p.vw d x1 by rw [HS.out,HQ.out])
   clear HQ
   go_wp2_with fail
   refine wp_region_held_drew (S:=(fun w'=>Below w.heap.size w w'∧w'.cell? ⟨w.heap.size+2,0,none⟩=some (.int .i64 23)∧w'.cell? ⟨w.heap.size+2,6,none⟩=some (.slice (some ⟨kb,ko,none⟩) 3 nd'.kc)∧w'.cell? ⟨kb,ko,none⟩=some (.int .i64 x0)∧w'.cell? ⟨kb,ko+1,none⟩=some (.int .i64 x1)∧w'.cell? ⟨kb,ko+2,none⟩=some (.int .i64 x2)∧w'.cell? ⟨w.heap.size,0,none⟩=some (.slice p.va p.vl p.vc)∧w'.cell? ⟨w.heap.size,1,none⟩=some (.slice p.oa p.ol p.oc)∧w'.cell? ⟨w.heap.size,2,none⟩=some (.slice p.ra p.rl p.rc)∧w'.cell? ⟨w.heap.size,3,none⟩=some (.int .i64 p.clock)∧w'.cell? ⟨w.heap.size,4,none⟩=some (.int .i64 p.steps))) (by kernel_rfl) ⟨HB4.out.trans ((Below.refl w4.heap.size w4).drew.mono HB4.out.size),m0,m6,kd0,kd1,kd2,v0',v1',v2',v3',v4'⟩ (fun hHeld=>?_)
   clear m0 m6 kd0 kd1 kd2 v0' v1' v2' v3' v4'
   obtain ⟨wd,hwd⟩:∃ wd,wd=w4.drew:=⟨_,rfl⟩
   have H1D:=Lib.hid (show wd.heap[w.heap.size+1]?=some boxZ by rw [hwd];exact H14.out)
   rw [← hwd] at hHeld ⊢
   clear hwd
   refine tkI (i:=0) (v:=?_) rfl ?_ ?_
   rotate_left
   · intro w hSw;(try dsimp only at hSw);go_simp;try with_reducible rfl
   (try simp only [Act.put,pa,pb,pc,pd,pe,pf])
   refine tkI (i:=1) (v:=?_) rfl ?_ ?_
   rotate_left
   · intro w hSw;(try dsimp only at hSw);go_simp;try with_reducible rfl
   (try simp only [Act.put,pa,pb,pc,pd,pe,pf])
   refine tkI (i:=2) (v:=?_) rfl ?_ ?_
   rotate_left
   · intro w hSw;(try dsimp only at hSw);go_simp;try with_reducible rfl
   (try simp only [Act.put,pa,pb,pc,pd,pe,pf])
   refine tkI (i:=3) (v:=?_) rfl ?_ ?_
   rotate_left
   · intro w hSw;(try dsimp only at hSw);go_simp;try with_reducible rfl
   (try simp only [Act.put,pa,pb,pc,pd,pe,pf])
   refine tkI (i:=4) (v:=?_) rfl ?_ ?_
   rotate_left
   · intro w hSw;(try dsimp only at hSw);go_simp;try with_reducible rfl
   (try simp only [Act.put,pa,pb,pc,pd,pe,pf])
   refine tkI (i:=5) (v:=?_) rfl ?_ ?_
   rotate_left
   · intro w hSw;(try dsimp only at hSw);go_simp;try with_reducible rfl
   (try simp only [Act.put,pa,pb,pc,pd,pe,pf])
   refine wpAnyH_ready (rs:=[6]) (by kernel_rfl) (by simp) ?_
   refine AllReadyH.cons (o:=_) rfl (fun K hK=>?_) AllReadyH.nil
   go_simp
   refine (HIH.out wd x1 (HBW.out.trans (hHeld.1.mono hz0)) HG1.out).mono ?_
   rintro e y1 ⟨⟨v,z,er,rfl,⟨za,zl,zc,rfl,hrv⟩,hr⟩,hb⟩
   have HRR:=Lib.hid hr
   have HRV:=Lib.hid hrv
   have H11:=Lib.hid ((hb.block _ (Array.getElem?_eq_some_iff.1 H1D.out).1).trans H1D.out)
   have HWD:=Lib.hid hHeld.1.size
   clear hr hrv
   refine hK.out _ _ ⟨hHeld.1.trans (hb.mono hHeld.1.size),keepb hb hHeld.2.1,keepb hb hHeld.2.2.1,keepb hb hHeld.2.2.2.1,keepb hb hHeld.2.2.2.2.1,keepb hb hHeld.2.2.2.2.2.1,keepb hb hHeld.2.2.2.2.2.2.1,keepb hb hHeld.2.2.2.2.2.2.2.1,keepb hb hHeld.2.2.2.2.2.2.2.2.1,keepb hb hHeld.2.2.2.2.2.2.2.2.2.1,keepb hb hHeld.2.2.2.2.2.2.2.2.2.2⟩ (fun hHeld=>?_)
   clear hK K hb
   (try simp only [Act.put,pa,pb,pc,pd,pe,pf])
   refine tkI (i:=7) (v:=?_) rfl ?_ ?_
   rotate_left
   · intro w hSw;(try dsimp only at hSw);go_simp;try with_reducible rfl
   (try simp only [Act.put,pa,pb,pc,pd,pe,pf])
   refine tkI (i:=8) (v:=?_) rfl ?_ ?_
   rotate_left
   · intro w hSw;(try dsimp only at hSw);go_simp;try with_reducible rfl
   (try simp only [Act.put,pa,pb,pc,pd,pe,pf])
   obtain ⟨d0,d1,d2,d3,f0,f1,f2,f3⟩:=box4 H11.out
   have hne2:w.heap.size+2 ≠ w.heap.size+1:=by omega
   have hne0:w.heap.size ≠ w.heap.size+1:=by omega
   have hnek:kb ≠ w.heap.size+1:=by omega
   refine wpAnyH_ready (rs:=[9]) (by kernel_rfl) (by simp) ?_
   refine AllReadyH.cons (o:=_) rfl (fun K hK=>?_) AllReadyH.nil
   go_simp
   refine hK.out _ _ ⟨below_box (by omega) hHeld.1 _ _ _ _,keepo hHeld.2.1 hne2,keepo hHeld.2.2.1 hne2,keepo hHeld.2.2.2.1 hnek,keepo hHeld.2.2.2.2.1 hnek,keepo hHeld.2.2.2.2.2.1 hnek,keepo hHeld.2.2.2.2.2.2.1 hne0,keepo hHeld.2.2.2.2.2.2.2.1 hne0,keepo hHeld.2.2.2.2.2.2.2.2.1 hne0,keepo hHeld.2.2.2.2.2.2.2.2.2.1 hne0,keepo hHeld.2.2.2.2.2.2.2.2.2.2 hne0⟩ (fun hHeld=>?_)
   clear hK K d0 d1 d2 d3 f0 f1 f2 f3
   (try simp only [Act.put,pa,pb,pc,pd,pe,pf])
   refine tkI (i:=10) (v:=?_) rfl ?_ ?_
   rotate_left
   · intro w hSw;(try dsimp only at hSw);go_simp;try with_reducible rfl
   (try simp only [Act.put,pa,pb,pc,pd,pe,pf])
   refine wpAnyH_done (by kernel_rfl) ?_ _
   go_wp2_with fail
   refine bodyPost_ret (res2c Tryz.results42 _ _ (w.heap.size+1) _ _ _ _ _ (heap_box H11.out _ _ _ _) rfl rfl) rfl ?_
   have hrv2:RV w0 _ w.heap.size (VA z za zl zc) z:=⟨za,zl,zc,rfl,HRV.out.imp id (fun h=>(SV.setbox h H11.out (by decide) (.int .i64 z.k) (.int .i64 z.n) (.string z.t) (.slice za zl zc)).mono HWD.out)⟩
   rcases HRR.out with ⟨h,h0⟩ | ⟨h,h0⟩
   · subst h0
     exact ⟨.ok (z:=z) rfl hrv2 (by rw [HS2.out,h]),hHeld.1⟩
   · exact ⟨.err (z:=z) rfl hrv2 (by rw [HS2.out,h]) h0,hHeld.1⟩
end Go.Proofs.YtcnckjlmldnblaaGreatDoor
