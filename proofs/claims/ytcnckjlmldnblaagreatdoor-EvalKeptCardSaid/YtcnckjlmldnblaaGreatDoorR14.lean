import Derived.Test.YtcnckjlmldnblaaGreatDoorR10
import Derived.BigGuardPart
import Derived.IntWalk
import Derived.Handy
import Derived.OrdersHeld
import Derived.Deep.RegionHeld3
import Derived.WalkLawsBesides
namespace Go.Proofs.YtcnckjlmldnblaaGreatDoor
open Go Go.RowKit
open List renaming setIfInBounds_toArray → pa, set_cons_zero → pb, set_cons_succ → pc, getElem_toArray → pd, getElem_cons_succ → pe, getElem_cons_zero → pf
set_option maxRecDepth 100000
set_option maxHeartbeats 4000000
set_option linter.unusedVariables false
set_option linter.unusedSimpArgs false
theorem r_default (w0:World) (na:Option Addr) (nl nc:Nat) (ns:List Nd) (p:Pd) (d:Nat) (IH:RefAt w0 na nl nc ns p d) (hE:EnvR w0 na nl nc ns p) (hv:VwOk p.vw) (w:World) (hbw:Below w0.heap.size w0 w) (q:Nat) (nd:Nd) (hq:q < nl) (hnd:ns[q]?=some nd) (hright:nd.right=true) (hk:∀ k ∈ nd.ks,goodN ns d k) (hop:nd.op=33) :
 Calls Tryz.prog 42 #[.slice na nl nc,.int .i64 (q:Int),.agg p.cs] w fun e w'=>TogOut w0 w e w' (nodeW (wK ns p.vw d) nd p.vw)∧Below w.heap.size w w':=by
 obtain ⟨w2,hw2⟩:∃ w2,w2=(w.alloc (boxR p)).alloc boxZ:=⟨_,rfl⟩
 have g0:w2.heap[w.heap.size]?=some (boxR p):=by rw [hw2];exact heap_alloc2_old w _ _
 have g1:w2.heap[w.heap.size+1]?=some boxZ:=by rw [hw2];exact heap_alloc2_new w _ _
 have hb2:Below w.heap.size w w2:=by rw [hw2];exact bel2 _ _ _
 have z2:w2.heap.size=w.heap.size+2:=by rw [hw2];simp
 have hz0:=hbw.size
 have HNW:=Lib.hid (hE.n nd (List.mem_of_getElem? hnd))
 obtain ⟨nb,no,nd',rfl,hnd',hcl0⟩:=hE.r.at hq
 obtain rfl:nd'=nd:=by rw [hnd] at hnd';exact (Option.some.inj hnd').symm
 have hbw2:Below w0.heap.size w0 w2:=hbw.trans (hb2.mono hz0)
 have hcl:=fun j v hv=>(hbw2.cell (p:=⟨nb,no+q * 7+j,none⟩) (block_lt_of_cell (hcl0 j v hv))).trans (hcl0 j v hv)
 have n0:=hcl 0 _ rfl
 have n1:=hcl 1 _ rfl
 have n2:=hcl 2 _ rfl
 have n3:=hcl 3 _ rfl
 have n4:=hcl 4 _ rfl
 have n5:=hcl 5 _ rfl
 have n6:=hcl 6 _ rfl
 simp only [Nat.add_zero] at n0
 rw [hop] at n0
 have hqI:(q:Int) < (nl:Int):=by omega
 have hnl:=hE.r.2.1
 have hnc:=hE.r.2.2.1
 have HK:=Lib.hid hk
 have HE:=Lib.hid hE
 have HIH:=Lib.hid IH
 have HV:=Lib.hid hv
 have HR:=Lib.hid hright
 have G0:=Lib.hid g0
 have G1:=Lib.hid g1
 have HB2:=Lib.hid hb2
 have HOP:=Lib.hid hop
 have HND:=Lib.hid hnd
 have HBW:=Lib.hid hbw
 clear hk hE IH hv hright g0 g1 hb2 hnd hnd' hcl hcl0 hop hbw hbw2
 go_enter Tryz.func42,Tryz.ntmps42
 go_upto_region 1 with (fail)
 rw [← hw2]
 clear hw2
 go_upto_region 2 with (fail)
 obtain ⟨w3,hw3⟩:∃ w3,w3=w2.alloc (.cells (nodeV 33 nd'.nm nd'.vk nd'.vn nd'.vt nd'.sa nd'.sl nd'.sc nd'.ka nd'.kl nd'.kc) 56):=⟨_,rfl⟩
 have g3:w3.heap[w.heap.size+2]?=some (.cells (nodeV 33 nd'.nm nd'.vk nd'.vn nd'.vt nd'.sa nd'.sl nd'.sc nd'.ka nd'.kl nd'.kc) 56 (0,0)):=by rw [hw3,← z2];exact heap_alloc_new w2 _
 have hb3:Below w2.heap.size w2 w3:=by rw [hw3];exact bel1 _ _
 have z3:w3.heap.size=w.heap.size+3:=by rw [hw3];simp [z2]
 have h1':=(hb3.block _ (by omega)).trans G1.out
 have h0':=(hb3.block _ (by omega)).trans G0.out
 obtain ⟨wx,hwx⟩:∃ wx,wx=w2.heap.size:=⟨_,rfl⟩
 rw [← hw3]
 obtain ⟨c0,c1,c2,c3,f0,f1,f2,f3⟩:=box4 h1'
 have H1:=Lib.hid h1'
 have H0:=Lib.hid h0'
 have G3:=Lib.hid g3
 have HB3:=Lib.hid (HB2.out.trans (hb3.mono (by omega)))
 have HW3:=Lib.hid (HBW.out.trans (HB3.out.mono hz0))
 have v0':=cell_of_row _ _ 0 _ _ _ h0'
 have v1':=cell_of_row _ _ 1 _ _ _ h0'
 have v2':=cell_of_row _ _ 2 _ _ _ h0'
 have v3':=cell_of_row _ _ 3 _ _ _ h0'
 have v4':=cell_of_row _ _ 4 _ _ _ h0'
 have m0:=cell_of_row _ _ 0 _ _ _ g3
 have m1:=cell_of_row _ _ 1 _ _ _ g3
 have m2:=cell_of_row _ _ 2 _ _ _ g3
 have m3:=cell_of_row _ _ 3 _ _ _ g3
 have m4:=cell_of_row _ _ 4 _ _ _ g3
 have m5:=cell_of_row _ _ 5 _ _ _ g3
 have m6:=cell_of_row _ _ 6 _ _ _ g3
 simp only [nodeV,List.getElem?_toArray,List.getElem?_cons_zero,List.getElem?_cons_succ] at v0' v1' v2' v3' v4' m0 m1 m2 m3 m4 m5 m6
 have Z0:w.heap.size < w3.heap.size:=by omega
 have Z1:w.heap.size+1 < w3.heap.size:=by omega
 have Z3:w.heap.size+2 < w3.heap.size:=by omega
 clear h1' h0' g3 hb3 hw3 n0 n1 n2 n3 n4 n5 n6 z2 z3 hwx
 have hkl:nd'.kl=2:=by
  have h:=(right_cases HR.out).1
  rw [HOP.out] at h
  simp [kidsN] at h
  omega
 have hkr:=HNW.out.ok.1
 obtain ⟨kb,ko,x0,hka,hx0,-⟩:=hkr.at (show 0 < nd'.kl by omega)
 obtain ⟨kb1,ko1,x1,-,hx1,-⟩:=hkr.at (show 1 < nd'.kl by omega)
 have HKA:=Lib.hid hka
 have HKR:=hkr.below HW3.out
 rw [hka] at HKR m6
 rw [hkl] at m6
 have kd0:w3.cell? ⟨kb,ko,none⟩=some (.int .i64 x0):=by have:=RS.atR HKR hx0 0 _ rfl;simpa using this
 have HG0:=Lib.hid (HK.out x0 (List.mem_of_getElem? hx0))
 have kd1:w3.cell? ⟨kb,ko+1,none⟩=some (.int .i64 x1):=by have:=RS.atR HKR hx1 0 _ rfl;simpa using this
 have HG1:=Lib.hid (HK.out x1 (List.mem_of_getElem? hx1))
 clear hkl hkr hka HKR m1 m2 m3 m4 m5
 have hkbw:kb < w.heap.size:=by have h9:kb < w0.heap.size:=block_lt_of_cell (RS.atR (show RS 1 Iv w0 (some ⟨kb,ko,none⟩) nd'.kl nd'.kc nd'.ks from by rw [← HKA.out];exact HNW.out.ok.1) hx0 0 _ rfl);omega
 have HS:=Lib.hid (node_default (f:=wK ns p.vw d) (v:=p.vw) HOP.out hx0 hx1)
 clear hx0 hx1 c0 c1 c2 c3 f0 f1 f2 f3
 go_wp2_with fail
 refine wp_region_held_drew (S:=(fun w'=>Below w3.heap.size w3 w'∧w'.cell? ⟨w.heap.size+2,0,none⟩=some (.int .i64 33)∧w'.cell? ⟨w.heap.size+2,6,none⟩=some (.slice (some ⟨kb,ko,none⟩) 2 nd'.kc)∧w'.cell? ⟨kb,ko,none⟩=some (.int .i64 x0)∧w'.cell? ⟨kb,ko+1,none⟩=some (.int .i64 x1)∧w'.cell? ⟨w.heap.size,0,none⟩=some (.slice p.va p.vl p.vc)∧w'.cell? ⟨w.heap.size,1,none⟩=some (.slice p.oa p.ol p.oc)∧w'.cell? ⟨w.heap.size,2,none⟩=some (.slice p.ra p.rl p.rc)∧w'.cell? ⟨w.heap.size,3,none⟩=some (.int .i64 p.clock)∧w'.cell? ⟨w.heap.size,4,none⟩=some (.int .i64 p.steps))) (by kernel_rfl) ⟨(Below.refl _ _).drew,m0,m6,kd0,kd1,v0',v1',v2',v3',v4'⟩ (fun hHeld=>?_)
 clear m0 m6 kd0 kd1 v0' v1' v2' v3' v4'
 obtain ⟨wd,hwd⟩:∃ wd,wd=w3.drew:=⟨_,rfl⟩
 have HZD:=Lib.hid (show w.heap.size+2 < wd.heap.size∧w3.heap.size≤wd.heap.size by rw [hwd];exact ⟨Z3,Nat.le_refl _⟩)
 rw [← hwd] at hHeld ⊢
 clear hwd
 refine tkI (i:=0) (v:=?_) rfl ?_ ?_
 rotate_left
 · intro w hSw;(try dsimp only at hSw);go_simp;try with_reducible rfl
 (try simp only [Act.put,pa,pb,pc,pd,pe,pf])
 refine tkI (i:=1) (v:=?_) rfl ?_ ?_
 rotate_left
 · intro w hSw;(try dsimp only at hSw);go_simp;try with_reducible rfl
 (try simp only [Act.put,pa,pb,pc,pd,pe,pf])
 refine tkI (i:=2) (v:=?_) rfl ?_ ?_
 rotate_left
 · intro w hSw;(try dsimp only at hSw);go_simp;try with_reducible rfl
 (try simp only [Act.put,pa,pb,pc,pd,pe,pf])
 refine tkI (i:=3) (v:=?_) rfl ?_ ?_
 rotate_left
 · intro w hSw;(try dsimp only at hSw);go_simp;try with_reducible rfl
 (try simp only [Act.put,pa,pb,pc,pd,pe,pf])
 refine tkI (i:=4) (v:=?_) rfl ?_ ?_
 rotate_left
 · intro w hSw;(try dsimp only at hSw);go_simp;try with_reducible rfl
 (try simp only [Act.put,pa,pb,pc,pd,pe,pf])
 refine tkI (i:=5) (v:=?_) rfl ?_ ?_
 rotate_left
 · intro w hSw;(try dsimp only at hSw);go_simp;try with_reducible rfl
 (try simp only [Act.put,pa,pb,pc,pd,pe,pf])
 refine wpAnyH_ready (rs:=[6,10]) (by kernel_rfl) (by simp) ?_
 refine AllReadyH.cons (o:=_) rfl (fun K hK=>?_) (AllReadyH.cons (o:=_) rfl (fun K hK=>?_) AllReadyH.nil)
 · go_simp
   refine (HIH.out wd x0 (HW3.out.trans (hHeld.1.mono HW3.out.size)) HG0.out).mono ?_
   rintro e y1 ⟨⟨v,z,er,rfl,⟨za,zl,zc,rfl,hrv⟩,hr⟩,hb⟩
   have HRR:=Lib.hid hr
   have HRV0:=Lib.hid (hrv.imp id (fun h=>h.mono (show w.heap.size≤wd.heap.size by have:=hHeld.1.size;omega)):RZ w0 za zl zc z.ss∨SV y1 w.heap.size (VA z za zl zc) z)
   have hyz:=hb.size
   refine hK.out _ _ ⟨hHeld.1.trans (hb.mono hHeld.1.size),keepb hb hHeld.2.1,keepb hb hHeld.2.2.1,keepb hb hHeld.2.2.2.1,keepb hb hHeld.2.2.2.2.1,keepb hb hHeld.2.2.2.2.2.1,keepb hb hHeld.2.2.2.2.2.2.1,keepb hb hHeld.2.2.2.2.2.2.2.1,keepb hb hHeld.2.2.2.2.2.2.2.2.1,keepb hb hHeld.2.2.2.2.2.2.2.2.2⟩ (fun hHeld=>?_)
   clear hK K hb hr hrv
   (try simp only [Act.put,pa,pb,pc,pd,pe,pf])
   refine tkI (i:=7) (v:=?_) rfl ?_ ?_
   rotate_left
   · intro w hSw;(try dsimp only at hSw);go_simp;try with_reducible rfl
   (try simp only [Act.put,pa,pb,pc,pd,pe,pf])
   refine tkI (i:=8) (v:=?_) rfl ?_ ?_
   rotate_left
   · intro w hSw;(try dsimp only at hSw);go_simp;try with_reducible rfl
   (try simp only [Act.put,pa,pb,pc,pd,pe,pf])
   refine tkI (i:=9) (v:=?_) rfl ?_ ?_
   rotate_left
   · intro w hSw;(try dsimp only at hSw);go_simp;try with_reducible rfl
   (try simp only [Act.put,pa,pb,pc,pd,pe,pf])
   refine wpAnyH_ready (rs:=[10]) (by kernel_rfl) (by simp) ?_
   refine AllReadyH.cons (o:=_) rfl (fun K hK=>?_) AllReadyH.nil
   go_simp
   have hbz:Below y1.heap.size y1 (y1.alloc boxZ):=bel1 _ _
   have gz:=heap_alloc_new y1 (.cells #[.int .i64 0,.int .i64 0,.string ByteArray.empty,.slice none 0 0] 43)
   refine hK.out _ _ ⟨hHeld.1.trans (hbz.mono hHeld.1.size),keepb hbz hHeld.2.1,keepb hbz hHeld.2.2.1,keepb hbz hHeld.2.2.2.1,keepb hbz hHeld.2.2.2.2.1,keepb hbz hHeld.2.2.2.2.2.1,keepb hbz hHeld.2.2.2.2.2.2.1,keepb hbz hHeld.2.2.2.2.2.2.2.1,keepb hbz hHeld.2.2.2.2.2.2.2.2.1,keepb hbz hHeld.2.2.2.2.2.2.2.2.2⟩ (fun hHeld=>?_)
   clear hK K
   (try simp only [Act.put,pa,pb,pc,pd,pe,pf])
   obtain ⟨y2,hy2⟩:∃ y2,y2=y1.alloc boxZ:=⟨_,rfl⟩
   rw [← hy2] at hHeld hbz
   rw [show y1.alloc (.cells #[.int .i64 0,.int .i64 0,.string ByteArray.empty,.slice none 0 0] 43)=y2 from hy2.symm] at gz
   rw [← hy2]
   have GZ:=Lib.hid gz
   have HRV:=Lib.hid (HRV0.out.imp (fun h=>h) (fun h=>h.below hbz))
   have hzd:=HZD.out.1
   have hzw:=HZD.out.2
   clear hbz gz hy2
   obtain ⟨d0,d1,d2,d3,f0,f1,f2,f3⟩:=box4 GZ.out
   have hne2:w.heap.size+2 ≠ y1.heap.size:=by omega
   have hne0:w.heap.size ≠ y1.heap.size:=by omega
   have hnek:kb ≠ y1.heap.size:=by omega
   refine wpAnyH_ready (rs:=[11]) (by kernel_rfl) (by simp) ?_
   refine AllReadyH.cons (o:=_) rfl (fun K hK=>?_) AllReadyH.nil
   go_simp
   refine hK.out _ _ ⟨below_box (by omega) hHeld.1 _ _ _ _,keepo hHeld.2.1 hne2,keepo hHeld.2.2.1 hne2,keepo hHeld.2.2.2.1 hnek,keepo hHeld.2.2.2.2.1 hnek,keepo hHeld.2.2.2.2.2.1 hne0,keepo hHeld.2.2.2.2.2.2.1 hne0,keepo hHeld.2.2.2.2.2.2.2.1 hne0,keepo hHeld.2.2.2.2.2.2.2.2.1 hne0,keepo hHeld.2.2.2.2.2.2.2.2.2 hne0⟩ (fun hHeld=>?_)
   clear hK K d0 d1 d2 d3 f0 f1 f2 f3
   (try simp only [Act.put,pa,pb,pc,pd,pe,pf])
   refine tkI (i:=12) (v:=?_) rfl ?_ ?_
   rotate_left
   · intro w hSw;(try dsimp only at hSw);go_simp;try with_reducible rfl
   (try simp only [Act.put,pa,pb,pc,pd,pe,pf])
   refine wpAnyH_done (by kernel_rfl) ?_ _
   go_upto_region 34 with (fail)
   have gx:=heap_box GZ.out (.int .i64 z.k) (.int .i64 z.n) (.string z.t) (.slice za zl zc)
   have hrv4:=HRV.out.imp (fun h=>h) (fun h=>SV.setbox h GZ.out (by decide) (.int .i64 z.k) (.int .i64 z.n) (.string z.t) (.slice za zl zc))
   obtain ⟨gb,hgb⟩:∃ gb,gb=y1.heap.size:=⟨_,rfl⟩
   obtain ⟨w4,hw4⟩:∃ w4,w4=((((y2.setCell ⟨y1.heap.size,0,none⟩ (.int .i64 z.k)).setCell ⟨y1.heap.size,1,none⟩ (.int .i64 z.n)).setCell ⟨y1.heap.size,2,none⟩ (.string z.t)).setCell ⟨y1.heap.size,3,none⟩ (.slice za zl zc)):=⟨_,rfl⟩
   rw [← hw4] at gx hHeld hrv4 ⊢
   rw [← hgb] at gx ⊢
   have hb4:=hHeld.1
   have H14:=Lib.hid ((hb4.block _ Z1).trans H1.out)
   have HB4:=Lib.hid (HB3.out.trans (hb4.mono (by omega)))
   have HRV4:=Lib.hid hrv4
   have m0:=hHeld.2.1
   have m6:=hHeld.2.2.1
   have kd0:=hHeld.2.2.2.1
   have kd1:=hHeld.2.2.2.2.1
   have v0':=hHeld.2.2.2.2.2.1
   have v1':=hHeld.2.2.2.2.2.2.1
   have v2':=hHeld.2.2.2.2.2.2.2.1
   have v3':=hHeld.2.2.2.2.2.2.2.2.1
   have v4':=hHeld.2.2.2.2.2.2.2.2.2
   clear hHeld hb4 hrv4 hw4 hgb HRV GZ HRV0
   obtain ⟨y0',y1',y2',y3',-⟩:=box4 gx
   clear gx
   cases he:(er != 0)
   rotate_left
   · have HS2:=Lib.hid (show nodeW (wK ns p.vw d) nd' p.vw=.error er∧er ≠ 0 by
      rcases HRR.out with ⟨-,h⟩ | ⟨h,h0⟩
      · rw [h] at he;cases he
      · exact ⟨by rw [HS.out,h],h0⟩)
     clear HRR
     obtain ⟨d0,d1,d2,d3,e0,e1,e2,e3⟩:=box4 H14.out
     go_wp2_with fail
     refine bodyPost_ret (res2c Tryz.results42 _ _ (w.heap.size+1) _ _ _ _ _ (heap_box H14.out _ _ _ _) rfl rfl) rfl ?_
     have hrv2:RV w0 _ w.heap.size (VA z za zl zc) z:=⟨za,zl,zc,rfl,HRV4.out.imp (fun h=>h) (fun h=>SV.setbox h H14.out (by decide) (.int .i64 z.k) (.int .i64 z.n) (.string z.t) (.slice za zl zc))⟩
     exact ⟨.err (z:=z) rfl hrv2 HS2.out.1 HS2.out.2,below_box (by omega) HB4.out _ _ _ _⟩
   have hez:er=0:=by simpa using he
   have HQ:=Lib.hid (show wK ns p.vw d x0=.ok z by
    rcases HRR.out with ⟨h,-⟩ | ⟨-,h⟩
    · exact h
    · exact absurd hez h)
   subst hez
   clear he HRR
   cases hz:(z.k != 0)
   · have HS2:=Lib.hid (show nodeW (wK ns p.vw d) nd' p.vw=wK ns p.vw d x1 by rw [HS.out,HQ.out];simp at hz;simp [hz])
     clear HQ
     go_wp2_with fail
     refine wp_region_held_drew (S:=(fun w'=>Below w.heap.size w w'∧w'.cell? ⟨w.heap.size+2,0,none⟩=some (.int .i64 33)∧w'.cell? ⟨w.heap.size+2,6,none⟩=some (.slice (some ⟨kb,ko,none⟩) 2 nd'.kc)∧w'.cell? ⟨kb,ko,none⟩=some (.int .i64 x0)∧w'.cell? ⟨kb,ko+1,none⟩=some (.int .i64 x1)∧w'.cell? ⟨w.heap.size,0,none⟩=some (.slice p.va p.vl p.vc)∧w'.cell? ⟨w.heap.size,1,none⟩=some (.slice p.oa p.ol p.oc)∧w'.cell? ⟨w.heap.size,2,none⟩=some (.slice p.ra p.rl p.rc)∧w'.cell? ⟨w.heap.size,3,none⟩=some (.int .i64 p.clock)∧w'.cell? ⟨w.heap.size,4,none⟩=some (.int .i64 p.steps))) (by kernel_rfl) ⟨HB4.out.trans ((Below.refl w4.heap.size w4).drew.mono HB4.out.size),m0,m6,kd0,kd1,v0',v1',v2',v3',v4'⟩ (fun hHeld=>?_)
     clear m0 m6 kd0 kd1 v0' v1' v2' v3' v4'
     obtain ⟨wd,hwd⟩:∃ wd,wd=w4.drew:=⟨_,rfl⟩
     have H1D:=Lib.hid (show wd.heap[w.heap.size+1]?=some boxZ by rw [hwd];exact H14.out)
     rw [← hwd] at hHeld ⊢
     clear hwd
     refine tkI (i:=0) (v:=?_) rfl ?_ ?_
     rotate_left
     · intro w hSw;(try dsimp only at hSw);go_simp;try with_reducible rfl
     (try simp only [Act.put,pa,pb,pc,pd,pe,pf])
     refine tkI (i:=1) (v:=?_) rfl ?_ ?_
     rotate_left
     · intro w hSw;(try dsimp only at hSw);go_simp;try with_reducible rfl
     (try simp only [Act.put,pa,pb,pc,pd,pe,pf])
     refine tkI (i:=2) (v:=?_) rfl ?_ ?_
     rotate_left
     · intro w hSw;(try dsimp only at hSw);go_simp;try with_reducible rfl
     (try simp only [Act.put,pa,pb,pc,pd,pe,pf])
     refine tkI (i:=3) (v:=?_) rfl ?_ ?_
     rotate_left
     · intro w hSw;(try dsimp only at hSw);go_simp;try with_reducible rfl
     (try simp only [Act.put,pa,pb,pc,pd,pe,pf])
     refine tkI (i:=4) (v:=?_) rfl ?_ ?_
     rotate_left
     · intro w hSw;(try dsimp only at hSw);go_simp;try with_reducible rfl
     (try simp only [Act.put,pa,pb,pc,pd,pe,pf])
     refine tkI (i:=5) (v:=?_) rfl ?_ ?_
     rotate_left
     · intro w hSw;(try dsimp only at hSw);go_simp;try with_reducible rfl
     (try simp only [Act.put,pa,pb,pc,pd,pe,pf])
     refine wpAnyH_ready (rs:=[6]) (by kernel_rfl) (by simp) ?_
     refine AllReadyH.cons (o:=_) rfl (fun K hK=>?_) AllReadyH.nil
     go_simp
     refine (HIH.out wd x1 (HBW.out.trans (hHeld.1.mono hz0)) HG1.out).mono ?_
     rintro e y1 ⟨⟨v,z,er,rfl,⟨za,zl,zc,rfl,hrv⟩,hr⟩,hb⟩
     have HRR:=Lib.hid hr
     have HRV:=Lib.hid hrv
     have H11:=Lib.hid ((hb.block _ (Array.getElem?_eq_some_iff.1 H1D.out).1).trans H1D.out)
     have HWD:=Lib.hid hHeld.1.size
     clear hr hrv
     refine hK.out _ _ ⟨hHeld.1.trans (hb.mono hHeld.1.size),keepb hb hHeld.2.1,keepb hb hHeld.2.2.1,keepb hb hHeld.2.2.2.1,keepb hb hHeld.2.2.2.2.1,keepb hb hHeld.2.2.2.2.2.1,keepb hb hHeld.2.2.2.2.2.2.1,keepb hb hHeld.2.2.2.2.2.2.2.1,keepb hb hHeld.2.2.2.2.2.2.2.2.1,keepb hb hHeld.2.2.2.2.2.2.2.2.2⟩ (fun hHeld=>?_)
     clear hK K hb
     (try simp only [Act.put,pa,pb,pc,pd,pe,pf])
     refine tkI (i:=7) (v:=?_) rfl ?_ ?_
     rotate_left
     · intro w hSw;(try dsimp only at hSw);go_simp;try with_reducible rfl
     (try simp only [Act.put,pa,pb,pc,pd,pe,pf])
     refine tkI (i:=8) (v:=?_) rfl ?_ ?_
     rotate_left
     · intro w hSw;(try dsimp only at hSw);go_simp;try with_reducible rfl
     (try simp only [Act.put,pa,pb,pc,pd,pe,pf])
     obtain ⟨d0,d1,d2,d3,f0,f1,f2,f3⟩:=box4 H11.out
     have hne2:w.heap.size+2 ≠ w.heap.size+1:=by omega
     have hne0:w.heap.size ≠ w.heap.size+1:=by omega
     have hnek:kb ≠ w.heap.size+1:=by omega
     refine wpAnyH_ready (rs:=[9]) (by kernel_rfl) (by simp) ?_
     refine AllReadyH.cons (o:=_) rfl (fun K hK=>?_) AllReadyH.nil
     go_simp
     refine hK.out _ _ ⟨below_box (by omega) hHeld.1 _ _ _ _,keepo hHeld.2.1 hne2,keepo hHeld.2.2.1 hne2,keepo hHeld.2.2.2.1 hnek,keepo hHeld.2.2.2.2.1 hnek,keepo hHeld.2.2.2.2.2.1 hne0,keepo hHeld.2.2.2.2.2.2.1 hne0,keepo hHeld.2.2.2.2.2.2.2.1 hne0,keepo hHeld.2.2.2.2.2.2.2.2.1 hne0,keepo hHeld.2.2.2.2.2.2.2.2.2 hne0⟩ (fun hHeld=>?_)
     clear hK K d0 d1 d2 d3 f0 f1 f2 f3
     (try simp only [Act.put,pa,pb,pc,pd,pe,pf])
     refine tkI (i:=10) (v:=?_) rfl ?_ ?_
     rotate_left
     · intro w hSw;(try dsimp only at hSw);go_simp;try with_reducible rfl
     (try simp only [Act.put,pa,pb,pc,pd,pe,pf])
     refine wpAnyH_done (by kernel_rfl) ?_ _
     go_wp2_with fail
     refine bodyPost_ret (res2c Tryz.results42 _ _ (w.heap.size+1) _ _ _ _ _ (heap_box H11.out _ _ _ _) rfl rfl) rfl ?_
     have hrv2:RV w0 _ w.heap.size (VA z za zl zc) z:=⟨za,zl,zc,rfl,HRV.out.imp id (fun h=>(SV.setbox h H11.out (by decide) (.int .i64 z.k) (.int .i64 z.n) (.string z.t) (.slice za zl zc)).mono HWD.out)⟩
     rcases HRR.out with ⟨h,h0⟩ | ⟨h,h0⟩
     · subst h0
       exact ⟨.ok (z:=z) rfl hrv2 (by rw [HS2.out,h]),hHeld.1⟩
     · exact ⟨.err (z:=z) rfl hrv2 (by rw [HS2.out,h]) h0,hHeld.1⟩
   · have HS2:=Lib.hid (show nodeW (wK ns p.vw d) nd' p.vw=.ok z by rw [HS.out,HQ.out];simp at hz;simp [hz])
     obtain ⟨d0,d1,d2,d3,e0,e1,e2,e3⟩:=box4 H14.out
     go_wp2_with fail
     refine bodyPost_ret (res2c Tryz.results42 _ _ (w.heap.size+1) _ _ _ _ _ (heap_box H14.out _ _ _ _) rfl rfl) rfl ?_
     have hrv2:RV w0 _ w.heap.size (VA z za zl zc) z:=⟨za,zl,zc,rfl,HRV4.out.imp (fun h=>h) (fun h=>SV.setbox h H14.out (by decide) (.int .i64 z.k) (.int .i64 z.n) (.string z.t) (.slice za zl zc))⟩
     exact ⟨.ok (z:=z) rfl hrv2 HS2.out,below_box (by omega) HB4.out _ _ _ _⟩
 · go_simp
   have hbz:Below wd.heap.size wd (wd.alloc boxZ):=bel1 _ _
   have gz:=heap_alloc_new wd (.cells #[.int .i64 0,.int .i64 0,.string ByteArray.empty,.slice none 0 0] 43)
   refine hK.out _ _ ⟨hHeld.1.trans (hbz.mono hHeld.1.size),keepb hbz hHeld.2.1,keepb hbz hHeld.2.2.1,keepb hbz hHeld.2.2.2.1,keepb hbz hHeld.2.2.2.2.1,keepb hbz hHeld.2.2.2.2.2.1,keepb hbz hHeld.2.2.2.2.2.2.1,keepb hbz hHeld.2.2.2.2.2.2.2.1,keepb hbz hHeld.2.2.2.2.2.2.2.2.1,keepb hbz hHeld.2.2.2.2.2.2.2.2.2⟩ (fun hHeld=>?_)
   clear hK K
   (try simp only [Act.put,pa,pb,pc,pd,pe,pf])
   obtain ⟨y0,hy0⟩:∃ y0,y0=wd.alloc boxZ:=⟨_,rfl⟩
   rw [← hy0] at hHeld hbz
   rw [show wd.alloc (.cells #[.int .i64 0,.int .i64 0,.string ByteArray.empty,.slice none 0 0] 43)=y0 from hy0.symm] at gz
   rw [← hy0]
   have G0Z:=Lib.hid gz
   have hzd:=HZD.out.1
   have hzw:=HZD.out.2
   clear hbz gz hy0
   refine wpAnyH_ready (rs:=[6]) (by kernel_rfl) (by simp) ?_
   refine AllReadyH.cons (o:=_) rfl (fun K hK=>?_) AllReadyH.nil
   go_simp
   refine (HIH.out y0 x0 (HW3.out.trans (hHeld.1.mono HW3.out.size)) HG0.out).mono ?_
   rintro e y1 ⟨⟨v,z,er,rfl,⟨za,zl,zc,rfl,hrv⟩,hr⟩,hb⟩
   have HRR:=Lib.hid hr
   have HRV0:=Lib.hid (hrv.imp id (fun h=>h.mono (show w.heap.size≤y0.heap.size by have:=hHeld.1.size;omega)):RZ w0 za zl zc z.ss∨SV y1 w.heap.size (VA z za zl zc) z)
   have GZ:=Lib.hid ((hb.block _ (Array.getElem?_eq_some_iff.1 G0Z.out).1).trans G0Z.out)
   refine hK.out _ _ ⟨hHeld.1.trans (hb.mono hHeld.1.size),keepb hb hHeld.2.1,keepb hb hHeld.2.2.1,keepb hb hHeld.2.2.2.1,keepb hb hHeld.2.2.2.2.1,keepb hb hHeld.2.2.2.2.2.1,keepb hb hHeld.2.2.2.2.2.2.1,keepb hb hHeld.2.2.2.2.2.2.2.1,keepb hb hHeld.2.2.2.2.2.2.2.2.1,keepb hb hHeld.2.2.2.2.2.2.2.2.2⟩ (fun hHeld=>?_)
   clear hK K hb hr hrv
   (try simp only [Act.put,pa,pb,pc,pd,pe,pf])
   have HRV:=HRV0
   refine tkI (i:=7) (v:=?_) rfl ?_ ?_
   rotate_left
   · intro w hSw;(try dsimp only at hSw);go_simp;try with_reducible rfl
   (try simp only [Act.put,pa,pb,pc,pd,pe,pf])
   refine tkI (i:=8) (v:=?_) rfl ?_ ?_
   rotate_left
   · intro w hSw;(try dsimp only at hSw);go_simp;try with_reducible rfl
   (try simp only [Act.put,pa,pb,pc,pd,pe,pf])
   refine tkI (i:=9) (v:=?_) rfl ?_ ?_
   rotate_left
   · intro w hSw;(try dsimp only at hSw);go_simp;try with_reducible rfl
   (try simp only [Act.put,pa,pb,pc,pd,pe,pf])
   obtain ⟨d0,d1,d2,d3,f0,f1,f2,f3⟩:=box4 GZ.out
   have hne2:w.heap.size+2 ≠ wd.heap.size:=by omega
   have hne0:w.heap.size ≠ wd.heap.size:=by omega
   have hnek:kb ≠ wd.heap.size:=by omega
   refine wpAnyH_ready (rs:=[11]) (by kernel_rfl) (by simp) ?_
   refine AllReadyH.cons (o:=_) rfl (fun K hK=>?_) AllReadyH.nil
   go_simp
   refine hK.out _ _ ⟨below_box (by omega) hHeld.1 _ _ _ _,keepo hHeld.2.1 hne2,keepo hHeld.2.2.1 hne2,keepo hHeld.2.2.2.1 hnek,keepo hHeld.2.2.2.2.1 hnek,keepo hHeld.2.2.2.2.2.1 hne0,keepo hHeld.2.2.2.2.2.2.1 hne0,keepo hHeld.2.2.2.2.2.2.2.1 hne0,keepo hHeld.2.2.2.2.2.2.2.2.1 hne0,keepo hHeld.2.2.2.2.2.2.2.2.2 hne0⟩ (fun hHeld=>?_)
   clear hK K d0 d1 d2 d3 f0 f1 f2 f3
   (try simp only [Act.put,pa,pb,pc,pd,pe,pf])
   refine tkI (i:=12) (v:=?_) rfl ?_ ?_
   rotate_left
   · intro w hSw;(try dsimp only at hSw);go_simp;try with_reducible rfl
   (try simp only [Act.put,pa,pb,pc,pd,pe,pf])
   refine wpAnyH_done (by kernel_rfl) ?_ _
   go_upto_region 34 with (fail)
   have gx:=heap_box GZ.out (.int .i64 z.k) (.int .i64 z.n) (.string z.t) (.slice za zl zc)
   have hrv4:=HRV.out.imp (fun h=>h) (fun h=>SV.setbox h GZ.out (by decide) (.int .i64 z.k) (.int .i64 z.n) (.string z.t) (.slice za zl zc))
   obtain ⟨gb,hgb⟩:∃ gb,gb=wd.heap.size:=⟨_,rfl⟩
   obtain ⟨w4,hw4⟩:∃ w4,w4=((((y1.setCell ⟨wd.heap.size,0,none⟩ (.int .i64 z.k)).setCell ⟨wd.heap.size,1,none⟩ (.int .i64 z.n)).setCell ⟨wd.heap.size,2,none⟩ (.string z.t)).setCell ⟨wd.heap.size,3,none⟩ (.slice za zl zc)):=⟨_,rfl⟩
   rw [← hw4] at gx hHeld hrv4 ⊢
   rw [← hgb] at gx ⊢
   have hb4:=hHeld.1
   have H14:=Lib.hid ((hb4.block _ Z1).trans H1.out)
   have HB4:=Lib.hid (HB3.out.trans (hb4.mono (by omega)))
   have HRV4:=Lib.hid hrv4
   have m0:=hHeld.2.1
   have m6:=hHeld.2.2.1
   have kd0:=hHeld.2.2.2.1
   have kd1:=hHeld.2.2.2.2.1
   have v0':=hHeld.2.2.2.2.2.1
   have v1':=hHeld.2.2.2.2.2.2.1
   have v2':=hHeld.2.2.2.2.2.2.2.1
   have v3':=hHeld.2.2.2.2.2.2.2.2.1
   have v4':=hHeld.2.2.2.2.2.2.2.2.2
   clear hHeld hb4 hrv4 hw4 hgb HRV GZ HRV0
   obtain ⟨y0',y1',y2',y3',-⟩:=box4 gx
   clear gx
   cases he:(er != 0)
   rotate_left
   · have HS2:=Lib.hid (show nodeW (wK ns p.vw d) nd' p.vw=.error er∧er ≠ 0 by
      rcases HRR.out with ⟨-,h⟩ | ⟨h,h0⟩
      · rw [h] at he;cases he
      · exact ⟨by rw [HS.out,h],h0⟩)
     clear HRR
     obtain ⟨d0,d1,d2,d3,e0,e1,e2,e3⟩:=box4 H14.out
     go_wp2_with fail
     refine bodyPost_ret (res2c Tryz.results42 _ _ (w.heap.size+1) _ _ _ _ _ (heap_box H14.out _ _ _ _) rfl rfl) rfl ?_
     have hrv2:RV w0 _ w.heap.size (VA z za zl zc) z:=⟨za,zl,zc,rfl,HRV4.out.imp (fun h=>h) (fun h=>SV.setbox h H14.out (by decide) (.int .i64 z.k) (.int .i64 z.n) (.string z.t) (.slice za zl zc))⟩
     exact ⟨.err (z:=z) rfl hrv2 HS2.out.1 HS2.out.2,below_box (by omega) HB4.out _ _ _ _⟩
   have hez:er=0:=by simpa using he
   have HQ:=Lib.hid (show wK ns p.vw d x0=.ok z by
    rcases HRR.out with ⟨h,-⟩ | ⟨-,h⟩
    · exact h
    · exact absurd hez h)
   subst hez
   clear he HRR
   cases hz:(z.k != 0)
   · have HS2:=Lib.hid (show nodeW (wK ns p.vw d) nd' p.vw=wK ns p.vw d x1 by rw [HS.out,HQ.out];simp at hz;simp [hz])
     clear HQ
     go_wp2_with fail
     refine wp_region_held_drew (S:=(fun w'=>Below w.heap.size w w'∧w'.cell? ⟨w.heap.size+2,0,none⟩=some (.int .i64 33)∧w'.cell? ⟨w.heap.size+2,6,none⟩=some (.slice (some ⟨kb,ko,none⟩) 2 nd'.kc)∧w'.cell? ⟨kb,ko,none⟩=some (.int .i64 x0)∧w'.cell? ⟨kb,ko+1,none⟩=some (.int .i64 x1)∧w'.cell? ⟨w.heap.size,0,none⟩=some (.slice p.va p.vl p.vc)∧w'.cell? ⟨w.heap.size,1,none⟩=some (.slice p.oa p.ol p.oc)∧w'.cell? ⟨w.heap.size,2,none⟩=some (.slice p.ra p.rl p.rc)∧w'.cell? ⟨w.heap.size,3,none⟩=some (.int .i64 p.clock)∧w'.cell? ⟨w.heap.size,4,none⟩=some (.int .i64 p.steps))) (by kernel_rfl) ⟨HB4.out.trans ((Below.refl w4.heap.size w4).drew.mono HB4.out.size),m0,m6,kd0,kd1,v0',v1',v2',v3',v4'⟩ (fun hHeld=>?_)
     clear m0 m6 kd0 kd1 v0' v1' v2' v3' v4'
     obtain ⟨wd,hwd⟩:∃ wd,wd=w4.drew:=⟨_,rfl⟩
     have H1D:=Lib.hid (show wd.heap[w.heap.size+1]?=some boxZ by rw [hwd];exact H14.out)
     rw [← hwd] at hHeld ⊢
     clear hwd
     refine tkI (i:=0) (v:=?_) rfl ?_ ?_
     rotate_left
     · intro w hSw;(try dsimp only at hSw);go_simp;try with_reducible rfl
     (try simp only [Act.put,pa,pb,pc,pd,pe,pf])
     refine tkI (i:=1) (v:=?_) rfl ?_ ?_
     rotate_left
     · intro w hSw;(try dsimp only at hSw);go_simp;try with_reducible rfl
     (try simp only [Act.put,pa,pb,pc,pd,pe,pf])
     refine tkI (i:=2) (v:=?_) rfl ?_ ?_
     rotate_left
     · intro w hSw;(try dsimp only at hSw);go_simp;try with_reducible rfl
     (try simp only [Act.put,pa,pb,pc,pd,pe,pf])
     refine tkI (i:=3) (v:=?_) rfl ?_ ?_
     rotate_left
     · intro w hSw;(try dsimp only at hSw);go_simp;try with_reducible rfl
     (try simp only [Act.put,pa,pb,pc,pd,pe,pf])
     refine tkI (i:=4) (v:=?_) rfl ?_ ?_
     rotate_left
     · intro w hSw;(try dsimp only at hSw);go_simp;try with_reducible rfl
     (try simp only [Act.put,pa,pb,pc,pd,pe,pf])
     refine tkI (i:=5) (v:=?_) rfl ?_ ?_
     rotate_left
     · intro w hSw;(try dsimp only at hSw);go_simp;try with_reducible rfl
     (try simp only [Act.put,pa,pb,pc,pd,pe,pf])
     refine wpAnyH_ready (rs:=[6]) (by kernel_rfl) (by simp) ?_
     refine AllReadyH.cons (o:=_) rfl (fun K hK=>?_) AllReadyH.nil
     go_simp
     refine (HIH.out wd x1 (HBW.out.trans (hHeld.1.mono hz0)) HG1.out).mono ?_
     rintro e y1 ⟨⟨v,z,er,rfl,⟨za,zl,zc,rfl,hrv⟩,hr⟩,hb⟩
     have HRR:=Lib.hid hr
     have HRV:=Lib.hid hrv
     have H11:=Lib.hid ((hb.block _ (Array.getElem?_eq_some_iff.1 H1D.out).1).trans H1D.out)
     have HWD:=Lib.hid hHeld.1.size
     clear hr hrv
     refine hK.out _ _ ⟨hHeld.1.trans (hb.mono hHeld.1.size),keepb hb hHeld.2.1,keepb hb hHeld.2.2.1,keepb hb hHeld.2.2.2.1,keepb hb hHeld.2.2.2.2.1,keepb hb hHeld.2.2.2.2.2.1,keepb hb hHeld.2.2.2.2.2.2.1,keepb hb hHeld.2.2.2.2.2.2.2.1,keepb hb hHeld.2.2.2.2.2.2.2.2.1,keepb hb hHeld.2.2.2.2.2.2.2.2.2⟩ (fun hHeld=>?_)
     clear hK K hb
     (try simp only [Act.put,pa,pb,pc,pd,pe,pf])
     refine tkI (i:=7) (v:=?_) rfl ?_ ?_
     rotate_left
     · intro w hSw;(try dsimp only at hSw);go_simp;try with_reducible rfl
     (try simp only [Act.put,pa,pb,pc,pd,pe,pf])
     refine tkI (i:=8) (v:=?_) rfl ?_ ?_
     rotate_left
     · intro w hSw;(try dsimp only at hSw);go_simp;try with_reducible rfl
     (try simp only [Act.put,pa,pb,pc,pd,pe,pf])
     obtain ⟨d0,d1,d2,d3,f0,f1,f2,f3⟩:=box4 H11.out
     have hne2:w.heap.size+2 ≠ w.heap.size+1:=by omega
     have hne0:w.heap.size ≠ w.heap.size+1:=by omega
     have hnek:kb ≠ w.heap.size+1:=by omega
     refine wpAnyH_ready (rs:=[9]) (by kernel_rfl) (by simp) ?_
     refine AllReadyH.cons (o:=_) rfl (fun K hK=>?_) AllReadyH.nil
     go_simp
     refine hK.out _ _ ⟨below_box (by omega) hHeld.1 _ _ _ _,keepo hHeld.2.1 hne2,keepo hHeld.2.2.1 hne2,keepo hHeld.2.2.2.1 hnek,keepo hHeld.2.2.2.2.1 hnek,keepo hHeld.2.2.2.2.2.1 hne0,keepo hHeld.2.2.2.2.2.2.1 hne0,keepo hHeld.2.2.2.2.2.2.2.1 hne0,keepo hHeld.2.2.2.2.2.2.2.2.1 hne0,keepo hHeld.2.2.2.2.2.2.2.2.2 hne0⟩ (fun hHeld=>?_)
     clear hK K d0 d1 d2 d3 f0 f1 f2 f3
     (try simp only [Act.put,pa,pb,pc,pd,pe,pf])
     refine tkI (i:=10) (v:=?_) rfl ?_ ?_
     rotate_left
     · intro w hSw;(try dsimp only at hSw);go_simp;try with_reducible rfl
     (try simp only [Act.put,pa,pb,pc,pd,pe,pf])
     refine wpAnyH_done (by kernel_rfl) ?_ _
     go_wp2_with fail
     refine bodyPost_ret (res2c Tryz.results42 _ _ (w.heap.size+1) _ _ _ _ _ (heap_box H11.out _ _ _ _) rfl rfl) rfl ?_
     have hrv2:RV w0 _ w.heap.size (VA z za zl zc) z:=⟨za,zl,zc,rfl,HRV.out.imp id (fun h=>(SV.setbox h H11.out (by decide) (.int .i64 z.k) (.int .i64 z.n) (.string z.t) (.slice za zl zc)).mono HWD.out)⟩
     rcases HRR.out with ⟨h,h0⟩ | ⟨h,h0⟩
     · subst h0
       exact ⟨.ok (z:=z) rfl hrv2 (by rw [HS2.out,h]),hHeld.1⟩
     · exact ⟨.err (z:=z) rfl hrv2 (by rw [HS2.out,h]) h0,hHeld.1⟩
   · have HS2:=Lib.hid (show nodeW (wK ns p.vw d) nd' p.vw=.ok z by rw [HS.out,HQ.out];simp at hz;simp [hz])
     obtain ⟨d0,d1,d2,d3,e0,e1,e2,e3⟩:=box4 H14.out
     go_wp2_with fail
     refine bodyPost_ret (res2c Tryz.results42 _ _ (w.heap.size+1) _ _ _ _ _ (heap_box H14.out _ _ _ _) rfl rfl) rfl ?_
     have hrv2:RV w0 _ w.heap.size (VA z za zl zc) z:=⟨za,zl,zc,rfl,HRV4.out.imp (fun h=>h) (fun h=>SV.setbox h H14.out (by decide) (.int .i64 z.k) (.int .i64 z.n) (.string z.t) (.slice za zl zc))⟩
     exact ⟨.ok (z:=z) rfl hrv2 HS2.out,below_box (by omega) HB4.out _ _ _ _⟩
end Go.Proofs.YtcnckjlmldnblaaGreatDoor
