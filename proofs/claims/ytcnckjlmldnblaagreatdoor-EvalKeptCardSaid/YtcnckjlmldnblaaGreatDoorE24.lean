import Derived.Test.YtcnckjlmldnblaaGreatDoorE23
import Derived.Handy
import Derived.Deep.DeepCutAuto
namespace Go.Proofs.YtcnckjlmldnblaaGreatDoor
open Go Go.RowKit
open List renaming setIfInBounds_toArray → pa, set_cons_zero → pb, set_cons_succ → pc, getElem_toArray → pd, getElem_cons_succ → pe, getElem_cons_zero → pf
set_option maxRecDepth 100000
set_option maxHeartbeats 4000000
set_option linter.unusedVariables false
set_option linter.unusedSimpArgs false
theorem w_equal11 (na:Option Addr) (nl nc:Nat) (ns:List Nd) (p:Pd) (d:Nat) (IH:WorthAt na nl nc ns p d) (w:World) (q:Nat) (nd:Nd) (hq:q < nl) (hnd:ns[q]?=some nd) (hright:nd.right=true) (hk:∀ k ∈ nd.ks,goodN ns d k) (hE:EnvW w na nl nc ns p) (hv:VwOk p.vw) (hn:∀ x ∈ ns,x.ks.length=x.kl∧I64 x.vn) (hop:nd.op=11) :
 Calls Tryz.prog 29 #[WorkV na nl nc p,.int .i64 (q:Int)] w fun e w'=>MOut e w' w.heap.size (nodeW (wK ns p.vw d) nd p.vw)∧Below w.heap.size w w':=by
 obtain ⟨w2,hw2⟩:∃ w2,w2=(w.alloc (boxW na nl nc p)).alloc boxZ:=⟨_,rfl⟩
 have g0:w2.heap[w.heap.size]?=some (boxW na nl nc p):=by rw [hw2];exact heap_alloc2_old w _ _
 have g1:w2.heap[w.heap.size+1]?=some boxZ:=by rw [hw2];exact heap_alloc2_new w _ _
 have hb2:Below w.heap.size w w2:=by rw [hw2];exact bel2 _ _ _
 have z2:w2.heap.size=w.heap.size+2:=by rw [hw2];simp
 have hkr:=(hE.n nd (List.mem_of_getElem? hnd)).ok.1
 obtain ⟨nb,no,nd',rfl,hnd',hcl0⟩:=hE.r.at hq
 obtain rfl:nd'=nd:=by rw [hnd] at hnd';exact (Option.some.inj hnd').symm
 obtain ⟨op,nm,vk,vn,vt,sa,sl,sc,ka,kl,kc,ks⟩:=nd'
 obtain rfl:op=11:=hop
 obtain rfl:kl=2:=by
  have h:=(right_cases hright).1
  simp [kidsN] at h
  omega
 have hcl:=fun j v hv=>(hb2.cell (p:=⟨nb,no+q * 7+j,none⟩) (block_lt_of_cell (hcl0 j v hv))).trans (hcl0 j v hv)
 obtain ⟨kb,ko,x0,hka,hx0,hc0⟩:=hkr.at (show 0 < 2 by omega)
 subst hka
 have kc0:=(hb2.cell (p:=⟨kb,ko+0 * 1+0,none⟩) (block_lt_of_cell (hc0 0 _ rfl))).trans (hc0 0 (.int .i64 x0) rfl)
 have hkb:kb < w.heap.size:=block_lt_of_cell (hc0 0 _ rfl)
 obtain ⟨kb1,ko1,x1,he1,hx1,hc1⟩:=hkr.at (show 1 < 2 by omega)
 simp only [Option.some.injEq,Addr.mk.injEq,and_true] at he1
 obtain ⟨rfl,rfl⟩:=he1
 have kc1:=(hb2.cell (p:=⟨kb,ko+1 * 1+0,none⟩) (block_lt_of_cell (hc1 0 _ rfl))).trans (hc1 0 (.int .i64 x1) rfl)
 have n0:=hcl 0 (.int .i64 11) rfl
 have n1:=hcl 1 (.string nm) rfl
 have n2:=hcl 2 (.int .i64 vk) rfl
 have n3:=hcl 3 (.int .i64 vn) rfl
 have n4:=hcl 4 (.string vt) rfl
 have n5:=hcl 5 (.slice sa sl sc) rfl
 have n6:=hcl 6 (.slice (some ⟨kb,ko,none⟩) 2 kc) rfl
 simp only [Nat.add_zero] at n0
 simp only [Nat.add_zero,Nat.zero_mul,Nat.one_mul,Nat.reduceMul] at kc0 kc1
 have hqI:(q:Int) < (nl:Int):=by omega
 have hnl:=hE.r.2.1
 have hnc:=hE.r.2.2.1
 have p0:=cell_of_row w2 _ 0 _ _ _ g0
 simp only [List.getElem?_toArray,List.getElem?_cons_zero] at p0
 have HK:=Lib.hid hk
 have HE:=Lib.hid hE
 have HIH:=Lib.hid IH
 have G0:=Lib.hid g0
 have G1:=Lib.hid g1
 have HB2:=Lib.hid hb2
 have HS:=Lib.hid (show nodeW (wK ns p.vw d) ⟨11,nm,vk,vn,vt,sa,sl,sc,some ⟨kb,ko,none⟩,2,kc,ks⟩ p.vw=_ from node_equal (.inl rfl) hx0 hx1)
 have HG0:=Lib.hid (HK.out x0 (List.mem_of_getElem? hx0))
 have HG1:=Lib.hid (HK.out x1 (List.mem_of_getElem? hx1))
 have HV:=Lib.hid hv
 have HN:=Lib.hid hn
 clear hk hE IH hv hn hright g0 g1 hb2 hnd hnd' hcl hcl0 hkr hx0 hx1 hc0 hc1
 go_enter Tryz.func29,Tryz.ntmps29
 go_upto_region 1 with (fail)
 rw [← hw2]
 clear hw2
 go_upto_region 2 with (fail)
 obtain ⟨w3,hw3⟩:∃ w3,w3=w2.alloc (.cells (nodeV 11 nm vk vn vt sa sl sc (some ⟨kb,ko,none⟩) 2 kc) 56):=⟨_,rfl⟩
 have g3:w3.heap[w.heap.size+2]?=some (.cells (nodeV 11 nm vk vn vt sa sl sc (some ⟨kb,ko,none⟩) 2 kc) 56 (0,0)):=by rw [hw3,← z2];exact heap_alloc_new w2 _
 have hb3:Below w2.heap.size w2 w3:=by rw [hw3];exact bel1 _ _
 have z3:w3.heap.size=w.heap.size+3:=by rw [hw3];simp [z2]
 rw [← hw3]
 have kd0:=keepb hb3 kc0
 have kd1:=keepb hb3 kc1
 have h1':=(hb3.block _ (by omega)).trans G1.out
 have h0':=(hb3.block _ (by omega)).trans G0.out
 obtain ⟨c0,c1,c2,c3,f0,f1,f2,f3⟩:=box4 h1'
 have H1:=Lib.hid h1'
 have H0:=Lib.hid h0'
 have G3:=Lib.hid g3
 have HB3:=Lib.hid (HB2.out.trans (hb3.mono (by omega)))
 have k0:=cell_of_row _ _ 0 _ _ _ h0'
 have k1:=cell_of_row _ _ 1 _ _ _ h0'
 have m0:=cell_of_row _ _ 0 _ _ _ g3
 have m6:=cell_of_row _ _ 6 _ _ _ g3
 simp only [nodeV,List.getElem?_toArray,List.getElem?_cons_zero,List.getElem?_cons_succ] at k0 k1 m0 m6
 have HE3:=Lib.hid (HE.out.below HB3.out)
 have Z3:w.heap.size+2 < w3.heap.size:=by omega
 clear h1' h0' g3 hb3 hw3 n0 n1 n2 n3 n4 n5 n6 p0 z2 z3 kc0 kc1
 go_wp2_with fail
 go_cut [7] (fun v wx=>BoxC w3 w3.heap.size (wK ns p.vw d x0) v wx)
 case first =>
  refine wp_region_held_drew (S:=(fun w'=>w'.cell? ⟨w.heap.size,0,none⟩=some (.slice (some ⟨nb,no,none⟩) nl nc)∧w'.cell? ⟨w.heap.size,1,none⟩=some (.iface 72 (.agg p.cs))∧w'.cell? ⟨w.heap.size+2,6,none⟩=some (.slice (some ⟨kb,ko,none⟩) 2 kc)∧w'.cell? ⟨kb,ko,none⟩=some (.int .i64 x0)∧w'.cell? ⟨kb,ko+1,none⟩=some (.int .i64 x1))) (by kernel_rfl) ⟨k0,k1,m6,kd0,kd1⟩ (fun hHeld=>?_)
  refine tkI (i:=0) (v:=?_) rfl ?_ ?_
  rotate_left
  · intro w hSw;(try dsimp only at hSw);go_simp;try with_reducible rfl
  (try simp only [Act.put,pa,pb,pc,pd,pe,pf])
  refine tkI (i:=1) (v:=?_) rfl ?_ ?_
  rotate_left
  · intro w hSw;(try dsimp only at hSw);go_simp;try with_reducible rfl
  (try simp only [Act.put,pa,pb,pc,pd,pe,pf])
  refine tkI (i:=2) (v:=?_) rfl ?_ ?_
  rotate_left
  · intro w hSw;(try dsimp only at hSw);go_simp;try with_reducible rfl
  (try simp only [Act.put,pa,pb,pc,pd,pe,pf])
  refine tkI (i:=3) (v:=?_) rfl ?_ ?_
  rotate_left
  · intro w hSw;(try dsimp only at hSw);go_simp;try with_reducible rfl
  (try simp only [Act.put,pa,pb,pc,pd,pe,pf])
  refine tkI (i:=4) (v:=?_) rfl ?_ ?_
  rotate_left
  · intro w hSw;(try dsimp only at hSw);go_simp;try with_reducible rfl
  (try simp only [Act.put,pa,pb,pc,pd,pe,pf])
  refine wpAnyH_ready (rs:=[5,6]) (by kernel_rfl) (by simp) ?_
  refine AllReadyH.cons (o:=_) rfl (fun K hK=>?_) (AllReadyH.cons (o:=_) rfl (fun K hK=>?_) AllReadyH.nil)
  · go_simp
    refine (HIH.out w3.drew x0 HG0.out (HE3.out.below (Below.refl _ _).drew)).mono ?_
    rintro e wa ⟨hm,hba⟩
    have HBA:=Lib.hid ((Below.refl _ _).drew.trans hba:Below w3.heap.size w3 wa)
    have zba:w3.heap.size≤wa.heap.size:=HBA.out.size
    rcases hm.cases with ⟨x,ra,rl,rc,hr,rfl,hs⟩ | ⟨er,hr,rfl⟩
    · have HRX:=Lib.hid hr
      have HSX:=Lib.hid hs
      clear hm hr hs
      refine hK.out _ _ ⟨keepb hba hHeld.1,keepb hba hHeld.2.1,keepb hba hHeld.2.2.1,keepb hba hHeld.2.2.2.1,keepb hba hHeld.2.2.2.2⟩ (fun hA=>?_)
      clear hK K
      (try simp only [Act.put,pa,pb,pc,pd,pe,pf])
      refine wpAnyH_ready (rs:=[6]) (by kernel_rfl) (by simp) ?_
      refine AllReadyH.cons (o:=_) rfl (fun K hK=>?_) AllReadyH.nil
      go_simp
      refine hK.out _ _ ⟨keepb (bel1 wa _) hA.1,keepb (bel1 wa _) hA.2.1,keepb (bel1 wa _) hA.2.2.1,keepb (bel1 wa _) hA.2.2.2.1,keepb (bel1 wa _) hA.2.2.2.2⟩ (fun hB=>?_)
      clear hK K
      (try simp only [Act.put,pa,pb,pc,pd,pe,pf])
      refine wpAnyH_ready (rs:=[7]) (by kernel_rfl) (by simp) ?_
      refine AllReadyH.cons (o:=_) rfl (fun K hK=>?_) AllReadyH.nil
      go_simp
      refine hK.out _ _ ⟨keepb (bel1 wa _) hA.1,keepb (bel1 wa _) hA.2.1,keepb (bel1 wa _) hA.2.2.1,keepb (bel1 wa _) hA.2.2.2.1,keepb (bel1 wa _) hA.2.2.2.2⟩ (fun hC=>?_)
      clear hK K
      (try simp only [Act.put,pa,pb,pc,pd,pe,pf])
      refine wpAnyH_done (by kernel_rfl) ?_ _
      go_wp2_with fail
      go_meet
      case rel=>exact ⟨wa.heap.size,x,ra,rl,rc,rfl,zba,HRX.out,heap_alloc_new wa _,(HSX.out.below (bel1 wa _)).mono (by show _≤w3.heap.size;omega),below_alloc_of HBA.out _⟩
    · have HRX:=Lib.hid hr
      clear hm hr
      exact ⟨rfl,.err (by have h:=HS.out;rw [HRX.out] at h;exact h),HB3.out.trans (HBA.out.mono (by omega))⟩
  · go_simp
    obtain ⟨wb,hwb⟩:∃ wb,wb=(w3.alloc boxZ).drew:=⟨_,rfl⟩
    have gB:wb.heap[w3.heap.size]?=some boxZ:=by rw [hwb];exact heap_alloc_new w3 _
    have hbb:Below w3.heap.size w3 wb:=by rw [hwb];exact (bel1 w3 _).drew
    have zbb:w3.heap.size < wb.heap.size:=by rw [hwb];show _ < (w3.alloc boxZ).heap.size;simp
    rw [← hwb]
    clear hwb
    refine hK.out _ _ ⟨keepb hbb k0,keepb hbb k1,keepb hbb m6,keepb hbb kd0,keepb hbb kd1⟩ (fun hA=>?_)
    clear hK K
    (try simp only [Act.put,pa,pb,pc,pd,pe,pf])
    refine wpAnyH_ready (rs:=[5]) (by kernel_rfl) (by simp) ?_
    refine AllReadyH.cons (o:=_) rfl (fun K hK=>?_) AllReadyH.nil
    go_simp
    refine (HIH.out wb x0 HG0.out (HE3.out.below hbb)).mono ?_
    rintro e wa ⟨hm,hba⟩
    have HBA:=Lib.hid (hbb.trans (hba.mono (by omega)))
    have zba:wb.heap.size≤wa.heap.size:=hba.size
    rcases hm.cases with ⟨x,ra,rl,rc,hr,rfl,hs⟩ | ⟨er,hr,rfl⟩
    · have HRX:=Lib.hid hr
      have HSX:=Lib.hid hs
      have gA:=(hba.block _ zbb).trans gB
      have HGA:=Lib.hid gA
      obtain ⟨c0,c1,c2,c3,f0,f1,f2,f3⟩:=box4 gA
      clear hm hr hs gA
      refine hK.out _ _ ⟨keepb hba hA.1,keepb hba hA.2.1,keepb hba hA.2.2.1,keepb hba hA.2.2.2.1,keepb hba hA.2.2.2.2⟩ (fun hB=>?_)
      clear hK K
      (try simp only [Act.put,pa,pb,pc,pd,pe,pf])
      refine wpAnyH_ready (rs:=[7]) (by kernel_rfl) (by simp) ?_
      refine AllReadyH.cons (o:=_) rfl (fun K hK=>?_) AllReadyH.nil
      go_simp
      refine hK.out _ _ ⟨keepq hB.1 (by omega),keepq hB.2.1 (by omega),keepq hB.2.2.1 (by omega),keepq hB.2.2.2.1 (by omega),keepq hB.2.2.2.2 (by omega)⟩ (fun hC=>?_)
      clear hK K
      (try simp only [Act.put,pa,pb,pc,pd,pe,pf])
      refine wpAnyH_done (by kernel_rfl) ?_ _
      go_wp2_with fail
      go_meet
      case rel=>exact ⟨w3.heap.size,x,ra,rl,rc,rfl,Nat.le_refl _,HRX.out,heap_box HGA.out _ _ _ _,(HSX.out.box zbb _ _ _ _).mono (by omega),below_box (Nat.le_refl _) HBA.out _ _ _ _⟩
    · have HRX:=Lib.hid hr
      clear hm hr
      exact ⟨rfl,.err (by have h:=HS.out;rw [HRX.out] at h;exact h),HB3.out.trans (HBA.out.mono (by omega))⟩
 case rest =>
  obtain ⟨g7,x,a7,l7,r7,rfl,hg7,hr,hblk,hs,hb⟩:=hcut
  obtain ⟨w7,hw7⟩:∃ w7,w7=wc:=⟨_,rfl⟩
  rw [← hw7] at hblk hs hb
  rw [← hw7]
  clear hw7
  have HR0:=Lib.hid hr
  have HSX:=Lib.hid hs
  have HK7:=Lib.hid hblk
  have z7:=hb.size
  have zg7:g7 < w7.heap.size:=(Array.getElem?_eq_some_iff.1 hblk).1
  have HB7:=Lib.hid (HB3.out.trans (hb.mono (by omega)))
  have HG7:=Lib.hid ((hb.block (w.heap.size+1) (by omega)).trans H1.out)
  have HE7:=Lib.hid (HE.out.below HB7.out)
  replace k0:=keepb hb k0
  replace k1:=keepb hb k1
  replace m0:=keepb hb m0
  replace m6:=keepb hb m6
  replace kd0:=keepb hb kd0
  replace kd1:=keepb hb kd1
  clear hr hs hblk hb c0 c1 c2 c3 f0 f1 f2 f3
  go_wp2_with fail
  go_cut [8] (fun v wx=>BoxC w7 w7.heap.size (wK ns p.vw d x1) v wx)
  case first =>
   refine wp_region_held_drew (S:=(fun w'=>w'.cell? ⟨w.heap.size,0,none⟩=some (.slice (some ⟨nb,no,none⟩) nl nc)∧w'.cell? ⟨w.heap.size,1,none⟩=some (.iface 72 (.agg p.cs))∧w'.cell? ⟨w.heap.size+2,6,none⟩=some (.slice (some ⟨kb,ko,none⟩) 2 kc)∧w'.cell? ⟨kb,ko,none⟩=some (.int .i64 x0)∧w'.cell? ⟨kb,ko+1,none⟩=some (.int .i64 x1))) (by kernel_rfl) ⟨k0,k1,m6,kd0,kd1⟩ (fun hHeld=>?_)
   refine tkI (i:=0) (v:=?_) rfl ?_ ?_
   rotate_left
   · intro w hSw;(try dsimp only at hSw);go_simp;try with_reducible rfl
   (try simp only [Act.put,pa,pb,pc,pd,pe,pf])
   refine tkI (i:=1) (v:=?_) rfl ?_ ?_
   rotate_left
   · intro w hSw;(try dsimp only at hSw);go_simp;try with_reducible rfl
   (try simp only [Act.put,pa,pb,pc,pd,pe,pf])
   refine tkI (i:=2) (v:=?_) rfl ?_ ?_
   rotate_left
   · intro w hSw;(try dsimp only at hSw);go_simp;try with_reducible rfl
   (try simp only [Act.put,pa,pb,pc,pd,pe,pf])
   refine tkI (i:=3) (v:=?_) rfl ?_ ?_
   rotate_left
   · intro w hSw;(try dsimp only at hSw);go_simp;try with_reducible rfl
   (try simp only [Act.put,pa,pb,pc,pd,pe,pf])
   refine tkI (i:=4) (v:=?_) rfl ?_ ?_
   rotate_left
   · intro w hSw;(try dsimp only at hSw);go_simp;try with_reducible rfl
   (try simp only [Act.put,pa,pb,pc,pd,pe,pf])
   refine wpAnyH_ready (rs:=[5,6]) (by kernel_rfl) (by simp) ?_
   refine AllReadyH.cons (o:=_) rfl (fun K hK=>?_) (AllReadyH.cons (o:=_) rfl (fun K hK=>?_) AllReadyH.nil)
   · go_simp
     refine (HIH.out w7.drew x1 HG1.out (HE7.out.below (Below.refl _ _).drew)).mono ?_
     rintro e wa ⟨hm,hba⟩
     have HBA:=Lib.hid ((Below.refl _ _).drew.trans hba:Below w7.heap.size w7 wa)
     have zba:w7.heap.size≤wa.heap.size:=HBA.out.size
     rcases hm.cases with ⟨x,ra,rl,rc,hr,rfl,hs⟩ | ⟨er,hr,rfl⟩
     · have HRX:=Lib.hid hr
       have HSX:=Lib.hid hs
       clear hm hr hs
       refine hK.out _ _ ⟨keepb hba hHeld.1,keepb hba hHeld.2.1,keepb hba hHeld.2.2.1,keepb hba hHeld.2.2.2.1,keepb hba hHeld.2.2.2.2⟩ (fun hA=>?_)
       clear hK K
       (try simp only [Act.put,pa,pb,pc,pd,pe,pf])
       refine wpAnyH_ready (rs:=[6]) (by kernel_rfl) (by simp) ?_
       refine AllReadyH.cons (o:=_) rfl (fun K hK=>?_) AllReadyH.nil
       go_simp
       refine hK.out _ _ ⟨keepb (bel1 wa _) hA.1,keepb (bel1 wa _) hA.2.1,keepb (bel1 wa _) hA.2.2.1,keepb (bel1 wa _) hA.2.2.2.1,keepb (bel1 wa _) hA.2.2.2.2⟩ (fun hB=>?_)
       clear hK K
       (try simp only [Act.put,pa,pb,pc,pd,pe,pf])
       refine wpAnyH_ready (rs:=[7]) (by kernel_rfl) (by simp) ?_
       refine AllReadyH.cons (o:=_) rfl (fun K hK=>?_) AllReadyH.nil
       go_simp
       refine hK.out _ _ ⟨keepb (bel1 wa _) hA.1,keepb (bel1 wa _) hA.2.1,keepb (bel1 wa _) hA.2.2.1,keepb (bel1 wa _) hA.2.2.2.1,keepb (bel1 wa _) hA.2.2.2.2⟩ (fun hC=>?_)
       clear hK K
       (try simp only [Act.put,pa,pb,pc,pd,pe,pf])
       refine wpAnyH_done (by kernel_rfl) ?_ _
       go_wp2_with fail
       go_meet
       case rel=>exact ⟨wa.heap.size,x,ra,rl,rc,rfl,zba,HRX.out,heap_alloc_new wa _,(HSX.out.below (bel1 wa _)).mono (by show _≤w7.heap.size;omega),below_alloc_of HBA.out _⟩
     · have HRX:=Lib.hid hr
       clear hm hr
       exact ⟨rfl,.err (by have h:=HS.out;rw [HR0.out] at h;exact h.trans (by rw [HRX.out])),HB7.out.trans (HBA.out.mono (by omega))⟩
   · go_simp
     obtain ⟨wb,hwb⟩:∃ wb,wb=(w7.alloc boxZ).drew:=⟨_,rfl⟩
     have gB:wb.heap[w7.heap.size]?=some boxZ:=by rw [hwb];exact heap_alloc_new w7 _
     have hbb:Below w7.heap.size w7 wb:=by rw [hwb];exact (bel1 w7 _).drew
     have zbb:w7.heap.size < wb.heap.size:=by rw [hwb];show _ < (w7.alloc boxZ).heap.size;simp
     rw [← hwb]
     clear hwb
     refine hK.out _ _ ⟨keepb hbb k0,keepb hbb k1,keepb hbb m6,keepb hbb kd0,keepb hbb kd1⟩ (fun hA=>?_)
     clear hK K
     (try simp only [Act.put,pa,pb,pc,pd,pe,pf])
     refine wpAnyH_ready (rs:=[5]) (by kernel_rfl) (by simp) ?_
     refine AllReadyH.cons (o:=_) rfl (fun K hK=>?_) AllReadyH.nil
     go_simp
     refine (HIH.out wb x1 HG1.out (HE7.out.below hbb)).mono ?_
     rintro e wa ⟨hm,hba⟩
     have HBA:=Lib.hid (hbb.trans (hba.mono (by omega)))
     have zba:wb.heap.size≤wa.heap.size:=hba.size
     rcases hm.cases with ⟨x,ra,rl,rc,hr,rfl,hs⟩ | ⟨er,hr,rfl⟩
     · have HRX:=Lib.hid hr
       have HSX:=Lib.hid hs
       have gA:=(hba.block _ zbb).trans gB
       have HGA:=Lib.hid gA
       obtain ⟨c0,c1,c2,c3,f0,f1,f2,f3⟩:=box4 gA
       clear hm hr hs gA
       refine hK.out _ _ ⟨keepb hba hA.1,keepb hba hA.2.1,keepb hba hA.2.2.1,keepb hba hA.2.2.2.1,keepb hba hA.2.2.2.2⟩ (fun hB=>?_)
       clear hK K
       (try simp only [Act.put,pa,pb,pc,pd,pe,pf])
       refine wpAnyH_ready (rs:=[7]) (by kernel_rfl) (by simp) ?_
       refine AllReadyH.cons (o:=_) rfl (fun K hK=>?_) AllReadyH.nil
       go_simp
       refine hK.out _ _ ⟨keepq hB.1 (by omega),keepq hB.2.1 (by omega),keepq hB.2.2.1 (by omega),keepq hB.2.2.2.1 (by omega),keepq hB.2.2.2.2 (by omega)⟩ (fun hC=>?_)
       clear hK K
       (try simp only [Act.put,pa,pb,pc,pd,pe,pf])
       refine wpAnyH_done (by kernel_rfl) ?_ _
       go_wp2_with fail
       go_meet
       case rel=>exact ⟨w7.heap.size,x,ra,rl,rc,rfl,Nat.le_refl _,HRX.out,heap_box HGA.out _ _ _ _,(HSX.out.box zbb _ _ _ _).mono (by omega),below_box (Nat.le_refl _) HBA.out _ _ _ _⟩
     · have HRX:=Lib.hid hr
       clear hm hr
       exact ⟨rfl,.err (by have h:=HS.out;rw [HR0.out] at h;exact h.trans (by rw [HRX.out])),HB7.out.trans (HBA.out.mono (by omega))⟩
  case rest =>
   obtain ⟨g8,y,a8,l8,r8,rfl,hg8,hr,hblk,hs,hb⟩:=hcut
   obtain ⟨w8,hw8⟩:∃ w8,w8=wc:=⟨_,rfl⟩
   rw [← hw8] at hblk hs hb
   rw [← hw8]
   clear hw8
   have HR1:=Lib.hid hr
   have z8:=hb.size
   have HB8:=Lib.hid (HB7.out.trans (hb.mono (by omega)))
   have HG8:=Lib.hid ((hb.block (w.heap.size+1) (by omega)).trans HG7.out)
   obtain ⟨p0,p1,p2,p3,-⟩:=box4 ((hb.block g7 (by omega)).trans HK7.out)
   obtain ⟨q0,q1,q2,q3,-⟩:=box4 hblk
   have HSX8:=Lib.hid (HSX.out.below hb)
   have HSY:=Lib.hid hs
   replace m0:=keepb hb m0
   have HXY:=Lib.hid (show nodeW (wK ns p.vw d) ⟨11,nm,vk,vn,vt,sa,sl,sc,some ⟨kb,ko,none⟩,2,kc,ks⟩ p.vw=equalW 11 x y by have h:=HS.out;rw [HR0.out,HR1.out] at h;exact h)
   have hlx:l7=x.ss.length:=by
    obtain ⟨a',l',c',e,hl,-⟩:=HSX.out
    simp only [VA,Value.agg.injEq,Array.mk.injEq,List.cons.injEq,Value.slice.injEq,true_and,and_true] at e
    obtain ⟨rfl,rfl,rfl⟩:=e
    exact hl
   have hly:l8=y.ss.length:=by
    obtain ⟨a',l',c',e,hl,-⟩:=hs
    simp only [VA,Value.agg.injEq,Array.mk.injEq,List.cons.injEq,Value.slice.injEq,true_and,and_true] at e
    obtain ⟨rfl,rfl,rfl⟩:=e
    exact hl
   have HRZX:=Lib.hid (HSX8.out.rz (by have:=(fit_wK HV.out HN.out d x0 HG0.out x HR0.out);have:=(right_parts this.r).2.2.2.2;omega))
   have HRZY:=Lib.hid (HSY.out.rz (by have:=(fit_wK HV.out HN.out d x1 HG1.out y HR1.out);have:=(right_parts this.r).2.2.2.2;omega))
   clear hr hs hblk hb k0 k1 m6 kd0 kd1 hlx hly
   go_upto_region 38 with (fail)
   go_cut [177] (fun v wx=>v=.bool (decide (x.k ≠ y.k∧x.k ≠ 0∧y.k ≠ 0))∧w8=wx)
   case first =>
    cases e1:(x.k != y.k)
    · go_wp2_with fail
      go_meet
      case rel=>exact ⟨congrArg Value.bool (by simp at e1;simp [e1]),rfl⟩
    · cases e2:(x.k != 0)
      · go_wp2_with fail
        go_meet
        case rel=>exact ⟨congrArg Value.bool (by simp at e2;simp [e2]),rfl⟩
      · cases e3:(y.k != 0)
        · go_wp2_with fail
          go_meet
          case rel=>exact ⟨congrArg Value.bool (by simp at e3;simp [e3]),rfl⟩
        · go_wp2_with fail
          go_meet
          case rel=>exact ⟨congrArg Value.bool (by simp at e1 e2 e3;simp [e1,e2,e3]),rfl⟩
   case rest =>
    obtain ⟨rfl,rfl⟩:=hcut
    cases hd:decide (x.k ≠ y.k∧x.k ≠ 0∧y.k ≠ 0)
    · have HC:=Lib.hid (of_decide_eq_false hd)
      clear hd
      go_wp2_with fail
      refine wp_region_held_drew (S:=(fun w'=>w'.cell? ⟨g7,0,none⟩=some (.int .i64 x.k)∧w'.cell? ⟨g7,1,none⟩=some (.int .i64 x.n)∧w'.cell? ⟨g7,2,none⟩=some (.string x.t)∧w'.cell? ⟨g7,3,none⟩=some (.slice a7 l7 r7)∧w'.cell? ⟨g8,0,none⟩=some (.int .i64 y.k)∧w'.cell? ⟨g8,1,none⟩=some (.int .i64 y.n)∧w'.cell? ⟨g8,2,none⟩=some (.string y.t)∧w'.cell? ⟨g8,3,none⟩=some (.slice a8 l8 r8)∧w'.cell? ⟨w.heap.size+2,0,none⟩=some (.int .i64 11))) (by kernel_rfl) ⟨p0,p1,p2,p3,q0,q1,q2,q3,m0⟩ (fun hHeld=>?_)
      refine tkI (i:=0) (v:=?_) rfl ?_ ?_
      rotate_left
      · intro w hSw;(try dsimp only at hSw);go_simp;try with_reducible rfl
      (try simp only [Act.put,pa,pb,pc,pd,pe,pf])
      refine tkI (i:=1) (v:=?_) rfl ?_ ?_
      rotate_left
      · intro w hSw;(try dsimp only at hSw);go_simp;try with_reducible rfl
      (try simp only [Act.put,pa,pb,pc,pd,pe,pf])
      refine tkI (i:=3) (v:=?_) rfl ?_ ?_
      rotate_left
      · intro w hSw;(try dsimp only at hSw);go_simp;try with_reducible rfl
      (try simp only [Act.put,pa,pb,pc,pd,pe,pf])
      refine tkI (i:=4) (v:=?_) rfl ?_ ?_
      rotate_left
      · intro w hSw;(try dsimp only at hSw);go_simp;try with_reducible rfl
      (try simp only [Act.put,pa,pb,pc,pd,pe,pf])
      refine tkI (i:=5) (v:=?_) rfl ?_ ?_
      rotate_left
      · intro w hSw;(try dsimp only at hSw);go_simp;try with_reducible rfl
      (try simp only [Act.put,pa,pb,pc,pd,pe,pf])
      refine wpAnyH_ready (rs:=[2]) (by kernel_rfl) (by simp) ?_
      refine AllReadyH.cons (o:=_) rfl (fun K hK=>?_) AllReadyH.nil
      go_simp
      refine (equal_any w8.drew x a7 l7 r7 (HRZX.out.below (Below.refl _ _).drew).rs y a8 l8 r8 (HRZY.out.below (Below.refl _ _).drew).rs).mono ?_
      rintro e w9 ⟨rfl,hb9⟩
      have z9:w8.heap.size≤w9.heap.size:=hb9.size
      have HB9:=Lib.hid (HB8.out.drew.trans (hb9.mono (by show w.heap.size≤w8.heap.size;omega)))
      have HG9:=Lib.hid ((hb9.block (w.heap.size+1) (by show _ < w8.heap.size;omega)).trans HG8.out)
      refine hK.out _ _ ⟨keepb hb9 hHeld.1,keepb hb9 hHeld.2.1,keepb hb9 hHeld.2.2.1,keepb hb9 hHeld.2.2.2.1,keepb hb9 hHeld.2.2.2.2.1,keepb hb9 hHeld.2.2.2.2.2.1,keepb hb9 hHeld.2.2.2.2.2.2.1,keepb hb9 hHeld.2.2.2.2.2.2.2.1,keepb hb9 hHeld.2.2.2.2.2.2.2.2⟩ (fun hHeld=>?_)
      clear hK K
      (try simp only [Act.put,pa,pb,pc,pd,pe,pf])
      clear hb9
      refine tkI (i:=6) (v:=?_) rfl ?_ ?_
      rotate_left
      · intro w hSw;(try dsimp only at hSw);go_simp;try with_reducible rfl
      (try simp only [Act.put,pa,pb,pc,pd,pe,pf])
      refine wpAnyH_ready (rs:=[7]) (by kernel_rfl) (by simp) ?_
      refine AllReadyH.cons (o:=_) rfl (fun K hK=>?_) AllReadyH.nil
      go_simp
      refine (truth_n w9 _).mono ?_
      rintro e w6 ⟨⟨rfl,hs6⟩,hb6⟩
      have HB6:=Lib.hid (HB9.out.trans (hb6.mono (by omega)))
      have HG6:=Lib.hid ((hb6.block (w.heap.size+1) (by omega)).trans HG9.out)
      refine hK.out _ _ ⟨keepb hb6 hHeld.1,keepb hb6 hHeld.2.1,keepb hb6 hHeld.2.2.1,keepb hb6 hHeld.2.2.2.1,keepb hb6 hHeld.2.2.2.2.1,keepb hb6 hHeld.2.2.2.2.2.1,keepb hb6 hHeld.2.2.2.2.2.2.1,keepb hb6 hHeld.2.2.2.2.2.2.2.1,keepb hb6 hHeld.2.2.2.2.2.2.2.2⟩ (fun hHeld=>?_)
      clear hK K
      (try simp only [Act.put,pa,pb,pc,pd,pe,pf])
      obtain ⟨c0,c1,c2,c3,f0,f1,f2,f3⟩:=box4 HG6.out
      clear hb6 hs6
      refine wpAnyH_ready (rs:=[8]) (by kernel_rfl) (by simp) ?_
      refine AllReadyH.cons (o:=_) rfl (fun K hK=>?_) AllReadyH.nil
      go_simp
      refine hK.out _ _ ⟨keepq hHeld.1 (by omega),keepq hHeld.2.1 (by omega),keepq hHeld.2.2.1 (by omega),keepq hHeld.2.2.2.1 (by omega),keepq hHeld.2.2.2.2.1 (by omega),keepq hHeld.2.2.2.2.2.1 (by omega),keepq hHeld.2.2.2.2.2.2.1 (by omega),keepq hHeld.2.2.2.2.2.2.2.1 (by omega),keepq hHeld.2.2.2.2.2.2.2.2 (by omega)⟩ (fun hHeld=>?_)
      clear hK K
      (try simp only [Act.put,pa,pb,pc,pd,pe,pf])
      refine wpAnyH_done (by kernel_rfl) ?_ _
      go_wp2_with fail
      refine retbox rfl (w1:=w6) HG6.out rfl ?_
      refine ⟨.ok (by rw [HXY.out];unfold equalW;rw [if_neg HC.out];first | simp | (cases eqV x y <;> rfl)) (sv_nil rfl),below_box (by omega) HB6.out _ _ _ _⟩
    · have HC:=Lib.hid (of_decide_eq_true hd)
      clear hd
      go_wp2_with (go_at_call 53;refine (refuse_any _ _).mono ?_;rintro e w' ⟨rfl,rfl⟩)
      exact ⟨rfl,.err (by rw [HXY.out];unfold equalW;rw [if_pos HC.out]),HB8.out⟩
end Go.Proofs.YtcnckjlmldnblaaGreatDoor
