import Derived.Test.YtcnckjlmldnblaaGreatDoorE20
import Derived.Handy
import Derived.Deep.DeepCutAuto
namespace Go.Proofs.YtcnckjlmldnblaaGreatDoor
open Go Go.RowKit
open List renaming setIfInBounds_toArray → pa, set_cons_zero → pb, set_cons_succ → pc, getElem_toArray → pd, getElem_cons_succ → pe, getElem_cons_zero → pf
set_option maxRecDepth 100000
set_option maxHeartbeats 4000000
set_option linter.unusedVariables false
set_option linter.unusedSimpArgs false
/-- A worth that stands in a box of its own. -/
def BoxC (w3:World) (B:Nat) (r:Wr) (v:Value) (wx:World):Prop:=∃ g x a l c,v=.pointer (some ⟨g,0,none⟩)∧w3.heap.size≤g∧r=.ok x∧wx.heap[g]?=some (.cells #[.int .i64 x.k,.int .i64 x.n,.string x.t,.slice a l c] 43 (0,0))∧SV wx B (VA x a l c) x∧Below w3.heap.size w3 wx
theorem below_alloc_of {w w':World} (hb:Below w.heap.size w w') (o:Obj):Below w.heap.size w (w'.alloc o):=hb.trans ((bel1 w' o).mono hb.size)
theorem w_default (na:Option Addr) (nl nc:Nat) (ns:List Nd) (p:Pd) (d:Nat) (IH:WorthAt na nl nc ns p d) (w:World) (q:Nat) (nd:Nd) (hq:q < nl) (hnd:ns[q]?=some nd) (hright:nd.right=true) (hk:∀ k ∈ nd.ks,goodN ns d k) (hE:EnvW w na nl nc ns p) (hv:VwOk p.vw) (hn:∀ x ∈ ns,x.ks.length=x.kl∧I64 x.vn) (hop:nd.op=33) :
 Calls Tryz.prog 29 #[WorkV na nl nc p,.int .i64 (q:Int)] w fun e w'=>MOut e w' w.heap.size (nodeW (wK ns p.vw d) nd p.vw)∧Below w.heap.size w w':=by
 obtain ⟨w2,hw2⟩:∃ w2,w2=(w.alloc (boxW na nl nc p)).alloc boxZ:=⟨_,rfl⟩
 have g0:w2.heap[w.heap.size]?=some (boxW na nl nc p):=by rw [hw2];exact heap_alloc2_old w _ _
 have g1:w2.heap[w.heap.size+1]?=some boxZ:=by rw [hw2];exact heap_alloc2_new w _ _
 have hb2:Below w.heap.size w w2:=by rw [hw2];exact bel2 _ _ _
 have z2:w2.heap.size=w.heap.size+2:=by rw [hw2];simp
 have hkr:=(hE.n nd (List.mem_of_getElem? hnd)).ok.1
 obtain ⟨nb,no,nd',rfl,hnd',hcl0⟩:=hE.r.at hq
 obtain rfl:nd'=nd:=by rw [hnd] at hnd';exact (Option.some.inj hnd').symm
 obtain ⟨op,nm,vk,vn,vt,sa,sl,sc,ka,kl,kc,ks⟩:=nd'
 obtain rfl:op=33:=hop
 obtain rfl:kl=2:=by
  have h:=(right_cases hright).1
  simp [kidsN] at h
  omega
 have hcl:=fun j v hv=>(hb2.cell (p:=⟨nb,no+q * 7+j,none⟩) (block_lt_of_cell (hcl0 j v hv))).trans (hcl0 j v hv)
 obtain ⟨kb,ko,x0,hka,hx0,hc0⟩:=hkr.at (show 0 < 2 by omega)
 subst hka
 have kc0:=(hb2.cell (p:=⟨kb,ko+0 * 1+0,none⟩) (block_lt_of_cell (hc0 0 _ rfl))).trans (hc0 0 (.int .i64 x0) rfl)
 have hkb:kb < w.heap.size:=block_lt_of_cell (hc0 0 _ rfl)
 obtain ⟨kb1,ko1,x1,he1,hx1,hc1⟩:=hkr.at (show 1 < 2 by omega)
 simp only [Option.some.injEq,Addr.mk.injEq,and_true] at he1
 obtain ⟨rfl,rfl⟩:=he1
 have kc1:=(hb2.cell (p:=⟨kb,ko+1 * 1+0,none⟩) (block_lt_of_cell (hc1 0 _ rfl))).trans (hc1 0 (.int .i64 x1) rfl)
 have n0:=hcl 0 (.int .i64 33) rfl
 have n1:=hcl 1 (.string nm) rfl
 have n2:=hcl 2 (.int .i64 vk) rfl
 have n3:=hcl 3 (.int .i64 vn) rfl
 have n4:=hcl 4 (.string vt) rfl
 have n5:=hcl 5 (.slice sa sl sc) rfl
 have n6:=hcl 6 (.slice (some ⟨kb,ko,none⟩) 2 kc) rfl
 simp only [Nat.add_zero] at n0
 simp only [Nat.add_zero,Nat.zero_mul,Nat.one_mul,Nat.reduceMul] at kc0 kc1
 have hqI:(q:Int) < (nl:Int):=by omega
 have hnl:=hE.r.2.1
 have hnc:=hE.r.2.2.1
 have p0:=cell_of_row w2 _ 0 _ _ _ g0
 simp only [List.getElem?_toArray,List.getElem?_cons_zero] at p0
 have HK:=Lib.hid hk
 have HE:=Lib.hid hE
 have HIH:=Lib.hid IH
 have G0:=Lib.hid g0
 have G1:=Lib.hid g1
 have HB2:=Lib.hid hb2
 have HS:=Lib.hid (show nodeW (wK ns p.vw d) ⟨33,nm,vk,vn,vt,sa,sl,sc,some ⟨kb,ko,none⟩,2,kc,ks⟩ p.vw=_ from node_default rfl hx0 hx1)
 have HG0:=Lib.hid (HK.out x0 (List.mem_of_getElem? hx0))
 have HG1:=Lib.hid (HK.out x1 (List.mem_of_getElem? hx1))
 clear hk hE IH hv hn hright g0 g1 hb2 hnd hnd' hcl hcl0 hkr hx0 hx1 hc0 hc1
 go_enter Tryz.func29,Tryz.ntmps29
 go_upto_region 1 with (fail)
 rw [← hw2]
 clear hw2
 go_upto_region 2 with (fail)
 obtain ⟨w3,hw3⟩:∃ w3,w3=w2.alloc (.cells (nodeV 33 nm vk vn vt sa sl sc (some ⟨kb,ko,none⟩) 2 kc) 56):=⟨_,rfl⟩
 have g3:w3.heap[w.heap.size+2]?=some (.cells (nodeV 33 nm vk vn vt sa sl sc (some ⟨kb,ko,none⟩) 2 kc) 56 (0,0)):=by rw [hw3,← z2];exact heap_alloc_new w2 _
 have hb3:Below w2.heap.size w2 w3:=by rw [hw3];exact bel1 _ _
 have z3:w3.heap.size=w.heap.size+3:=by rw [hw3];simp [z2]
 rw [← hw3]
 have kd0:=keepb hb3 kc0
 have kd1:=keepb hb3 kc1
 have h1':=(hb3.block _ (by omega)).trans G1.out
 have h0':=(hb3.block _ (by omega)).trans G0.out
 obtain ⟨c0,c1,c2,c3,f0,f1,f2,f3⟩:=box4 h1'
 have H1:=Lib.hid h1'
 have H0:=Lib.hid h0'
 have G3:=Lib.hid g3
 have HB3:=Lib.hid (HB2.out.trans (hb3.mono (by omega)))
 have k0:=cell_of_row _ _ 0 _ _ _ h0'
 have k1:=cell_of_row _ _ 1 _ _ _ h0'
 have m0:=cell_of_row _ _ 0 _ _ _ g3
 have m6:=cell_of_row _ _ 6 _ _ _ g3
 simp only [nodeV,List.getElem?_toArray,List.getElem?_cons_zero,List.getElem?_cons_succ] at k0 k1 m0 m6
 have HE3:=Lib.hid (HE.out.below HB3.out)
 have Z3:w.heap.size+2 < w3.heap.size:=by omega
 clear h1' h0' g3 hb3 hw3 n0 n1 n2 n3 n4 n5 n6 p0 z2 z3 kc0 kc1
 go_wp2_with fail
 go_cut [6] (fun v wx=>BoxC w3 w3.heap.size (wK ns p.vw d x0) v wx)
 case first =>
  refine wp_region_held_drew (S:=(fun w'=>w'.cell? ⟨w.heap.size,0,none⟩=some (.slice (some ⟨nb,no,none⟩) nl nc)∧w'.cell? ⟨w.heap.size,1,none⟩=some (.iface 72 (.agg p.cs))∧w'.cell? ⟨w.heap.size+2,6,none⟩=some (.slice (some ⟨kb,ko,none⟩) 2 kc)∧w'.cell? ⟨kb,ko,none⟩=some (.int .i64 x0)∧w'.cell? ⟨kb,ko+1,none⟩=some (.int .i64 x1))) (by kernel_rfl) ⟨k0,k1,m6,kd0,kd1⟩ (fun hHeld=>?_)
  refine tkI (i:=0) (v:=?_) rfl ?_ ?_
  rotate_left
  · intro w hSw;(try dsimp only at hSw);go_simp;try with_reducible rfl
  (try simp only [Act.put,pa,pb,pc,pd,pe,pf])
  refine tkI (i:=1) (v:=?_) rfl ?_ ?_
  rotate_left
  · intro w hSw;(try dsimp only at hSw);go_simp;try with_reducible rfl
  (try simp only [Act.put,pa,pb,pc,pd,pe,pf])
  refine tkI (i:=2) (v:=?_) rfl ?_ ?_
  rotate_left
  · intro w hSw;(try dsimp only at hSw);go_simp;try with_reducible rfl
  (try simp only [Act.put,pa,pb,pc,pd,pe,pf])
  refine tkI (i:=3) (v:=?_) rfl ?_ ?_
  rotate_left
  · intro w hSw;(try dsimp only at hSw);go_simp;try with_reducible rfl
  (try simp only [Act.put,pa,pb,pc,pd,pe,pf])
  refine tkI (i:=4) (v:=?_) rfl ?_ ?_
  rotate_left
  · intro w hSw;(try dsimp only at hSw);go_simp;try with_reducible rfl
  (try simp only [Act.put,pa,pb,pc,pd,pe,pf])
  refine wpAnyH_ready (rs:=[5,6]) (by kernel_rfl) (by simp) ?_
  refine AllReadyH.cons (o:=_) rfl (fun K hK=>?_) (AllReadyH.cons (o:=_) rfl (fun K hK=>?_) AllReadyH.nil)
  · go_simp
    refine (HIH.out w3.drew x0 HG0.out (HE3.out.below (Below.refl _ _).drew)).mono ?_
    rintro e wa ⟨hm,hba⟩
    have HBA:=Lib.hid ((Below.refl _ _).drew.trans hba:Below w3.heap.size w3 wa)
    have zba:w3.heap.size≤wa.heap.size:=HBA.out.size
    rcases hm.cases with ⟨x,ra,rl,rc,hr,rfl,hs⟩ | ⟨er,hr,rfl⟩
    · have HRX:=Lib.hid hr
      have HSX:=Lib.hid hs
      clear hm hr hs
      refine hK.out _ _ ⟨keepb hba hHeld.1,keepb hba hHeld.2.1,keepb hba hHeld.2.2.1,keepb hba hHeld.2.2.2.1,keepb hba hHeld.2.2.2.2⟩ (fun hA=>?_)
      clear hK K
      (try simp only [Act.put,pa,pb,pc,pd,pe,pf])
      refine wpAnyH_ready (rs:=[6]) (by kernel_rfl) (by simp) ?_
      refine AllReadyH.cons (o:=_) rfl (fun K hK=>?_) AllReadyH.nil
      go_simp
      refine hK.out _ _ ⟨keepb (bel1 wa _) hA.1,keepb (bel1 wa _) hA.2.1,keepb (bel1 wa _) hA.2.2.1,keepb (bel1 wa _) hA.2.2.2.1,keepb (bel1 wa _) hA.2.2.2.2⟩ (fun hB=>?_)
      clear hK K
      (try simp only [Act.put,pa,pb,pc,pd,pe,pf])
      refine wpAnyH_ready (rs:=[7]) (by kernel_rfl) (by simp) ?_
      refine AllReadyH.cons (o:=_) rfl (fun K hK=>?_) AllReadyH.nil
      go_simp
      refine hK.out _ _ ⟨keepb (bel1 wa _) hA.1,keepb (bel1 wa _) hA.2.1,keepb (bel1 wa _) hA.2.2.1,keepb (bel1 wa _) hA.2.2.2.1,keepb (bel1 wa _) hA.2.2.2.2⟩ (fun hC=>?_)
      clear hK K
      (try simp only [Act.put,pa,pb,pc,pd,pe,pf])
      refine wpAnyH_done (by kernel_rfl) ?_ _
      go_wp2_with fail
      go_meet
      case rel=>exact ⟨wa.heap.size,x,ra,rl,rc,rfl,zba,HRX.out,heap_alloc_new wa _,(HSX.out.below (bel1 wa _)).mono (by show _≤w3.heap.size;omega),below_alloc_of HBA.out _⟩
    · have HRX:=Lib.hid hr
      clear hm hr
      exact ⟨rfl,.err (by have h:=HS.out;rw [HRX.out] at h;exact h),HB3.out.trans (HBA.out.mono (by omega))⟩
  · go_simp
    obtain ⟨wb,hwb⟩:∃ wb,wb=(w3.alloc boxZ).drew:=⟨_,rfl⟩
    have gB:wb.heap[w3.heap.size]?=some boxZ:=by rw [hwb];exact heap_alloc_new w3 _
    have hbb:Below w3.heap.size w3 wb:=by rw [hwb];exact (bel1 w3 _).drew
    have zbb:w3.heap.size < wb.heap.size:=by rw [hwb];show _ < (w3.alloc boxZ).heap.size;simp
    rw [← hwb]
    clear hwb
    refine hK.out _ _ ⟨keepb hbb k0,keepb hbb k1,keepb hbb m6,keepb hbb kd0,keepb hbb kd1⟩ (fun hA=>?_)
    clear hK K
    (try simp only [Act.put,pa,pb,pc,pd,pe,pf])
    refine wpAnyH_ready (rs:=[5]) (by kernel_rfl) (by simp) ?_
    refine AllReadyH.cons (o:=_) rfl (fun K hK=>?_) AllReadyH.nil
    go_simp
    refine (HIH.out wb x0 HG0.out (HE3.out.below hbb)).mono ?_
    rintro e wa ⟨hm,hba⟩
    have HBA:=Lib.hid (hbb.trans (hba.mono (by omega)))
    have zba:wb.heap.size≤wa.heap.size:=hba.size
    rcases hm.cases with ⟨x,ra,rl,rc,hr,rfl,hs⟩ | ⟨er,hr,rfl⟩
    · have HRX:=Lib.hid hr
      have HSX:=Lib.hid hs
      have gA:=(hba.block _ zbb).trans gB
      have HGA:=Lib.hid gA
      obtain ⟨c0,c1,c2,c3,f0,f1,f2,f3⟩:=box4 gA
      clear hm hr hs gA
      refine hK.out _ _ ⟨keepb hba hA.1,keepb hba hA.2.1,keepb hba hA.2.2.1,keepb hba hA.2.2.2.1,keepb hba hA.2.2.2.2⟩ (fun hB=>?_)
      clear hK K
      (try simp only [Act.put,pa,pb,pc,pd,pe,pf])
      refine wpAnyH_ready (rs:=[7]) (by kernel_rfl) (by simp) ?_
      refine AllReadyH.cons (o:=_) rfl (fun K hK=>?_) AllReadyH.nil
      go_simp
      refine hK.out _ _ ⟨keepq hB.1 (by omega),keepq hB.2.1 (by omega),keepq hB.2.2.1 (by omega),keepq hB.2.2.2.1 (by omega),keepq hB.2.2.2.2 (by omega)⟩ (fun hC=>?_)
      clear hK K
      (try simp only [Act.put,pa,pb,pc,pd,pe,pf])
      refine wpAnyH_done (by kernel_rfl) ?_ _
      go_wp2_with fail
      go_meet
      case rel=>exact ⟨w3.heap.size,x,ra,rl,rc,rfl,Nat.le_refl _,HRX.out,heap_box HGA.out _ _ _ _,(HSX.out.box zbb _ _ _ _).mono (by omega),below_box (Nat.le_refl _) HBA.out _ _ _ _⟩
    · have HRX:=Lib.hid hr
      clear hm hr
      exact ⟨rfl,.err (by have h:=HS.out;rw [HRX.out] at h;exact h),HB3.out.trans (HBA.out.mono (by omega))⟩
 case rest =>
  obtain ⟨g,x,a,l,c,rfl,hg,hr,hblk,hs,hb⟩:=hcut
  have HR0:=Lib.hid hr
  have HSX:=Lib.hid hs
  have zc:=hb.size
  have HBW:=Lib.hid (HB3.out.trans (hb.mono (by omega)))
  have HGW:=Lib.hid ((hb.block (w.heap.size+1) (by omega)).trans H1.out)
  obtain ⟨b0,b1,b2,b3,e0,e1,e2,e3⟩:=box4 hblk
  obtain ⟨c0,c1,c2,c3,f0,f1,f2,f3⟩:=box4 HGW.out
  have HEW:=Lib.hid (HE.out.below HBW.out)
  replace k0:=keepb hb k0
  replace k1:=keepb hb k1
  replace m0:=keepb hb m0
  replace m6:=keepb hb m6
  replace kd0:=keepb hb kd0
  replace kd1:=keepb hb kd1
  clear hr hs hblk hb
  cases hz:(x.k == 0)
  · have HZ:=Lib.hid (show x.k ≠ 0 by simpa using hz)
    have hz':(x.k != 0)=true:=by simp at hz;simp [hz]
    clear hz
    go_wp2_with fail
    refine retbox rfl (w1:=wc) HGW.out rfl ?_
    refine ⟨.ok (x:=x) (by have h:=HS.out;rw [HR0.out] at h;simp only [ne_eq,HZ.out,not_false_eq_true,if_true] at h;exact h) ((HSX.out.box (by omega) _ _ _ _).mono (by omega)),below_box (by omega) HBW.out _ _ _ _⟩
  · have HZ:=Lib.hid (show x.k=0 by simpa using hz)
    have hz':(x.k != 0)=false:=by simp at hz;simp [hz]
    clear hz
    go_wp2_with fail
    refine wp_region_held_drew (S:=(fun w'=>w'.cell? ⟨w.heap.size,0,none⟩=some (.slice (some ⟨nb,no,none⟩) nl nc)∧w'.cell? ⟨w.heap.size,1,none⟩=some (.iface 72 (.agg p.cs))∧w'.cell? ⟨w.heap.size+2,6,none⟩=some (.slice (some ⟨kb,ko,none⟩) 2 kc)∧w'.cell? ⟨kb,ko,none⟩=some (.int .i64 x0)∧w'.cell? ⟨kb,ko+1,none⟩=some (.int .i64 x1))) (by kernel_rfl) ⟨k0,k1,m6,kd0,kd1⟩ (fun hHeld=>?_)
    refine tkI (i:=0) (v:=?_) rfl ?_ ?_
    rotate_left
    · intro w hSw;(try dsimp only at hSw);go_simp;try with_reducible rfl
    (try simp only [Act.put,pa,pb,pc,pd,pe,pf])
    refine tkI (i:=1) (v:=?_) rfl ?_ ?_
    rotate_left
    · intro w hSw;(try dsimp only at hSw);go_simp;try with_reducible rfl
    (try simp only [Act.put,pa,pb,pc,pd,pe,pf])
    refine tkI (i:=2) (v:=?_) rfl ?_ ?_
    rotate_left
    · intro w hSw;(try dsimp only at hSw);go_simp;try with_reducible rfl
    (try simp only [Act.put,pa,pb,pc,pd,pe,pf])
    refine tkI (i:=3) (v:=?_) rfl ?_ ?_
    rotate_left
    · intro w hSw;(try dsimp only at hSw);go_simp;try with_reducible rfl
    (try simp only [Act.put,pa,pb,pc,pd,pe,pf])
    refine tkI (i:=4) (v:=?_) rfl ?_ ?_
    rotate_left
    · intro w hSw;(try dsimp only at hSw);go_simp;try with_reducible rfl
    (try simp only [Act.put,pa,pb,pc,pd,pe,pf])
    refine wpAnyH_ready (rs:=[5]) (by kernel_rfl) (by simp) ?_
    refine AllReadyH.cons (o:=_) rfl (fun K hK=>?_) AllReadyH.nil
    go_simp
    refine (HIH.out wc.drew x1 HG1.out (HEW.out.below (Below.refl _ _).drew)).mono ?_
    rintro e w5 ⟨hm5,hb5⟩
    have z5:wc.heap.size≤w5.heap.size:=hb5.size
    have HB5:=Lib.hid (HBW.out.drew.trans (hb5.mono (by show w.heap.size≤wc.heap.size;omega)))
    have HG5:=Lib.hid ((hb5.block (w.heap.size+1) (by show _ < wc.heap.size;omega)).trans HGW.out)
    rcases hm5.cases with ⟨y,ra,rl,rc,hr1,rfl,hs⟩ | ⟨er,hr1,rfl⟩
    · have HR1:=Lib.hid hr1
      have HSY:=Lib.hid hs
      clear hm5 hr1 hs
      refine hK.out _ _ ⟨keepb hb5 hHeld.1,keepb hb5 hHeld.2.1,keepb hb5 hHeld.2.2.1,keepb hb5 hHeld.2.2.2.1,keepb hb5 hHeld.2.2.2.2⟩ (fun hHeld=>?_)
      clear hK K
      (try simp only [Act.put,pa,pb,pc,pd,pe,pf])
      obtain ⟨c0,c1,c2,c3,f0,f1,f2,f3⟩:=box4 HG5.out
      clear hb5
      refine wpAnyH_ready (rs:=[6]) (by kernel_rfl) (by simp) ?_
      refine AllReadyH.cons (o:=_) rfl (fun K hK=>?_) AllReadyH.nil
      go_simp
      refine hK.out _ _ ⟨keepq hHeld.1 (by omega),keepq hHeld.2.1 (by omega),keepq hHeld.2.2.1 (by omega),keepq hHeld.2.2.2.1 (by omega),keepq hHeld.2.2.2.2 (by omega)⟩ (fun hHeld=>?_)
      clear hK K
      (try simp only [Act.put,pa,pb,pc,pd,pe,pf])
      refine wpAnyH_done (by kernel_rfl) ?_ _
      go_wp2_with fail
      refine retbox rfl (w1:=w5) HG5.out rfl ?_
      exact ⟨.ok (x:=y) (by have h:=HS.out;rw [HR0.out] at h;simp only [ne_eq,HZ.out,not_true_eq_false,if_false] at h;exact h.trans HR1.out) ((HSY.out.box (by show _ < wc.heap.size;omega) _ _ _ _).mono (by show _≤wc.heap.size;omega)),below_box (by omega) HB5.out _ _ _ _⟩
    · have HR1:=Lib.hid hr1
      clear hm5 hr1
      exact ⟨rfl,.err (by have h:=HS.out;rw [HR0.out] at h;simp only [ne_eq,HZ.out,not_true_eq_false,if_false] at h;exact h.trans HR1.out),HB5.out⟩
end Go.Proofs.YtcnckjlmldnblaaGreatDoor
