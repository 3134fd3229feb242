import Derived.Test.YtcnckjlmldnblaaGreatDoorE20
import Derived.Handy
namespace Go.Proofs.YtcnckjlmldnblaaGreatDoor
open Go Go.RowKit
open List renaming setIfInBounds_toArray → pa, set_cons_zero → pb, set_cons_succ → pc, getElem_toArray → pd, getElem_cons_succ → pe, getElem_cons_zero → pf
set_option maxRecDepth 100000
set_option maxHeartbeats 4000000
set_option linter.unusedVariables false
set_option linter.unusedSimpArgs false
theorem w_or (na:Option Addr) (nl nc:Nat) (ns:List Nd) (p:Pd) (d:Nat) (IH:WorthAt na nl nc ns p d) (w:World) (q:Nat) (nd:Nd) (hq:q < nl) (hnd:ns[q]?=some nd) (hright:nd.right=true) (hk:∀ k ∈ nd.ks,goodN ns d k) (hE:EnvW w na nl nc ns p) (hv:VwOk p.vw) (hn:∀ x ∈ ns,x.ks.length=x.kl∧I64 x.vn) (hop:nd.op=10) :
 Calls Tryz.prog 29 #[WorkV na nl nc p,.int .i64 (q:Int)] w fun e w'=>MOut e w' w.heap.size (nodeW (wK ns p.vw d) nd p.vw)∧Below w.heap.size w w':=by
 obtain ⟨w2,hw2⟩:∃ w2,w2=(w.alloc (boxW na nl nc p)).alloc boxZ:=⟨_,rfl⟩
 have g0:w2.heap[w.heap.size]?=some (boxW na nl nc p):=by rw [hw2];exact heap_alloc2_old w _ _
 have g1:w2.heap[w.heap.size+1]?=some boxZ:=by rw [hw2];exact heap_alloc2_new w _ _
 have hb2:Below w.heap.size w w2:=by rw [hw2];exact bel2 _ _ _
 have z2:w2.heap.size=w.heap.size+2:=by rw [hw2];simp
 have hkr:=(hE.n nd (List.mem_of_getElem? hnd)).ok.1
 obtain ⟨nb,no,nd',rfl,hnd',hcl0⟩:=hE.r.at hq
 obtain rfl:nd'=nd:=by rw [hnd] at hnd';exact (Option.some.inj hnd').symm
 obtain ⟨op,nm,vk,vn,vt,sa,sl,sc,ka,kl,kc,ks⟩:=nd'
 obtain rfl:op=10:=hop
 obtain rfl:kl=2:=by
  have h:=(right_cases hright).1
  simp [kidsN] at h
  omega
 have hcl:=fun j v hv=>(hb2.cell (p:=⟨nb,no+q * 7+j,none⟩) (block_lt_of_cell (hcl0 j v hv))).trans (hcl0 j v hv)
 obtain ⟨kb,ko,x0,hka,hx0,hc0⟩:=hkr.at (show 0 < 2 by omega)
 subst hka
 have kc0:=(hb2.cell (p:=⟨kb,ko+0 * 1+0,none⟩) (block_lt_of_cell (hc0 0 _ rfl))).trans (hc0 0 (.int .i64 x0) rfl)
 have hkb:kb < w.heap.size:=block_lt_of_cell (hc0 0 _ rfl)
 obtain ⟨kb1,ko1,x1,he1,hx1,hc1⟩:=hkr.at (show 1 < 2 by omega)
 simp only [Option.some.injEq,Addr.mk.injEq,and_true] at he1
 obtain ⟨rfl,rfl⟩:=he1
 have kc1:=(hb2.cell (p:=⟨kb,ko+1 * 1+0,none⟩) (block_lt_of_cell (hc1 0 _ rfl))).trans (hc1 0 (.int .i64 x1) rfl)
 have n0:=hcl 0 (.int .i64 10) rfl
 have n1:=hcl 1 (.string nm) rfl
 have n2:=hcl 2 (.int .i64 vk) rfl
 have n3:=hcl 3 (.int .i64 vn) rfl
 have n4:=hcl 4 (.string vt) rfl
 have n5:=hcl 5 (.slice sa sl sc) rfl
 have n6:=hcl 6 (.slice (some ⟨kb,ko,none⟩) 2 kc) rfl
 simp only [Nat.add_zero] at n0
 simp only [Nat.add_zero,Nat.zero_mul,Nat.one_mul,Nat.reduceMul] at kc0 kc1
 have hqI:(q:Int) < (nl:Int):=by omega
 have hnl:=hE.r.2.1
 have hnc:=hE.r.2.2.1
 have p0:=cell_of_row w2 _ 0 _ _ _ g0
 simp only [List.getElem?_toArray,List.getElem?_cons_zero] at p0
 have HK:=Lib.hid hk
 have HE:=Lib.hid hE
 have HIH:=Lib.hid IH
 have G0:=Lib.hid g0
 have G1:=Lib.hid g1
 have HB2:=Lib.hid hb2
 have HS:=Lib.hid (show nodeW (wK ns p.vw d) ⟨10,nm,vk,vn,vt,sa,sl,sc,some ⟨kb,ko,none⟩,2,kc,ks⟩ p.vw=_ from node_or rfl hx0 hx1)
 have HG0:=Lib.hid (HK.out x0 (List.mem_of_getElem? hx0))
 have HG1:=Lib.hid (HK.out x1 (List.mem_of_getElem? hx1))
 clear hk hE IH hv hn hright g0 g1 hb2 hnd hnd' hcl hcl0 hkr hx0 hx1 hc0 hc1
 go_enter Tryz.func29,Tryz.ntmps29
 go_upto_region 1 with (fail)
 rw [← hw2]
 clear hw2
 go_upto_region 2 with (fail)
 obtain ⟨w3,hw3⟩:∃ w3,w3=w2.alloc (.cells (nodeV 10 nm vk vn vt sa sl sc (some ⟨kb,ko,none⟩) 2 kc) 56):=⟨_,rfl⟩
 have g3:w3.heap[w.heap.size+2]?=some (.cells (nodeV 10 nm vk vn vt sa sl sc (some ⟨kb,ko,none⟩) 2 kc) 56 (0,0)):=by rw [hw3,← z2];exact heap_alloc_new w2 _
 have hb3:Below w2.heap.size w2 w3:=by rw [hw3];exact bel1 _ _
 have z3:w3.heap.size=w.heap.size+3:=by rw [hw3];simp [z2]
 rw [← hw3]
 have kd0:=keepb hb3 kc0
 have kd1:=keepb hb3 kc1
 have h1':=(hb3.block _ (by omega)).trans G1.out
 have h0':=(hb3.block _ (by omega)).trans G0.out
 obtain ⟨c0,c1,c2,c3,f0,f1,f2,f3⟩:=box4 h1'
 have H1:=Lib.hid h1'
 have H0:=Lib.hid h0'
 have G3:=Lib.hid g3
 have HB3:=Lib.hid (HB2.out.trans (hb3.mono (by omega)))
 have k0:=cell_of_row _ _ 0 _ _ _ h0'
 have k1:=cell_of_row _ _ 1 _ _ _ h0'
 have m0:=cell_of_row _ _ 0 _ _ _ g3
 have m6:=cell_of_row _ _ 6 _ _ _ g3
 simp only [nodeV,List.getElem?_toArray,List.getElem?_cons_zero,List.getElem?_cons_succ] at k0 k1 m0 m6
 have HE3:=Lib.hid (HE.out.below HB3.out)
 have Z3:w.heap.size+2 < w3.heap.size:=by omega
 clear h1' h0' g3 hb3 hw3 n0 n1 n2 n3 n4 n5 n6 p0 z2 z3 kc0 kc1
 go_wp2_with fail
 refine wp_region_held_drew (S:=(fun w'=>w'.cell? ⟨w.heap.size,0,none⟩=some (.slice (some ⟨nb,no,none⟩) nl nc)∧w'.cell? ⟨w.heap.size,1,none⟩=some (.iface 72 (.agg p.cs))∧w'.cell? ⟨w.heap.size+2,6,none⟩=some (.slice (some ⟨kb,ko,none⟩) 2 kc)∧w'.cell? ⟨kb,ko,none⟩=some (.int .i64 x0)∧w'.cell? ⟨kb,ko+1,none⟩=some (.int .i64 x1))) (by kernel_rfl) ⟨k0,k1,m6,kd0,kd1⟩ (fun hHeld=>?_)
 refine tkI (i:=0) (v:=?_) rfl ?_ ?_
 rotate_left
 · intro w hSw;(try dsimp only at hSw);go_simp;try with_reducible rfl
 (try simp only [Act.put,pa,pb,pc,pd,pe,pf])
 refine tkI (i:=1) (v:=?_) rfl ?_ ?_
 rotate_left
 · intro w hSw;(try dsimp only at hSw);go_simp;try with_reducible rfl
 (try simp only [Act.put,pa,pb,pc,pd,pe,pf])
 refine tkI (i:=2) (v:=?_) rfl ?_ ?_
 rotate_left
 · intro w hSw;(try dsimp only at hSw);go_simp;try with_reducible rfl
 (try simp only [Act.put,pa,pb,pc,pd,pe,pf])
 refine tkI (i:=3) (v:=?_) rfl ?_ ?_
 rotate_left
 · intro w hSw;(try dsimp only at hSw);go_simp;try with_reducible rfl
 (try simp only [Act.put,pa,pb,pc,pd,pe,pf])
 refine tkI (i:=4) (v:=?_) rfl ?_ ?_
 rotate_left
 · intro w hSw;(try dsimp only at hSw);go_simp;try with_reducible rfl
 (try simp only [Act.put,pa,pb,pc,pd,pe,pf])
 refine wpAnyH_ready (rs:=[5]) (by kernel_rfl) (by simp) ?_
 refine AllReadyH.cons (o:=_) rfl (fun K hK=>?_) AllReadyH.nil
 go_simp
 refine (sure_any (some ⟨nb,no,none⟩) nl nc ns p d HIH.out w3.drew x0 HG0.out (HE3.out.below (Below.refl _ _).drew)).mono ?_
 rintro e w4 ⟨hm,hb4⟩
 have z4:w3.heap.size≤w4.heap.size:=hb4.size
 have HB4:=Lib.hid (HB3.out.drew.trans (hb4.mono (by show w.heap.size≤w3.heap.size;omega)))
 have HG4:=Lib.hid ((hb4.block (w.heap.size+1) (by show _ < w3.heap.size;omega)).trans H1.out)
 have HE4:=Lib.hid (HE.out.below HB4.out)
 rcases hm.cases with ⟨b,hr0,rfl⟩ | ⟨er,hr0,rfl⟩
 · have HR0:=Lib.hid hr0
   clear hm hr0
   cases b
   · refine hK.out _ _ ⟨keepb hb4 hHeld.1,keepb hb4 hHeld.2.1,keepb hb4 hHeld.2.2.1,keepb hb4 hHeld.2.2.2.1,keepb hb4 hHeld.2.2.2.2⟩ (fun hHeld=>?_)
     clear hK K
     (try simp only [Act.put,pa,pb,pc,pd,pe,pf])
     clear c0 c1 c2 c3 f0 f1 f2 f3 hb4
     refine tkI (i:=6) (v:=?_) rfl ?_ ?_
     rotate_left
     · intro w hSw;(try dsimp only at hSw);go_simp;try with_reducible rfl
     (try simp only [Act.put,pa,pb,pc,pd,pe,pf])
     refine tkI (i:=7) (v:=?_) rfl ?_ ?_
     rotate_left
     · intro w hSw;(try dsimp only at hSw);go_simp;try with_reducible rfl
     (try simp only [Act.put,pa,pb,pc,pd,pe,pf])
     refine tkI (i:=8) (v:=?_) rfl ?_ ?_
     rotate_left
     · intro w hSw;(try dsimp only at hSw);go_simp;try with_reducible rfl
     (try simp only [Act.put,pa,pb,pc,pd,pe,pf])
     refine tkI (i:=9) (v:=?_) rfl ?_ ?_
     rotate_left
     · intro w hSw;(try dsimp only at hSw);go_simp;try with_reducible rfl
     (try simp only [Act.put,pa,pb,pc,pd,pe,pf])
     refine tkI (i:=10) (v:=?_) rfl ?_ ?_
     rotate_left
     · intro w hSw;(try dsimp only at hSw);go_simp;try with_reducible rfl
     (try simp only [Act.put,pa,pb,pc,pd,pe,pf])
     refine tkI (i:=11) (v:=?_) rfl ?_ ?_
     rotate_left
     · intro w hSw;(try dsimp only at hSw);go_simp;try with_reducible rfl
     (try simp only [Act.put,pa,pb,pc,pd,pe,pf])
     refine wpAnyH_ready (rs:=[12]) (by kernel_rfl) (by simp) ?_
     refine AllReadyH.cons (o:=_) rfl (fun K hK=>?_) AllReadyH.nil
     go_simp
     refine (sure_any (some ⟨nb,no,none⟩) nl nc ns p d HIH.out w4 x1 HG1.out HE4.out).mono ?_
     rintro e w5 ⟨hm5,hb5⟩
     have z5:=hb5.size
     have HB5:=Lib.hid (HB4.out.trans (hb5.mono (by omega)))
     have HG5:=Lib.hid ((hb5.block (w.heap.size+1) (by omega)).trans HG4.out)
     rcases hm5.cases with ⟨b,hr1,rfl⟩ | ⟨er,hr1,rfl⟩
     · have HR1:=Lib.hid hr1
       clear hm5 hr1
       refine hK.out _ _ ⟨keepb hb5 hHeld.1,keepb hb5 hHeld.2.1,keepb hb5 hHeld.2.2.1,keepb hb5 hHeld.2.2.2.1,keepb hb5 hHeld.2.2.2.2⟩ (fun hHeld=>?_)
       clear hK K
       (try simp only [Act.put,pa,pb,pc,pd,pe,pf])
       clear hb5
       refine tkI (i:=13) (v:=?_) rfl ?_ ?_
       rotate_left
       · intro w hSw;(try dsimp only at hSw);go_simp;try with_reducible rfl
       (try simp only [Act.put,pa,pb,pc,pd,pe,pf])
       refine wpAnyH_ready (rs:=[14]) (by kernel_rfl) (by simp) ?_
       refine AllReadyH.cons (o:=_) rfl (fun K hK=>?_) AllReadyH.nil
       go_simp
       refine (truth_n w5 b).mono ?_
       rintro e w6 ⟨⟨rfl,hs6⟩,hb6⟩
       have HB6:=Lib.hid (HB5.out.trans (hb6.mono (by omega)))
       have HG6:=Lib.hid ((hb6.block (w.heap.size+1) (by omega)).trans HG5.out)
       refine hK.out _ _ ⟨keepb hb6 hHeld.1,keepb hb6 hHeld.2.1,keepb hb6 hHeld.2.2.1,keepb hb6 hHeld.2.2.2.1,keepb hb6 hHeld.2.2.2.2⟩ (fun hHeld=>?_)
       clear hK K
       (try simp only [Act.put,pa,pb,pc,pd,pe,pf])
       obtain ⟨c0,c1,c2,c3,f0,f1,f2,f3⟩:=box4 HG6.out
       clear hb6 hs6
       refine wpAnyH_ready (rs:=[15]) (by kernel_rfl) (by simp) ?_
       refine AllReadyH.cons (o:=_) rfl (fun K hK=>?_) AllReadyH.nil
       go_simp
       refine hK.out _ _ ⟨keepq hHeld.1 (by omega),keepq hHeld.2.1 (by omega),keepq hHeld.2.2.1 (by omega),keepq hHeld.2.2.2.1 (by omega),keepq hHeld.2.2.2.2 (by omega)⟩ (fun hHeld=>?_)
       clear hK K
       (try simp only [Act.put,pa,pb,pc,pd,pe,pf])
       refine wpAnyH_done (by kernel_rfl) ?_ _
       go_wp2_with fail
       refine retbox rfl (w1:=w6) HG6.out rfl ?_
       exact ⟨.ok (by have h:=HS.out;rw [HR0.out,HR1.out] at h;exact h) (sv_nil rfl),below_box (by omega) HB6.out _ _ _ _⟩
     · have HR1:=Lib.hid hr1
       clear hm5 hr1
       exact ⟨rfl,.err (by have h:=HS.out;rw [HR0.out,HR1.out] at h;exact h),HB5.out⟩
   · refine hK.out _ _ ⟨keepb hb4 hHeld.1,keepb hb4 hHeld.2.1,keepb hb4 hHeld.2.2.1,keepb hb4 hHeld.2.2.2.1,keepb hb4 hHeld.2.2.2.2⟩ (fun hHeld=>?_)
     clear hK K
     (try simp only [Act.put,pa,pb,pc,pd,pe,pf])
     clear c0 c1 c2 c3 f0 f1 f2 f3 hb4
     refine tkI (i:=6) (v:=?_) rfl ?_ ?_
     rotate_left
     · intro w hSw;(try dsimp only at hSw);go_simp;try with_reducible rfl
     (try simp only [Act.put,pa,pb,pc,pd,pe,pf])
     refine tkH (i:=7) (v:=undef) rfl (.inr ⟨by rfl,rfl⟩) ?_
     (try simp only [Act.put,pa,pb,pc,pd,pe,pf])
     refine tkH (i:=8) (v:=undef) rfl (.inr ⟨by rfl,rfl⟩) ?_
     (try simp only [Act.put,pa,pb,pc,pd,pe,pf])
     refine tkH (i:=9) (v:=undef) rfl (.inr ⟨by rfl,rfl⟩) ?_
     (try simp only [Act.put,pa,pb,pc,pd,pe,pf])
     refine tkH (i:=10) (v:=undef) rfl (.inr ⟨by rfl,rfl⟩) ?_
     (try simp only [Act.put,pa,pb,pc,pd,pe,pf])
     refine tkH (i:=11) (v:=undef) rfl (.inr ⟨by rfl,rfl⟩) ?_
     (try simp only [Act.put,pa,pb,pc,pd,pe,pf])
     refine tkH (i:=12) (v:=undef) rfl (.inr ⟨by rfl,rfl⟩) ?_
     (try simp only [Act.put,pa,pb,pc,pd,pe,pf])
     refine tkI (i:=13) (v:=?_) rfl ?_ ?_
     rotate_left
     · intro w hSw;(try dsimp only at hSw);go_simp;try with_reducible rfl
     (try simp only [Act.put,pa,pb,pc,pd,pe,pf])
     refine wpAnyH_ready (rs:=[14]) (by kernel_rfl) (by simp) ?_
     refine AllReadyH.cons (o:=_) rfl (fun K hK=>?_) AllReadyH.nil
     go_simp
     refine (truth_n w4 true).mono ?_
     rintro e w6 ⟨⟨rfl,hs6⟩,hb6⟩
     have HB6:=Lib.hid (HB4.out.trans (hb6.mono (by omega)))
     have HG6:=Lib.hid ((hb6.block (w.heap.size+1) (by omega)).trans HG4.out)
     refine hK.out _ _ ⟨keepb hb6 hHeld.1,keepb hb6 hHeld.2.1,keepb hb6 hHeld.2.2.1,keepb hb6 hHeld.2.2.2.1,keepb hb6 hHeld.2.2.2.2⟩ (fun hHeld=>?_)
     clear hK K
     (try simp only [Act.put,pa,pb,pc,pd,pe,pf])
     obtain ⟨c0,c1,c2,c3,f0,f1,f2,f3⟩:=box4 HG6.out
     clear hb6 hs6
     refine wpAnyH_ready (rs:=[15]) (by kernel_rfl) (by simp) ?_
     refine AllReadyH.cons (o:=_) rfl (fun K hK=>?_) AllReadyH.nil
     go_simp
     refine hK.out _ _ ⟨keepq hHeld.1 (by omega),keepq hHeld.2.1 (by omega),keepq hHeld.2.2.1 (by omega),keepq hHeld.2.2.2.1 (by omega),keepq hHeld.2.2.2.2 (by omega)⟩ (fun hHeld=>?_)
     clear hK K
     (try simp only [Act.put,pa,pb,pc,pd,pe,pf])
     refine wpAnyH_done (by kernel_rfl) ?_ _
     go_wp2_with fail
     refine retbox rfl (w1:=w6) HG6.out rfl ?_
     exact ⟨.ok (by have h:=HS.out;rw [HR0.out] at h;exact h) (sv_nil rfl),below_box (by omega) HB6.out _ _ _ _⟩
 · have HR0:=Lib.hid hr0
   clear hm hr0
   exact ⟨rfl,.err (by have h:=HS.out;rw [HR0.out] at h;exact h),HB4.out⟩
end Go.Proofs.YtcnckjlmldnblaaGreatDoor
