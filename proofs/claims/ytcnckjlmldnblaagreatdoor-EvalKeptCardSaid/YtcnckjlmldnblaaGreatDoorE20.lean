import Derived.Test.YtcnckjlmldnblaaGreatDoorE14
import Derived.Handy
namespace Go.Proofs.YtcnckjlmldnblaaGreatDoor
open Go Go.RowKit
set_option maxRecDepth 100000
set_option maxHeartbeats 4000000
set_option linter.unusedVariables false
set_option linter.unusedSimpArgs false
theorem keepq {w:World} {b o B:Nat} {v x0 x1 x2 x3:Value} (h:w.cell? ⟨b,o,none⟩=some v) (hne:b ≠ B):((((w.setCell ⟨B,0,none⟩ x0).setCell ⟨B,1,none⟩ x1).setCell ⟨B,2,none⟩ x2).setCell ⟨B,3,none⟩ x3).cell? ⟨b,o,none⟩=some v :=
 (World.cell?_of_block (heap_setCell_other _ ⟨B,3,none⟩ b x3 hne)).trans ((World.cell?_of_block (heap_setCell_other _ ⟨B,2,none⟩ b x2 hne)).trans ((World.cell?_of_block (heap_setCell_other _ ⟨B,1,none⟩ b x1 hne)).trans ((World.cell?_of_block (heap_setCell_other w ⟨B,0,none⟩ b x0 hne)).trans h)))
theorem fld25 (k n:Int) (t:ByteArray) (a:Option Addr) (l c:Nat) (w:World):(Instr.field 43 (.agg #[.int .i64 k,.int .i64 n,.string t,.slice a l c]) 0).run Tryz.prog w=.ok (.int .i64 k) w:=by kernel_rfl
theorem sv_nil {w:World} {B:Nat} {x:Vl} (h:x.ss=[]):SV w B (VA x none 0 0) x:=⟨none,0,0,rfl,by rw [h];rfl,.inl ⟨rfl,fun _=>rfl⟩⟩
theorem leaf_node {f:Int→Wr} {nd:Nd} {v:Vw} {r:Wr} (h:leafW nd v=some r):nodeW f nd v=r:=by unfold nodeW;rw [h]
theorem value_len {w:World} {p:Pd} (h:p.ok w) (nm:ByteArray):(p.vw.value nm).ss.length≤1000000:=by
 unfold Vw.value
 cases hf:p.vw.vals.find? (fun b=>b.1.toList == nm.toList) with
 | none=>exact Nat.zero_le _
 | some b =>
   have hm:=List.mem_of_find?_eq_some hf
   obtain ⟨c,hc,rfl⟩:=List.mem_map.1 hm
   have:=h.b c hc
   rw [this.1.rs.1]
   exact this.2.2
theorem w_lit1 (na:Option Addr) (nl nc:Nat) (ns:List Nd) (p:Pd) (d:Nat) (IH:WorthAt na nl nc ns p d) (w:World) (q:Nat) (nd:Nd) (hq:q < nl) (hnd:ns[q]?=some nd) (hright:nd.right=true) (hk:∀ k ∈ nd.ks,goodN ns d k) (hE:EnvW w na nl nc ns p) (hv:VwOk p.vw) (hn:∀ x ∈ ns,x.ks.length=x.kl∧I64 x.vn) (hop:nd.op=1) :
 Calls Tryz.prog 29 #[WorkV na nl nc p,.int .i64 (q:Int)] w fun e w'=>MOut e w' w.heap.size (nodeW (wK ns p.vw d) nd p.vw)∧Below w.heap.size w w':=by
 obtain ⟨w2,hw2⟩:∃ w2,w2=(w.alloc (boxW na nl nc p)).alloc boxZ:=⟨_,rfl⟩
 have g0:w2.heap[w.heap.size]?=some (boxW na nl nc p):=by rw [hw2];exact heap_alloc2_old w _ _
 have g1:w2.heap[w.heap.size+1]?=some boxZ:=by rw [hw2];exact heap_alloc2_new w _ _
 have hb2:Below w.heap.size w w2:=by rw [hw2];exact bel2 _ _ _
 have z2:w2.heap.size=w.heap.size+2:=by rw [hw2];simp
 have HNW:=Lib.hid (hE.n nd (List.mem_of_getElem? hnd))
 obtain ⟨nb,no,nd',rfl,hnd',hcl0⟩:=hE.r.at hq
 obtain rfl:nd'=nd:=by rw [hnd] at hnd';exact (Option.some.inj hnd').symm
 have hcl:=fun j v hv=>(hb2.cell (p:=⟨nb,no+q * 7+j,none⟩) (block_lt_of_cell (hcl0 j v hv))).trans (hcl0 j v hv)
 have n0:=hcl 0 _ rfl
 have n1:=hcl 1 _ rfl
 have n2:=hcl 2 _ rfl
 have n3:=hcl 3 _ rfl
 have n4:=hcl 4 _ rfl
 have n5:=hcl 5 _ rfl
 have n6:=hcl 6 _ rfl
 simp only [Nat.add_zero] at n0
 rw [hop] at n0
 have hqI:(q:Int) < (nl:Int):=by omega
 have hnl:=hE.r.2.1
 have hnc:=hE.r.2.2.1
 have p0:=cell_of_row w2 _ 0 _ _ _ g0
 simp only [List.getElem?_toArray,List.getElem?_cons_zero] at p0
 have HK:=Lib.hid hk
 have HE:=Lib.hid hE
 have HIH:=Lib.hid IH
 have HV:=Lib.hid hv
 have HN:=Lib.hid hn
 have HR:=Lib.hid hright
 have G0:=Lib.hid g0
 have G1:=Lib.hid g1
 have HB2:=Lib.hid hb2
 have HOP:=Lib.hid hop
 have HND:=Lib.hid hnd
 clear hk hE IH hv hn hright g0 g1 hb2 hnd hnd' hcl hcl0 hop
 go_enter Tryz.func29,Tryz.ntmps29
 go_upto_region 1 with (fail)
 rw [← hw2]
 clear hw2
 go_upto_region 2 with (fail)
 obtain ⟨w3,hw3⟩:∃ w3,w3=w2.alloc (.cells (nodeV 1 nd'.nm nd'.vk nd'.vn nd'.vt nd'.sa nd'.sl nd'.sc nd'.ka nd'.kl nd'.kc) 56):=⟨_,rfl⟩
 have g3:w3.heap[w.heap.size+2]?=some (.cells (nodeV 1 nd'.nm nd'.vk nd'.vn nd'.vt nd'.sa nd'.sl nd'.sc nd'.ka nd'.kl nd'.kc) 56 (0,0)):=by rw [hw3,← z2];exact heap_alloc_new w2 _
 have hb3:Below w2.heap.size w2 w3:=by rw [hw3];exact bel1 _ _
 have z3:w3.heap.size=w.heap.size+3:=by rw [hw3];simp [z2]
 rw [← hw3]
 have h1':=(hb3.block _ (by omega)).trans G1.out
 have h0':=(hb3.block _ (by omega)).trans G0.out
 obtain ⟨c0,c1,c2,c3,f0,f1,f2,f3⟩:=box4 h1'
 have H1:=Lib.hid h1'
 have H0:=Lib.hid h0'
 have G3:=Lib.hid g3
 have HB3:=Lib.hid (HB2.out.trans (hb3.mono (by omega)))
 have k0:=cell_of_row _ _ 0 _ _ _ h0'
 have k1:=cell_of_row _ _ 1 _ _ _ h0'
 have m0:=cell_of_row _ _ 0 _ _ _ g3
 have m1:=cell_of_row _ _ 1 _ _ _ g3
 have m2:=cell_of_row _ _ 2 _ _ _ g3
 have m3:=cell_of_row _ _ 3 _ _ _ g3
 have m4:=cell_of_row _ _ 4 _ _ _ g3
 have m5:=cell_of_row _ _ 5 _ _ _ g3
 have m6:=cell_of_row _ _ 6 _ _ _ g3
 simp only [nodeV,List.getElem?_toArray,List.getElem?_cons_zero,List.getElem?_cons_succ] at k0 k1 m0 m1 m2 m3 m4 m5 m6
 have HE3:=Lib.hid (HE.out.below HB3.out)
 have HNW3:=Lib.hid (HNW.out.below HB3.out)
 have Z3:w.heap.size+2 < w3.heap.size:=by omega
 clear h1' h0' g3 hb3 hw3 n0 n1 n2 n3 n4 n5 n6 p0 z2 z3
 have hsl:nd'.sl=0:=(right_cases HR.out).2.2.1
 have HSL:=Lib.hid hsl
 have HS:=Lib.hid (show nodeW (wK ns p.vw d) nd' p.vw=.ok ⟨nd'.vk,nd'.vn,nd'.vt,[]⟩ from leaf_node (by have h:=HOP.out;unfold leafW;simp [h]))
 clear hsl
 go_wp2_with fail
 refine retbox rfl (w1:=w3) H1.out rfl ?_
 refine ⟨.ok (x:=⟨nd'.vk,nd'.vn,nd'.vt,[]⟩) (by rw [HS.out]) ?_,below_box (by omega) HB3.out _ _ _ _⟩
 refine ⟨nd'.sa,nd'.sl,nd'.sc,rfl,HSL.out,.inl ⟨HSL.out,?_⟩⟩
 obtain ⟨ss,h⟩:=HNW.out.t
 exact h.z
theorem w_lit2 (na:Option Addr) (nl nc:Nat) (ns:List Nd) (p:Pd) (d:Nat) (IH:WorthAt na nl nc ns p d) (w:World) (q:Nat) (nd:Nd) (hq:q < nl) (hnd:ns[q]?=some nd) (hright:nd.right=true) (hk:∀ k ∈ nd.ks,goodN ns d k) (hE:EnvW w na nl nc ns p) (hv:VwOk p.vw) (hn:∀ x ∈ ns,x.ks.length=x.kl∧I64 x.vn) (hop:nd.op=2) :
 Calls Tryz.prog 29 #[WorkV na nl nc p,.int .i64 (q:Int)] w fun e w'=>MOut e w' w.heap.size (nodeW (wK ns p.vw d) nd p.vw)∧Below w.heap.size w w':=by
 obtain ⟨w2,hw2⟩:∃ w2,w2=(w.alloc (boxW na nl nc p)).alloc boxZ:=⟨_,rfl⟩
 have g0:w2.heap[w.heap.size]?=some (boxW na nl nc p):=by rw [hw2];exact heap_alloc2_old w _ _
 have g1:w2.heap[w.heap.size+1]?=some boxZ:=by rw [hw2];exact heap_alloc2_new w _ _
 have hb2:Below w.heap.size w w2:=by rw [hw2];exact bel2 _ _ _
 have z2:w2.heap.size=w.heap.size+2:=by rw [hw2];simp
 have HNW:=Lib.hid (hE.n nd (List.mem_of_getElem? hnd))
 obtain ⟨nb,no,nd',rfl,hnd',hcl0⟩:=hE.r.at hq
 obtain rfl:nd'=nd:=by rw [hnd] at hnd';exact (Option.some.inj hnd').symm
 have hcl:=fun j v hv=>(hb2.cell (p:=⟨nb,no+q * 7+j,none⟩) (block_lt_of_cell (hcl0 j v hv))).trans (hcl0 j v hv)
 have n0:=hcl 0 _ rfl
 have n1:=hcl 1 _ rfl
 have n2:=hcl 2 _ rfl
 have n3:=hcl 3 _ rfl
 have n4:=hcl 4 _ rfl
 have n5:=hcl 5 _ rfl
 have n6:=hcl 6 _ rfl
 simp only [Nat.add_zero] at n0
 rw [hop] at n0
 have hqI:(q:Int) < (nl:Int):=by omega
 have hnl:=hE.r.2.1
 have hnc:=hE.r.2.2.1
 have p0:=cell_of_row w2 _ 0 _ _ _ g0
 simp only [List.getElem?_toArray,List.getElem?_cons_zero] at p0
 have HK:=Lib.hid hk
 have HE:=Lib.hid hE
 have HIH:=Lib.hid IH
 have HV:=Lib.hid hv
 have HN:=Lib.hid hn
 have HR:=Lib.hid hright
 have G0:=Lib.hid g0
 have G1:=Lib.hid g1
 have HB2:=Lib.hid hb2
 have HOP:=Lib.hid hop
 have HND:=Lib.hid hnd
 clear hk hE IH hv hn hright g0 g1 hb2 hnd hnd' hcl hcl0 hop
 go_enter Tryz.func29,Tryz.ntmps29
 go_upto_region 1 with (fail)
 rw [← hw2]
 clear hw2
 go_upto_region 2 with (fail)
 obtain ⟨w3,hw3⟩:∃ w3,w3=w2.alloc (.cells (nodeV 2 nd'.nm nd'.vk nd'.vn nd'.vt nd'.sa nd'.sl nd'.sc nd'.ka nd'.kl nd'.kc) 56):=⟨_,rfl⟩
 have g3:w3.heap[w.heap.size+2]?=some (.cells (nodeV 2 nd'.nm nd'.vk nd'.vn nd'.vt nd'.sa nd'.sl nd'.sc nd'.ka nd'.kl nd'.kc) 56 (0,0)):=by rw [hw3,← z2];exact heap_alloc_new w2 _
 have hb3:Below w2.heap.size w2 w3:=by rw [hw3];exact bel1 _ _
 have z3:w3.heap.size=w.heap.size+3:=by rw [hw3];simp [z2]
 rw [← hw3]
 have h1':=(hb3.block _ (by omega)).trans G1.out
 have h0':=(hb3.block _ (by omega)).trans G0.out
 obtain ⟨c0,c1,c2,c3,f0,f1,f2,f3⟩:=box4 h1'
 have H1:=Lib.hid h1'
 have H0:=Lib.hid h0'
 have G3:=Lib.hid g3
 have HB3:=Lib.hid (HB2.out.trans (hb3.mono (by omega)))
 have k0:=cell_of_row _ _ 0 _ _ _ h0'
 have k1:=cell_of_row _ _ 1 _ _ _ h0'
 have m0:=cell_of_row _ _ 0 _ _ _ g3
 have m1:=cell_of_row _ _ 1 _ _ _ g3
 have m2:=cell_of_row _ _ 2 _ _ _ g3
 have m3:=cell_of_row _ _ 3 _ _ _ g3
 have m4:=cell_of_row _ _ 4 _ _ _ g3
 have m5:=cell_of_row _ _ 5 _ _ _ g3
 have m6:=cell_of_row _ _ 6 _ _ _ g3
 simp only [nodeV,List.getElem?_toArray,List.getElem?_cons_zero,List.getElem?_cons_succ] at k0 k1 m0 m1 m2 m3 m4 m5 m6
 have HE3:=Lib.hid (HE.out.below HB3.out)
 have HNW3:=Lib.hid (HNW.out.below HB3.out)
 have Z3:w.heap.size+2 < w3.heap.size:=by omega
 clear h1' h0' g3 hb3 hw3 n0 n1 n2 n3 n4 n5 n6 p0 z2 z3
 have hsl:nd'.sl=0:=(right_cases HR.out).2.2.1
 have HSL:=Lib.hid hsl
 have HS:=Lib.hid (show nodeW (wK ns p.vw d) nd' p.vw=.ok ⟨nd'.vk,nd'.vn,nd'.vt,[]⟩ from leaf_node (by have h:=HOP.out;unfold leafW;simp [h]))
 clear hsl
 go_wp2_with fail
 refine retbox rfl (w1:=w3) H1.out rfl ?_
 refine ⟨.ok (x:=⟨nd'.vk,nd'.vn,nd'.vt,[]⟩) (by rw [HS.out]) ?_,below_box (by omega) HB3.out _ _ _ _⟩
 refine ⟨nd'.sa,nd'.sl,nd'.sc,rfl,HSL.out,.inl ⟨HSL.out,?_⟩⟩
 obtain ⟨ss,h⟩:=HNW.out.t
 exact h.z
theorem w_lit4 (na:Option Addr) (nl nc:Nat) (ns:List Nd) (p:Pd) (d:Nat) (IH:WorthAt na nl nc ns p d) (w:World) (q:Nat) (nd:Nd) (hq:q < nl) (hnd:ns[q]?=some nd) (hright:nd.right=true) (hk:∀ k ∈ nd.ks,goodN ns d k) (hE:EnvW w na nl nc ns p) (hv:VwOk p.vw) (hn:∀ x ∈ ns,x.ks.length=x.kl∧I64 x.vn) (hop:nd.op=4) :
 Calls Tryz.prog 29 #[WorkV na nl nc p,.int .i64 (q:Int)] w fun e w'=>MOut e w' w.heap.size (nodeW (wK ns p.vw d) nd p.vw)∧Below w.heap.size w w':=by
 obtain ⟨w2,hw2⟩:∃ w2,w2=(w.alloc (boxW na nl nc p)).alloc boxZ:=⟨_,rfl⟩
 have g0:w2.heap[w.heap.size]?=some (boxW na nl nc p):=by rw [hw2];exact heap_alloc2_old w _ _
 have g1:w2.heap[w.heap.size+1]?=some boxZ:=by rw [hw2];exact heap_alloc2_new w _ _
 have hb2:Below w.heap.size w w2:=by rw [hw2];exact bel2 _ _ _
 have z2:w2.heap.size=w.heap.size+2:=by rw [hw2];simp
 have HNW:=Lib.hid (hE.n nd (List.mem_of_getElem? hnd))
 obtain ⟨nb,no,nd',rfl,hnd',hcl0⟩:=hE.r.at hq
 obtain rfl:nd'=nd:=by rw [hnd] at hnd';exact (Option.some.inj hnd').symm
 have hcl:=fun j v hv=>(hb2.cell (p:=⟨nb,no+q * 7+j,none⟩) (block_lt_of_cell (hcl0 j v hv))).trans (hcl0 j v hv)
 have n0:=hcl 0 _ rfl
 have n1:=hcl 1 _ rfl
 have n2:=hcl 2 _ rfl
 have n3:=hcl 3 _ rfl
 have n4:=hcl 4 _ rfl
 have n5:=hcl 5 _ rfl
 have n6:=hcl 6 _ rfl
 simp only [Nat.add_zero] at n0
 rw [hop] at n0
 have hqI:(q:Int) < (nl:Int):=by omega
 have hnl:=hE.r.2.1
 have hnc:=hE.r.2.2.1
 have p0:=cell_of_row w2 _ 0 _ _ _ g0
 simp only [List.getElem?_toArray,List.getElem?_cons_zero] at p0
 have HK:=Lib.hid hk
 have HE:=Lib.hid hE
 have HIH:=Lib.hid IH
 have HV:=Lib.hid hv
 have HN:=Lib.hid hn
 have HR:=Lib.hid hright
 have G0:=Lib.hid g0
 have G1:=Lib.hid g1
 have HB2:=Lib.hid hb2
 have HOP:=Lib.hid hop
 have HND:=Lib.hid hnd
 clear hk hE IH hv hn hright g0 g1 hb2 hnd hnd' hcl hcl0 hop
 go_enter Tryz.func29,Tryz.ntmps29
 go_upto_region 1 with (fail)
 rw [← hw2]
 clear hw2
 go_upto_region 2 with (fail)
 obtain ⟨w3,hw3⟩:∃ w3,w3=w2.alloc (.cells (nodeV 4 nd'.nm nd'.vk nd'.vn nd'.vt nd'.sa nd'.sl nd'.sc nd'.ka nd'.kl nd'.kc) 56):=⟨_,rfl⟩
 have g3:w3.heap[w.heap.size+2]?=some (.cells (nodeV 4 nd'.nm nd'.vk nd'.vn nd'.vt nd'.sa nd'.sl nd'.sc nd'.ka nd'.kl nd'.kc) 56 (0,0)):=by rw [hw3,← z2];exact heap_alloc_new w2 _
 have hb3:Below w2.heap.size w2 w3:=by rw [hw3];exact bel1 _ _
 have z3:w3.heap.size=w.heap.size+3:=by rw [hw3];simp [z2]
 rw [← hw3]
 have h1':=(hb3.block _ (by omega)).trans G1.out
 have h0':=(hb3.block _ (by omega)).trans G0.out
 obtain ⟨c0,c1,c2,c3,f0,f1,f2,f3⟩:=box4 h1'
 have H1:=Lib.hid h1'
 have H0:=Lib.hid h0'
 have G3:=Lib.hid g3
 have HB3:=Lib.hid (HB2.out.trans (hb3.mono (by omega)))
 have k0:=cell_of_row _ _ 0 _ _ _ h0'
 have k1:=cell_of_row _ _ 1 _ _ _ h0'
 have m0:=cell_of_row _ _ 0 _ _ _ g3
 have m1:=cell_of_row _ _ 1 _ _ _ g3
 have m2:=cell_of_row _ _ 2 _ _ _ g3
 have m3:=cell_of_row _ _ 3 _ _ _ g3
 have m4:=cell_of_row _ _ 4 _ _ _ g3
 have m5:=cell_of_row _ _ 5 _ _ _ g3
 have m6:=cell_of_row _ _ 6 _ _ _ g3
 simp only [nodeV,List.getElem?_toArray,List.getElem?_cons_zero,List.getElem?_cons_succ] at k0 k1 m0 m1 m2 m3 m4 m5 m6
 have HE3:=Lib.hid (HE.out.below HB3.out)
 have HNW3:=Lib.hid (HNW.out.below HB3.out)
 have Z3:w.heap.size+2 < w3.heap.size:=by omega
 clear h1' h0' g3 hb3 hw3 n0 n1 n2 n3 n4 n5 n6 p0 z2 z3
 have hsl:nd'.sl=0:=(right_cases HR.out).2.2.1
 have HSL:=Lib.hid hsl
 have HS:=Lib.hid (show nodeW (wK ns p.vw d) nd' p.vw=.ok ⟨nd'.vk,nd'.vn,nd'.vt,[]⟩ from leaf_node (by have h:=HOP.out;unfold leafW;simp [h]))
 clear hsl
 go_wp2_with fail
 refine retbox rfl (w1:=w3) H1.out rfl ?_
 refine ⟨.ok (x:=⟨nd'.vk,nd'.vn,nd'.vt,[]⟩) (by rw [HS.out]) ?_,below_box (by omega) HB3.out _ _ _ _⟩
 refine ⟨nd'.sa,nd'.sl,nd'.sc,rfl,HSL.out,.inl ⟨HSL.out,?_⟩⟩
 obtain ⟨ss,h⟩:=HNW.out.t
 exact h.z
theorem w_text (na:Option Addr) (nl nc:Nat) (ns:List Nd) (p:Pd) (d:Nat) (IH:WorthAt na nl nc ns p d) (w:World) (q:Nat) (nd:Nd) (hq:q < nl) (hnd:ns[q]?=some nd) (hright:nd.right=true) (hk:∀ k ∈ nd.ks,goodN ns d k) (hE:EnvW w na nl nc ns p) (hv:VwOk p.vw) (hn:∀ x ∈ ns,x.ks.length=x.kl∧I64 x.vn) (hop:nd.op=3) :
 Calls Tryz.prog 29 #[WorkV na nl nc p,.int .i64 (q:Int)] w fun e w'=>MOut e w' w.heap.size (nodeW (wK ns p.vw d) nd p.vw)∧Below w.heap.size w w':=by
 obtain ⟨w2,hw2⟩:∃ w2,w2=(w.alloc (boxW na nl nc p)).alloc boxZ:=⟨_,rfl⟩
 have g0:w2.heap[w.heap.size]?=some (boxW na nl nc p):=by rw [hw2];exact heap_alloc2_old w _ _
 have g1:w2.heap[w.heap.size+1]?=some boxZ:=by rw [hw2];exact heap_alloc2_new w _ _
 have hb2:Below w.heap.size w w2:=by rw [hw2];exact bel2 _ _ _
 have z2:w2.heap.size=w.heap.size+2:=by rw [hw2];simp
 have HNW:=Lib.hid (hE.n nd (List.mem_of_getElem? hnd))
 obtain ⟨nb,no,nd',rfl,hnd',hcl0⟩:=hE.r.at hq
 obtain rfl:nd'=nd:=by rw [hnd] at hnd';exact (Option.some.inj hnd').symm
 have hcl:=fun j v hv=>(hb2.cell (p:=⟨nb,no+q * 7+j,none⟩) (block_lt_of_cell (hcl0 j v hv))).trans (hcl0 j v hv)
 have n0:=hcl 0 _ rfl
 have n1:=hcl 1 _ rfl
 have n2:=hcl 2 _ rfl
 have n3:=hcl 3 _ rfl
 have n4:=hcl 4 _ rfl
 have n5:=hcl 5 _ rfl
 have n6:=hcl 6 _ rfl
 simp only [Nat.add_zero] at n0
 rw [hop] at n0
 have hqI:(q:Int) < (nl:Int):=by omega
 have hnl:=hE.r.2.1
 have hnc:=hE.r.2.2.1
 have p0:=cell_of_row w2 _ 0 _ _ _ g0
 simp only [List.getElem?_toArray,List.getElem?_cons_zero] at p0
 have HK:=Lib.hid hk
 have HE:=Lib.hid hE
 have HIH:=Lib.hid IH
 have HV:=Lib.hid hv
 have HN:=Lib.hid hn
 have HR:=Lib.hid hright
 have G0:=Lib.hid g0
 have G1:=Lib.hid g1
 have HB2:=Lib.hid hb2
 have HOP:=Lib.hid hop
 have HND:=Lib.hid hnd
 clear hk hE IH hv hn hright g0 g1 hb2 hnd hnd' hcl hcl0 hop
 go_enter Tryz.func29,Tryz.ntmps29
 go_upto_region 1 with (fail)
 rw [← hw2]
 clear hw2
 go_upto_region 2 with (fail)
 obtain ⟨w3,hw3⟩:∃ w3,w3=w2.alloc (.cells (nodeV 3 nd'.nm nd'.vk nd'.vn nd'.vt nd'.sa nd'.sl nd'.sc nd'.ka nd'.kl nd'.kc) 56):=⟨_,rfl⟩
 have g3:w3.heap[w.heap.size+2]?=some (.cells (nodeV 3 nd'.nm nd'.vk nd'.vn nd'.vt nd'.sa nd'.sl nd'.sc nd'.ka nd'.kl nd'.kc) 56 (0,0)):=by rw [hw3,← z2];exact heap_alloc_new w2 _
 have hb3:Below w2.heap.size w2 w3:=by rw [hw3];exact bel1 _ _
 have z3:w3.heap.size=w.heap.size+3:=by rw [hw3];simp [z2]
 rw [← hw3]
 have h1':=(hb3.block _ (by omega)).trans G1.out
 have h0':=(hb3.block _ (by omega)).trans G0.out
 obtain ⟨c0,c1,c2,c3,f0,f1,f2,f3⟩:=box4 h1'
 have H1:=Lib.hid h1'
 have H0:=Lib.hid h0'
 have G3:=Lib.hid g3
 have HB3:=Lib.hid (HB2.out.trans (hb3.mono (by omega)))
 have k0:=cell_of_row _ _ 0 _ _ _ h0'
 have k1:=cell_of_row _ _ 1 _ _ _ h0'
 have m0:=cell_of_row _ _ 0 _ _ _ g3
 have m1:=cell_of_row _ _ 1 _ _ _ g3
 have m2:=cell_of_row _ _ 2 _ _ _ g3
 have m3:=cell_of_row _ _ 3 _ _ _ g3
 have m4:=cell_of_row _ _ 4 _ _ _ g3
 have m5:=cell_of_row _ _ 5 _ _ _ g3
 have m6:=cell_of_row _ _ 6 _ _ _ g3
 simp only [nodeV,List.getElem?_toArray,List.getElem?_cons_zero,List.getElem?_cons_succ] at k0 k1 m0 m1 m2 m3 m4 m5 m6
 have HE3:=Lib.hid (HE.out.below HB3.out)
 have HNW3:=Lib.hid (HNW.out.below HB3.out)
 have Z3:w.heap.size+2 < w3.heap.size:=by omega
 clear h1' h0' g3 hb3 hw3 n0 n1 n2 n3 n4 n5 n6 p0 z2 z3
 have HS:=Lib.hid (show nodeW (wK ns p.vw d) nd' p.vw=shortW nd'.vt from leaf_node (by have h:=HOP.out;unfold leafW;simp [h]))
 go_wp2_with fail
 with_reducible refine (short_n w3 nd'.vt).mono ?_
 rintro e w4 ⟨hn,hb4⟩
 have g4:=(hb4.block _ (by omega)).trans H1.out
 obtain ⟨c0,c1,c2,c3,f0,f1,f2,f3⟩:=box4 g4
 have HB4:=Lib.hid (HB3.out.trans (hb4.mono (by omega)))
 rcases hn.cases with ⟨x,hx,rfl,hs⟩ | ⟨er,hx,rfl⟩
 · have HX:=Lib.hid hx
   have HSS:=Lib.hid hs
   clear hx hs hn hb4
   go_wp2_with fail
   refine retbox rfl (w1:=w4) g4 rfl ?_
   exact ⟨.ok (x:=x) (by rw [HS.out,HX.out]) (sv_nil HSS.out),below_box (by omega) HB4.out _ _ _ _⟩
 · have HX:=Lib.hid hx
   clear hx hn hb4
   go_wp2_with fail
   exact ⟨rfl,.err (by rw [HS.out,HX.out]),HB4.out⟩
theorem w_name (na:Option Addr) (nl nc:Nat) (ns:List Nd) (p:Pd) (d:Nat) (IH:WorthAt na nl nc ns p d) (w:World) (q:Nat) (nd:Nd) (hq:q < nl) (hnd:ns[q]?=some nd) (hright:nd.right=true) (hk:∀ k ∈ nd.ks,goodN ns d k) (hE:EnvW w na nl nc ns p) (hv:VwOk p.vw) (hn:∀ x ∈ ns,x.ks.length=x.kl∧I64 x.vn) (hop:nd.op=5) :
 Calls Tryz.prog 29 #[WorkV na nl nc p,.int .i64 (q:Int)] w fun e w'=>MOut e w' w.heap.size (nodeW (wK ns p.vw d) nd p.vw)∧Below w.heap.size w w':=by
 obtain ⟨w2,hw2⟩:∃ w2,w2=(w.alloc (boxW na nl nc p)).alloc boxZ:=⟨_,rfl⟩
 have g0:w2.heap[w.heap.size]?=some (boxW na nl nc p):=by rw [hw2];exact heap_alloc2_old w _ _
 have g1:w2.heap[w.heap.size+1]?=some boxZ:=by rw [hw2];exact heap_alloc2_new w _ _
 have hb2:Below w.heap.size w w2:=by rw [hw2];exact bel2 _ _ _
 have z2:w2.heap.size=w.heap.size+2:=by rw [hw2];simp
 have HNW:=Lib.hid (hE.n nd (List.mem_of_getElem? hnd))
 obtain ⟨nb,no,nd',rfl,hnd',hcl0⟩:=hE.r.at hq
 obtain rfl:nd'=nd:=by rw [hnd] at hnd';exact (Option.some.inj hnd').symm
 have hcl:=fun j v hv=>(hb2.cell (p:=⟨nb,no+q * 7+j,none⟩) (block_lt_of_cell (hcl0 j v hv))).trans (hcl0 j v hv)
 have n0:=hcl 0 _ rfl
 have n1:=hcl 1 _ rfl
 have n2:=hcl 2 _ rfl
 have n3:=hcl 3 _ rfl
 have n4:=hcl 4 _ rfl
 have n5:=hcl 5 _ rfl
 have n6:=hcl 6 _ rfl
 simp only [Nat.add_zero] at n0
 rw [hop] at n0
 have hqI:(q:Int) < (nl:Int):=by omega
 have hnl:=hE.r.2.1
 have hnc:=hE.r.2.2.1
 have p0:=cell_of_row w2 _ 0 _ _ _ g0
 simp only [List.getElem?_toArray,List.getElem?_cons_zero] at p0
 have HK:=Lib.hid hk
 have HE:=Lib.hid hE
 have HIH:=Lib.hid IH
 have HV:=Lib.hid hv
 have HN:=Lib.hid hn
 have HR:=Lib.hid hright
 have G0:=Lib.hid g0
 have G1:=Lib.hid g1
 have HB2:=Lib.hid hb2
 have HOP:=Lib.hid hop
 have HND:=Lib.hid hnd
 clear hk hE IH hv hn hright g0 g1 hb2 hnd hnd' hcl hcl0 hop
 go_enter Tryz.func29,Tryz.ntmps29
 go_upto_region 1 with (fail)
 rw [← hw2]
 clear hw2
 go_upto_region 2 with (fail)
 obtain ⟨w3,hw3⟩:∃ w3,w3=w2.alloc (.cells (nodeV 5 nd'.nm nd'.vk nd'.vn nd'.vt nd'.sa nd'.sl nd'.sc nd'.ka nd'.kl nd'.kc) 56):=⟨_,rfl⟩
 have g3:w3.heap[w.heap.size+2]?=some (.cells (nodeV 5 nd'.nm nd'.vk nd'.vn nd'.vt nd'.sa nd'.sl nd'.sc nd'.ka nd'.kl nd'.kc) 56 (0,0)):=by rw [hw3,← z2];exact heap_alloc_new w2 _
 have hb3:Below w2.heap.size w2 w3:=by rw [hw3];exact bel1 _ _
 have z3:w3.heap.size=w.heap.size+3:=by rw [hw3];simp [z2]
 rw [← hw3]
 have h1':=(hb3.block _ (by omega)).trans G1.out
 have h0':=(hb3.block _ (by omega)).trans G0.out
 obtain ⟨c0,c1,c2,c3,f0,f1,f2,f3⟩:=box4 h1'
 have H1:=Lib.hid h1'
 have H0:=Lib.hid h0'
 have G3:=Lib.hid g3
 have HB3:=Lib.hid (HB2.out.trans (hb3.mono (by omega)))
 have k0:=cell_of_row _ _ 0 _ _ _ h0'
 have k1:=cell_of_row _ _ 1 _ _ _ h0'
 have m0:=cell_of_row _ _ 0 _ _ _ g3
 have m1:=cell_of_row _ _ 1 _ _ _ g3
 have m2:=cell_of_row _ _ 2 _ _ _ g3
 have m3:=cell_of_row _ _ 3 _ _ _ g3
 have m4:=cell_of_row _ _ 4 _ _ _ g3
 have m5:=cell_of_row _ _ 5 _ _ _ g3
 have m6:=cell_of_row _ _ 6 _ _ _ g3
 simp only [nodeV,List.getElem?_toArray,List.getElem?_cons_zero,List.getElem?_cons_succ] at k0 k1 m0 m1 m2 m3 m4 m5 m6
 have HE3:=Lib.hid (HE.out.below HB3.out)
 have HNW3:=Lib.hid (HNW.out.below HB3.out)
 have Z3:w.heap.size+2 < w3.heap.size:=by omega
 clear h1' h0' g3 hb3 hw3 n0 n1 n2 n3 n4 n5 n6 p0 z2 z3
 have HS:=Lib.hid (show nodeW (wK ns p.vw d) nd' p.vw=toldW (p.vw.value nd'.nm) from leaf_node (by have h:=HOP.out;unfold leafW;simp [h]))
 go_wp2_with fail
 with_reducible refine (value_any w3 p HE3.out.p nd'.nm).mono ?_
 rintro e w4 ⟨⟨a4,l4,k4,rfl,hs4⟩,hb4⟩
 replace hs4:=hs4.sv
 have z4:=hb4.size
 have HB4:=Lib.hid (HB3.out.trans (hb4.mono (by omega)))
 have HSV4:=Lib.hid hs4
 have HG4:=Lib.hid ((hb4.block _ (by omega)).trans H1.out)
 have hl4:l4=(p.vw.value nd'.nm).ss.length:=by
  obtain ⟨a',l',c',e,hl,-⟩:=hs4
  simp only [VA,Value.agg.injEq,Array.mk.injEq,List.cons.injEq,Value.slice.injEq,true_and,and_true] at e
  obtain ⟨rfl,rfl,rfl⟩:=e
  exact hl
 have HL4:=Lib.hid (value_len HE3.out.p nd'.nm)
 have hrz:=HSV4.out.rz (by rw [hl4];exact Nat.le_trans HL4.out (by decide))
 have HRZ:=Lib.hid hrz
 generalize hval:p.vw.value nd'.nm=x at *
 have HVAL:=Lib.hid hval
 clear hs4 hl4 hrz hval hb4 c0 c1 c2 c3 f0 f1 f2 f3 k0 k1 m0 m1 m2 m3 m4 m5 m6
 go_wp2_with fail
 with_reducible refine (told_any w4 x a4 l4 k4 HRZ.out.rs).mono ?_
 rintro e w5 ⟨ht,hb5⟩
 have z5:=hb5.size
 have HB5:=Lib.hid (HB4.out.trans (hb5.mono (by omega)))
 have HSV5:=Lib.hid (HSV4.out.below hb5)
 have g5:=(hb5.block _ (by omega)).trans HG4.out
 obtain ⟨c0,c1,c2,c3,f0,f1,f2,f3⟩:=box4 g5
 have HG5:=Lib.hid g5
 clear hb5 g5
 rcases ht with ⟨hx,rfl⟩ | ⟨hx,rfl⟩
 · have HX:=Lib.hid hx
   clear hx
   go_wp2_with fail
   refine retbox rfl (w1:=w5) HG5.out rfl ?_
   refine ⟨.ok (x:=x) (by rw [HS.out];unfold toldW;rw [if_pos HX.out]) ?_,below_box (by omega) HB5.out _ _ _ _⟩
   exact (HSV5.out.box (by omega) _ _ _ _).mono (by omega)
 · have HX:=Lib.hid hx
   clear hx
   go_wp2_with fail
   exact ⟨rfl,.err (by rw [HS.out];unfold toldW;rw [if_neg HX.out]),HB5.out⟩
theorem w_has (na:Option Addr) (nl nc:Nat) (ns:List Nd) (p:Pd) (d:Nat) (IH:WorthAt na nl nc ns p d) (w:World) (q:Nat) (nd:Nd) (hq:q < nl) (hnd:ns[q]?=some nd) (hright:nd.right=true) (hk:∀ k ∈ nd.ks,goodN ns d k) (hE:EnvW w na nl nc ns p) (hv:VwOk p.vw) (hn:∀ x ∈ ns,x.ks.length=x.kl∧I64 x.vn) (hop:nd.op=24) :
 Calls Tryz.prog 29 #[WorkV na nl nc p,.int .i64 (q:Int)] w fun e w'=>MOut e w' w.heap.size (nodeW (wK ns p.vw d) nd p.vw)∧Below w.heap.size w w':=by
 obtain ⟨w2,hw2⟩:∃ w2,w2=(w.alloc (boxW na nl nc p)).alloc boxZ:=⟨_,rfl⟩
 have g0:w2.heap[w.heap.size]?=some (boxW na nl nc p):=by rw [hw2];exact heap_alloc2_old w _ _
 have g1:w2.heap[w.heap.size+1]?=some boxZ:=by rw [hw2];exact heap_alloc2_new w _ _
 have hb2:Below w.heap.size w w2:=by rw [hw2];exact bel2 _ _ _
 have z2:w2.heap.size=w.heap.size+2:=by rw [hw2];simp
 have HNW:=Lib.hid (hE.n nd (List.mem_of_getElem? hnd))
 obtain ⟨nb,no,nd',rfl,hnd',hcl0⟩:=hE.r.at hq
 obtain rfl:nd'=nd:=by rw [hnd] at hnd';exact (Option.some.inj hnd').symm
 have hcl:=fun j v hv=>(hb2.cell (p:=⟨nb,no+q * 7+j,none⟩) (block_lt_of_cell (hcl0 j v hv))).trans (hcl0 j v hv)
 have n0:=hcl 0 _ rfl
 have n1:=hcl 1 _ rfl
 have n2:=hcl 2 _ rfl
 have n3:=hcl 3 _ rfl
 have n4:=hcl 4 _ rfl
 have n5:=hcl 5 _ rfl
 have n6:=hcl 6 _ rfl
 simp only [Nat.add_zero] at n0
 rw [hop] at n0
 have hqI:(q:Int) < (nl:Int):=by omega
 have hnl:=hE.r.2.1
 have hnc:=hE.r.2.2.1
 have p0:=cell_of_row w2 _ 0 _ _ _ g0
 simp only [List.getElem?_toArray,List.getElem?_cons_zero] at p0
 have HK:=Lib.hid hk
 have HE:=Lib.hid hE
 have HIH:=Lib.hid IH
 have HV:=Lib.hid hv
 have HN:=Lib.hid hn
 have HR:=Lib.hid hright
 have G0:=Lib.hid g0
 have G1:=Lib.hid g1
 have HB2:=Lib.hid hb2
 have HOP:=Lib.hid hop
 have HND:=Lib.hid hnd
 clear hk hE IH hv hn hright g0 g1 hb2 hnd hnd' hcl hcl0 hop
 go_enter Tryz.func29,Tryz.ntmps29
 go_upto_region 1 with (fail)
 rw [← hw2]
 clear hw2
 go_upto_region 2 with (fail)
 obtain ⟨w3,hw3⟩:∃ w3,w3=w2.alloc (.cells (nodeV 24 nd'.nm nd'.vk nd'.vn nd'.vt nd'.sa nd'.sl nd'.sc nd'.ka nd'.kl nd'.kc) 56):=⟨_,rfl⟩
 have g3:w3.heap[w.heap.size+2]?=some (.cells (nodeV 24 nd'.nm nd'.vk nd'.vn nd'.vt nd'.sa nd'.sl nd'.sc nd'.ka nd'.kl nd'.kc) 56 (0,0)):=by rw [hw3,← z2];exact heap_alloc_new w2 _
 have hb3:Below w2.heap.size w2 w3:=by rw [hw3];exact bel1 _ _
 have z3:w3.heap.size=w.heap.size+3:=by rw [hw3];simp [z2]
 rw [← hw3]
 have h1':=(hb3.block _ (by omega)).trans G1.out
 have h0':=(hb3.block _ (by omega)).trans G0.out
 obtain ⟨c0,c1,c2,c3,f0,f1,f2,f3⟩:=box4 h1'
 have H1:=Lib.hid h1'
 have H0:=Lib.hid h0'
 have G3:=Lib.hid g3
 have HB3:=Lib.hid (HB2.out.trans (hb3.mono (by omega)))
 have k0:=cell_of_row _ _ 0 _ _ _ h0'
 have k1:=cell_of_row _ _ 1 _ _ _ h0'
 have m0:=cell_of_row _ _ 0 _ _ _ g3
 have m1:=cell_of_row _ _ 1 _ _ _ g3
 have m2:=cell_of_row _ _ 2 _ _ _ g3
 have m3:=cell_of_row _ _ 3 _ _ _ g3
 have m4:=cell_of_row _ _ 4 _ _ _ g3
 have m5:=cell_of_row _ _ 5 _ _ _ g3
 have m6:=cell_of_row _ _ 6 _ _ _ g3
 simp only [nodeV,List.getElem?_toArray,List.getElem?_cons_zero,List.getElem?_cons_succ] at k0 k1 m0 m1 m2 m3 m4 m5 m6
 have HE3:=Lib.hid (HE.out.below HB3.out)
 have HNW3:=Lib.hid (HNW.out.below HB3.out)
 have Z3:w.heap.size+2 < w3.heap.size:=by omega
 clear h1' h0' g3 hb3 hw3 n0 n1 n2 n3 n4 n5 n6 p0 z2 z3
 have HS:=Lib.hid (show nodeW (wK ns p.vw d) nd' p.vw=(match toldW (p.vw.value nd'.nm) with | .error e=>.error e | .ok x=>.ok (truthV (x.k != 0))) from leaf_node (by have h:=HOP.out;unfold leafW;simp [h];cases toldW (p.vw.value nd'.nm) <;> rfl))
 go_wp2_with fail
 with_reducible refine (value_any w3 p HE3.out.p nd'.nm).mono ?_
 rintro e w4 ⟨⟨a4,l4,k4,rfl,hs4⟩,hb4⟩
 replace hs4:=hs4.sv
 have z4:=hb4.size
 have HB4:=Lib.hid (HB3.out.trans (hb4.mono (by omega)))
 have HSV4:=Lib.hid hs4
 have HG4:=Lib.hid ((hb4.block _ (by omega)).trans H1.out)
 have hl4:l4=(p.vw.value nd'.nm).ss.length:=by
  obtain ⟨a',l',c',e,hl,-⟩:=hs4
  simp only [VA,Value.agg.injEq,Array.mk.injEq,List.cons.injEq,Value.slice.injEq,true_and,and_true] at e
  obtain ⟨rfl,rfl,rfl⟩:=e
  exact hl
 have HL4:=Lib.hid (value_len HE3.out.p nd'.nm)
 have hrz:=HSV4.out.rz (by rw [hl4];exact Nat.le_trans HL4.out (by decide))
 have HRZ:=Lib.hid hrz
 generalize hval:p.vw.value nd'.nm=x at *
 have HVAL:=Lib.hid hval
 clear hs4 hl4 hrz hval hb4 c0 c1 c2 c3 f0 f1 f2 f3 k0 k1 m0 m1 m2 m3 m4 m5 m6
 go_wp2_with fail
 with_reducible refine (told_any w4 x a4 l4 k4 HRZ.out.rs).mono ?_
 rintro e w5 ⟨ht,hb5⟩
 have z5:=hb5.size
 have HB5:=Lib.hid (HB4.out.trans (hb5.mono (by omega)))
 have HSV5:=Lib.hid (HSV4.out.below hb5)
 have g5:=(hb5.block _ (by omega)).trans HG4.out
 obtain ⟨c0,c1,c2,c3,f0,f1,f2,f3⟩:=box4 g5
 have HG5:=Lib.hid g5
 clear hb5 g5
 rcases ht with ⟨hx,rfl⟩ | ⟨hx,rfl⟩
 · have HX:=Lib.hid hx
   clear hx
   have hfld:=fld25 x.k x.n x.t a4 l4 k4 w5
   go_wp2_with fail
   with_reducible refine (truth_n w5 (x.k != 0)).mono ?_
   rintro e w6 ⟨⟨rfl,hs6⟩,hb6⟩
   have g6:=(hb6.block _ (by omega)).trans HG5.out
   obtain ⟨c0,c1,c2,c3,f0,f1,f2,f3⟩:=box4 g6
   have HB6:=Lib.hid (HB5.out.trans (hb6.mono (by omega)))
   clear hb6 hs6
   go_wp2_with fail
   refine retbox rfl (w1:=w6) g6 rfl ?_
   exact ⟨.ok (x:=truthV (x.k != 0)) (by rw [HS.out];unfold toldW;rw [if_pos HX.out]) (sv_nil rfl),below_box (by omega) HB6.out _ _ _ _⟩
 · have HX:=Lib.hid hx
   clear hx
   go_wp2_with fail
   exact ⟨rfl,.err (by rw [HS.out];unfold toldW;rw [if_neg HX.out]),HB5.out⟩
theorem w_open (na:Option Addr) (nl nc:Nat) (ns:List Nd) (p:Pd) (d:Nat) (IH:WorthAt na nl nc ns p d) (w:World) (q:Nat) (nd:Nd) (hq:q < nl) (hnd:ns[q]?=some nd) (hright:nd.right=true) (hk:∀ k ∈ nd.ks,goodN ns d k) (hE:EnvW w na nl nc ns p) (hv:VwOk p.vw) (hn:∀ x ∈ ns,x.ks.length=x.kl∧I64 x.vn) (hop:nd.op=25) :
 Calls Tryz.prog 29 #[WorkV na nl nc p,.int .i64 (q:Int)] w fun e w'=>MOut e w' w.heap.size (nodeW (wK ns p.vw d) nd p.vw)∧Below w.heap.size w w':=by
 obtain ⟨w2,hw2⟩:∃ w2,w2=(w.alloc (boxW na nl nc p)).alloc boxZ:=⟨_,rfl⟩
 have g0:w2.heap[w.heap.size]?=some (boxW na nl nc p):=by rw [hw2];exact heap_alloc2_old w _ _
 have g1:w2.heap[w.heap.size+1]?=some boxZ:=by rw [hw2];exact heap_alloc2_new w _ _
 have hb2:Below w.heap.size w w2:=by rw [hw2];exact bel2 _ _ _
 have z2:w2.heap.size=w.heap.size+2:=by rw [hw2];simp
 have HNW:=Lib.hid (hE.n nd (List.mem_of_getElem? hnd))
 obtain ⟨nb,no,nd',rfl,hnd',hcl0⟩:=hE.r.at hq
 obtain rfl:nd'=nd:=by rw [hnd] at hnd';exact (Option.some.inj hnd').symm
 have hcl:=fun j v hv=>(hb2.cell (p:=⟨nb,no+q * 7+j,none⟩) (block_lt_of_cell (hcl0 j v hv))).trans (hcl0 j v hv)
 have n0:=hcl 0 _ rfl
 have n1:=hcl 1 _ rfl
 have n2:=hcl 2 _ rfl
 have n3:=hcl 3 _ rfl
 have n4:=hcl 4 _ rfl
 have n5:=hcl 5 _ rfl
 have n6:=hcl 6 _ rfl
 simp only [Nat.add_zero] at n0
 rw [hop] at n0
 have hqI:(q:Int) < (nl:Int):=by omega
 have hnl:=hE.r.2.1
 have hnc:=hE.r.2.2.1
 have p0:=cell_of_row w2 _ 0 _ _ _ g0
 simp only [List.getElem?_toArray,List.getElem?_cons_zero] at p0
 have HK:=Lib.hid hk
 have HE:=Lib.hid hE
 have HIH:=Lib.hid IH
 have HV:=Lib.hid hv
 have HN:=Lib.hid hn
 have HR:=Lib.hid hright
 have G0:=Lib.hid g0
 have G1:=Lib.hid g1
 have HB2:=Lib.hid hb2
 have HOP:=Lib.hid hop
 have HND:=Lib.hid hnd
 clear hk hE IH hv hn hright g0 g1 hb2 hnd hnd' hcl hcl0 hop
 go_enter Tryz.func29,Tryz.ntmps29
 go_upto_region 1 with (fail)
 rw [← hw2]
 clear hw2
 go_upto_region 2 with (fail)
 obtain ⟨w3,hw3⟩:∃ w3,w3=w2.alloc (.cells (nodeV 25 nd'.nm nd'.vk nd'.vn nd'.vt nd'.sa nd'.sl nd'.sc nd'.ka nd'.kl nd'.kc) 56):=⟨_,rfl⟩
 have g3:w3.heap[w.heap.size+2]?=some (.cells (nodeV 25 nd'.nm nd'.vk nd'.vn nd'.vt nd'.sa nd'.sl nd'.sc nd'.ka nd'.kl nd'.kc) 56 (0,0)):=by rw [hw3,← z2];exact heap_alloc_new w2 _
 have hb3:Below w2.heap.size w2 w3:=by rw [hw3];exact bel1 _ _
 have z3:w3.heap.size=w.heap.size+3:=by rw [hw3];simp [z2]
 rw [← hw3]
 have h1':=(hb3.block _ (by omega)).trans G1.out
 have h0':=(hb3.block _ (by omega)).trans G0.out
 obtain ⟨c0,c1,c2,c3,f0,f1,f2,f3⟩:=box4 h1'
 have H1:=Lib.hid h1'
 have H0:=Lib.hid h0'
 have G3:=Lib.hid g3
 have HB3:=Lib.hid (HB2.out.trans (hb3.mono (by omega)))
 have k0:=cell_of_row _ _ 0 _ _ _ h0'
 have k1:=cell_of_row _ _ 1 _ _ _ h0'
 have m0:=cell_of_row _ _ 0 _ _ _ g3
 have m1:=cell_of_row _ _ 1 _ _ _ g3
 have m2:=cell_of_row _ _ 2 _ _ _ g3
 have m3:=cell_of_row _ _ 3 _ _ _ g3
 have m4:=cell_of_row _ _ 4 _ _ _ g3
 have m5:=cell_of_row _ _ 5 _ _ _ g3
 have m6:=cell_of_row _ _ 6 _ _ _ g3
 simp only [nodeV,List.getElem?_toArray,List.getElem?_cons_zero,List.getElem?_cons_succ] at k0 k1 m0 m1 m2 m3 m4 m5 m6
 have HE3:=Lib.hid (HE.out.below HB3.out)
 have HNW3:=Lib.hid (HNW.out.below HB3.out)
 have Z3:w.heap.size+2 < w3.heap.size:=by omega
 clear h1' h0' g3 hb3 hw3 n0 n1 n2 n3 n4 n5 n6 p0 z2 z3
 have HS:=Lib.hid (show nodeW (wK ns p.vw d) nd' p.vw=.ok (truthV (inSS p.os nd'.nm)) from leaf_node (by have h:=HOP.out;unfold leafW;simp [h];rfl))
 go_wp2_with fail
 with_reducible refine (open_any w3 p HE3.out.p nd'.nm).mono ?_
 rintro e w4 ⟨rfl,hb4⟩
 have z4:=hb4.size
 have HB4:=Lib.hid (HB3.out.trans (hb4.mono (by omega)))
 have HG4:=Lib.hid ((hb4.block _ (by omega)).trans H1.out)
 clear hb4 c0 c1 c2 c3 f0 f1 f2 f3 k0 k1 m0 m1 m2 m3 m4 m5 m6
 go_wp2_with fail
 with_reducible refine (truth_n w4 _).mono ?_
 rintro e w5 ⟨⟨rfl,hs5⟩,hb5⟩
 have z5:=hb5.size
 have HB5:=Lib.hid (HB4.out.trans (hb5.mono (by omega)))
 have g5:=(hb5.block _ (by omega)).trans HG4.out
 obtain ⟨c0,c1,c2,c3,f0,f1,f2,f3⟩:=box4 g5
 clear hb5 hs5
 go_wp2_with fail
 refine retbox rfl (w1:=w5) g5 rfl ?_
 exact ⟨.ok (by rw [HS.out]) (sv_nil rfl),below_box (by omega) HB5.out _ _ _ _⟩
theorem w_reached (na:Option Addr) (nl nc:Nat) (ns:List Nd) (p:Pd) (d:Nat) (IH:WorthAt na nl nc ns p d) (w:World) (q:Nat) (nd:Nd) (hq:q < nl) (hnd:ns[q]?=some nd) (hright:nd.right=true) (hk:∀ k ∈ nd.ks,goodN ns d k) (hE:EnvW w na nl nc ns p) (hv:VwOk p.vw) (hn:∀ x ∈ ns,x.ks.length=x.kl∧I64 x.vn) (hop:nd.op=26) :
 Calls Tryz.prog 29 #[WorkV na nl nc p,.int .i64 (q:Int)] w fun e w'=>MOut e w' w.heap.size (nodeW (wK ns p.vw d) nd p.vw)∧Below w.heap.size w w':=by
 obtain ⟨w2,hw2⟩:∃ w2,w2=(w.alloc (boxW na nl nc p)).alloc boxZ:=⟨_,rfl⟩
 have g0:w2.heap[w.heap.size]?=some (boxW na nl nc p):=by rw [hw2];exact heap_alloc2_old w _ _
 have g1:w2.heap[w.heap.size+1]?=some boxZ:=by rw [hw2];exact heap_alloc2_new w _ _
 have hb2:Below w.heap.size w w2:=by rw [hw2];exact bel2 _ _ _
 have z2:w2.heap.size=w.heap.size+2:=by rw [hw2];simp
 have HNW:=Lib.hid (hE.n nd (List.mem_of_getElem? hnd))
 obtain ⟨nb,no,nd',rfl,hnd',hcl0⟩:=hE.r.at hq
 obtain rfl:nd'=nd:=by rw [hnd] at hnd';exact (Option.some.inj hnd').symm
 have hcl:=fun j v hv=>(hb2.cell (p:=⟨nb,no+q * 7+j,none⟩) (block_lt_of_cell (hcl0 j v hv))).trans (hcl0 j v hv)
 have n0:=hcl 0 _ rfl
 have n1:=hcl 1 _ rfl
 have n2:=hcl 2 _ rfl
 have n3:=hcl 3 _ rfl
 have n4:=hcl 4 _ rfl
 have n5:=hcl 5 _ rfl
 have n6:=hcl 6 _ rfl
 simp only [Nat.add_zero] at n0
 rw [hop] at n0
 have hqI:(q:Int) < (nl:Int):=by omega
 have hnl:=hE.r.2.1
 have hnc:=hE.r.2.2.1
 have p0:=cell_of_row w2 _ 0 _ _ _ g0
 simp only [List.getElem?_toArray,List.getElem?_cons_zero] at p0
 have HK:=Lib.hid hk
 have HE:=Lib.hid hE
 have HIH:=Lib.hid IH
 have HV:=Lib.hid hv
 have HN:=Lib.hid hn
 have HR:=Lib.hid hright
 have G0:=Lib.hid g0
 have G1:=Lib.hid g1
 have HB2:=Lib.hid hb2
 have HOP:=Lib.hid hop
 have HND:=Lib.hid hnd
 clear hk hE IH hv hn hright g0 g1 hb2 hnd hnd' hcl hcl0 hop
 go_enter Tryz.func29,Tryz.ntmps29
 go_upto_region 1 with (fail)
 rw [← hw2]
 clear hw2
 go_upto_region 2 with (fail)
 obtain ⟨w3,hw3⟩:∃ w3,w3=w2.alloc (.cells (nodeV 26 nd'.nm nd'.vk nd'.vn nd'.vt nd'.sa nd'.sl nd'.sc nd'.ka nd'.kl nd'.kc) 56):=⟨_,rfl⟩
 have g3:w3.heap[w.heap.size+2]?=some (.cells (nodeV 26 nd'.nm nd'.vk nd'.vn nd'.vt nd'.sa nd'.sl nd'.sc nd'.ka nd'.kl nd'.kc) 56 (0,0)):=by rw [hw3,← z2];exact heap_alloc_new w2 _
 have hb3:Below w2.heap.size w2 w3:=by rw [hw3];exact bel1 _ _
 have z3:w3.heap.size=w.heap.size+3:=by rw [hw3];simp [z2]
 rw [← hw3]
 have h1':=(hb3.block _ (by omega)).trans G1.out
 have h0':=(hb3.block _ (by omega)).trans G0.out
 obtain ⟨c0,c1,c2,c3,f0,f1,f2,f3⟩:=box4 h1'
 have H1:=Lib.hid h1'
 have H0:=Lib.hid h0'
 have G3:=Lib.hid g3
 have HB3:=Lib.hid (HB2.out.trans (hb3.mono (by omega)))
 have k0:=cell_of_row _ _ 0 _ _ _ h0'
 have k1:=cell_of_row _ _ 1 _ _ _ h0'
 have m0:=cell_of_row _ _ 0 _ _ _ g3
 have m1:=cell_of_row _ _ 1 _ _ _ g3
 have m2:=cell_of_row _ _ 2 _ _ _ g3
 have m3:=cell_of_row _ _ 3 _ _ _ g3
 have m4:=cell_of_row _ _ 4 _ _ _ g3
 have m5:=cell_of_row _ _ 5 _ _ _ g3
 have m6:=cell_of_row _ _ 6 _ _ _ g3
 simp only [nodeV,List.getElem?_toArray,List.getElem?_cons_zero,List.getElem?_cons_succ] at k0 k1 m0 m1 m2 m3 m4 m5 m6
 have HE3:=Lib.hid (HE.out.below HB3.out)
 have HNW3:=Lib.hid (HNW.out.below HB3.out)
 have Z3:w.heap.size+2 < w3.heap.size:=by omega
 clear h1' h0' g3 hb3 hw3 n0 n1 n2 n3 n4 n5 n6 p0 z2 z3
 have HS:=Lib.hid (show nodeW (wK ns p.vw d) nd' p.vw=.ok (truthV (inSS p.rs nd'.nm)) from leaf_node (by have h:=HOP.out;unfold leafW;simp [h];rfl))
 go_wp2_with fail
 with_reducible refine (reached_any w3 p HE3.out.p nd'.nm).mono ?_
 rintro e w4 ⟨rfl,hb4⟩
 have z4:=hb4.size
 have HB4:=Lib.hid (HB3.out.trans (hb4.mono (by omega)))
 have HG4:=Lib.hid ((hb4.block _ (by omega)).trans H1.out)
 clear hb4 c0 c1 c2 c3 f0 f1 f2 f3 k0 k1 m0 m1 m2 m3 m4 m5 m6
 go_wp2_with fail
 with_reducible refine (truth_n w4 _).mono ?_
 rintro e w5 ⟨⟨rfl,hs5⟩,hb5⟩
 have z5:=hb5.size
 have HB5:=Lib.hid (HB4.out.trans (hb5.mono (by omega)))
 have g5:=(hb5.block _ (by omega)).trans HG4.out
 obtain ⟨c0,c1,c2,c3,f0,f1,f2,f3⟩:=box4 g5
 clear hb5 hs5
 go_wp2_with fail
 refine retbox rfl (w1:=w5) g5 rfl ?_
 exact ⟨.ok (by rw [HS.out]) (sv_nil rfl),below_box (by omega) HB5.out _ _ _ _⟩
theorem w_steps (na:Option Addr) (nl nc:Nat) (ns:List Nd) (p:Pd) (d:Nat) (IH:WorthAt na nl nc ns p d) (w:World) (q:Nat) (nd:Nd) (hq:q < nl) (hnd:ns[q]?=some nd) (hright:nd.right=true) (hk:∀ k ∈ nd.ks,goodN ns d k) (hE:EnvW w na nl nc ns p) (hv:VwOk p.vw) (hn:∀ x ∈ ns,x.ks.length=x.kl∧I64 x.vn) (hop:nd.op=30) :
 Calls Tryz.prog 29 #[WorkV na nl nc p,.int .i64 (q:Int)] w fun e w'=>MOut e w' w.heap.size (nodeW (wK ns p.vw d) nd p.vw)∧Below w.heap.size w w':=by
 obtain ⟨w2,hw2⟩:∃ w2,w2=(w.alloc (boxW na nl nc p)).alloc boxZ:=⟨_,rfl⟩
 have g0:w2.heap[w.heap.size]?=some (boxW na nl nc p):=by rw [hw2];exact heap_alloc2_old w _ _
 have g1:w2.heap[w.heap.size+1]?=some boxZ:=by rw [hw2];exact heap_alloc2_new w _ _
 have hb2:Below w.heap.size w w2:=by rw [hw2];exact bel2 _ _ _
 have z2:w2.heap.size=w.heap.size+2:=by rw [hw2];simp
 have HNW:=Lib.hid (hE.n nd (List.mem_of_getElem? hnd))
 obtain ⟨nb,no,nd',rfl,hnd',hcl0⟩:=hE.r.at hq
 obtain rfl:nd'=nd:=by rw [hnd] at hnd';exact (Option.some.inj hnd').symm
 have hcl:=fun j v hv=>(hb2.cell (p:=⟨nb,no+q * 7+j,none⟩) (block_lt_of_cell (hcl0 j v hv))).trans (hcl0 j v hv)
 have n0:=hcl 0 _ rfl
 have n1:=hcl 1 _ rfl
 have n2:=hcl 2 _ rfl
 have n3:=hcl 3 _ rfl
 have n4:=hcl 4 _ rfl
 have n5:=hcl 5 _ rfl
 have n6:=hcl 6 _ rfl
 simp only [Nat.add_zero] at n0
 rw [hop] at n0
 have hqI:(q:Int) < (nl:Int):=by omega
 have hnl:=hE.r.2.1
 have hnc:=hE.r.2.2.1
 have p0:=cell_of_row w2 _ 0 _ _ _ g0
 simp only [List.getElem?_toArray,List.getElem?_cons_zero] at p0
 have HK:=Lib.hid hk
 have HE:=Lib.hid hE
 have HIH:=Lib.hid IH
 have HV:=Lib.hid hv
 have HN:=Lib.hid hn
 have HR:=Lib.hid hright
 have G0:=Lib.hid g0
 have G1:=Lib.hid g1
 have HB2:=Lib.hid hb2
 have HOP:=Lib.hid hop
 have HND:=Lib.hid hnd
 clear hk hE IH hv hn hright g0 g1 hb2 hnd hnd' hcl hcl0 hop
 go_enter Tryz.func29,Tryz.ntmps29
 go_upto_region 1 with (fail)
 rw [← hw2]
 clear hw2
 go_upto_region 2 with (fail)
 obtain ⟨w3,hw3⟩:∃ w3,w3=w2.alloc (.cells (nodeV 30 nd'.nm nd'.vk nd'.vn nd'.vt nd'.sa nd'.sl nd'.sc nd'.ka nd'.kl nd'.kc) 56):=⟨_,rfl⟩
 have g3:w3.heap[w.heap.size+2]?=some (.cells (nodeV 30 nd'.nm nd'.vk nd'.vn nd'.vt nd'.sa nd'.sl nd'.sc nd'.ka nd'.kl nd'.kc) 56 (0,0)):=by rw [hw3,← z2];exact heap_alloc_new w2 _
 have hb3:Below w2.heap.size w2 w3:=by rw [hw3];exact bel1 _ _
 have z3:w3.heap.size=w.heap.size+3:=by rw [hw3];simp [z2]
 rw [← hw3]
 have h1':=(hb3.block _ (by omega)).trans G1.out
 have h0':=(hb3.block _ (by omega)).trans G0.out
 obtain ⟨c0,c1,c2,c3,f0,f1,f2,f3⟩:=box4 h1'
 have H1:=Lib.hid h1'
 have H0:=Lib.hid h0'
 have G3:=Lib.hid g3
 have HB3:=Lib.hid (HB2.out.trans (hb3.mono (by omega)))
 have k0:=cell_of_row _ _ 0 _ _ _ h0'
 have k1:=cell_of_row _ _ 1 _ _ _ h0'
 have m0:=cell_of_row _ _ 0 _ _ _ g3
 have m1:=cell_of_row _ _ 1 _ _ _ g3
 have m2:=cell_of_row _ _ 2 _ _ _ g3
 have m3:=cell_of_row _ _ 3 _ _ _ g3
 have m4:=cell_of_row _ _ 4 _ _ _ g3
 have m5:=cell_of_row _ _ 5 _ _ _ g3
 have m6:=cell_of_row _ _ 6 _ _ _ g3
 simp only [nodeV,List.getElem?_toArray,List.getElem?_cons_zero,List.getElem?_cons_succ] at k0 k1 m0 m1 m2 m3 m4 m5 m6
 have HE3:=Lib.hid (HE.out.below HB3.out)
 have HNW3:=Lib.hid (HNW.out.below HB3.out)
 have Z3:w.heap.size+2 < w3.heap.size:=by omega
 clear h1' h0' g3 hb3 hw3 n0 n1 n2 n3 n4 n5 n6 p0 z2 z3
 have HS:=Lib.hid (show nodeW (wK ns p.vw d) nd' p.vw=.ok (intV p.steps) from leaf_node (by have h:=HOP.out;unfold leafW;simp [h];rfl))
 go_wp2_with fail
 with_reducible refine (steps_any w3 p).mono ?_
 rintro e w4 ⟨rfl,hb4⟩
 have z4:=hb4.size
 have HB4:=Lib.hid (HB3.out.trans (hb4.mono (by omega)))
 have HG4:=Lib.hid ((hb4.block _ (by omega)).trans H1.out)
 clear hb4 c0 c1 c2 c3 f0 f1 f2 f3 k0 k1 m0 m1 m2 m3 m4 m5 m6
 go_wp2_with fail
 with_reducible refine (integer_n w4 _).mono ?_
 rintro e w5 ⟨⟨rfl,hs5⟩,hb5⟩
 have z5:=hb5.size
 have HB5:=Lib.hid (HB4.out.trans (hb5.mono (by omega)))
 have g5:=(hb5.block _ (by omega)).trans HG4.out
 obtain ⟨c0,c1,c2,c3,f0,f1,f2,f3⟩:=box4 g5
 clear hb5 hs5
 go_wp2_with fail
 refine retbox rfl (w1:=w5) g5 rfl ?_
 exact ⟨.ok (by rw [HS.out]) (sv_nil rfl),below_box (by omega) HB5.out _ _ _ _⟩
theorem w_clock (na:Option Addr) (nl nc:Nat) (ns:List Nd) (p:Pd) (d:Nat) (IH:WorthAt na nl nc ns p d) (w:World) (q:Nat) (nd:Nd) (hq:q < nl) (hnd:ns[q]?=some nd) (hright:nd.right=true) (hk:∀ k ∈ nd.ks,goodN ns d k) (hE:EnvW w na nl nc ns p) (hv:VwOk p.vw) (hn:∀ x ∈ ns,x.ks.length=x.kl∧I64 x.vn) (hop:nd.op=29) :
 Calls Tryz.prog 29 #[WorkV na nl nc p,.int .i64 (q:Int)] w fun e w'=>MOut e w' w.heap.size (nodeW (wK ns p.vw d) nd p.vw)∧Below w.heap.size w w':=by
 obtain ⟨w2,hw2⟩:∃ w2,w2=(w.alloc (boxW na nl nc p)).alloc boxZ:=⟨_,rfl⟩
 have g0:w2.heap[w.heap.size]?=some (boxW na nl nc p):=by rw [hw2];exact heap_alloc2_old w _ _
 have g1:w2.heap[w.heap.size+1]?=some boxZ:=by rw [hw2];exact heap_alloc2_new w _ _
 have hb2:Below w.heap.size w w2:=by rw [hw2];exact bel2 _ _ _
 have z2:w2.heap.size=w.heap.size+2:=by rw [hw2];simp
 have HNW:=Lib.hid (hE.n nd (List.mem_of_getElem? hnd))
 obtain ⟨nb,no,nd',rfl,hnd',hcl0⟩:=hE.r.at hq
 obtain rfl:nd'=nd:=by rw [hnd] at hnd';exact (Option.some.inj hnd').symm
 have hcl:=fun j v hv=>(hb2.cell (p:=⟨nb,no+q * 7+j,none⟩) (block_lt_of_cell (hcl0 j v hv))).trans (hcl0 j v hv)
 have n0:=hcl 0 _ rfl
 have n1:=hcl 1 _ rfl
 have n2:=hcl 2 _ rfl
 have n3:=hcl 3 _ rfl
 have n4:=hcl 4 _ rfl
 have n5:=hcl 5 _ rfl
 have n6:=hcl 6 _ rfl
 simp only [Nat.add_zero] at n0
 rw [hop] at n0
 have hqI:(q:Int) < (nl:Int):=by omega
 have hnl:=hE.r.2.1
 have hnc:=hE.r.2.2.1
 have p0:=cell_of_row w2 _ 0 _ _ _ g0
 simp only [List.getElem?_toArray,List.getElem?_cons_zero] at p0
 have HK:=Lib.hid hk
 have HE:=Lib.hid hE
 have HIH:=Lib.hid IH
 have HV:=Lib.hid hv
 have HN:=Lib.hid hn
 have HR:=Lib.hid hright
 have G0:=Lib.hid g0
 have G1:=Lib.hid g1
 have HB2:=Lib.hid hb2
 have HOP:=Lib.hid hop
 have HND:=Lib.hid hnd
 clear hk hE IH hv hn hright g0 g1 hb2 hnd hnd' hcl hcl0 hop
 go_enter Tryz.func29,Tryz.ntmps29
 go_upto_region 1 with (fail)
 rw [← hw2]
 clear hw2
 go_upto_region 2 with (fail)
 obtain ⟨w3,hw3⟩:∃ w3,w3=w2.alloc (.cells (nodeV 29 nd'.nm nd'.vk nd'.vn nd'.vt nd'.sa nd'.sl nd'.sc nd'.ka nd'.kl nd'.kc) 56):=⟨_,rfl⟩
 have g3:w3.heap[w.heap.size+2]?=some (.cells (nodeV 29 nd'.nm nd'.vk nd'.vn nd'.vt nd'.sa nd'.sl nd'.sc nd'.ka nd'.kl nd'.kc) 56 (0,0)):=by rw [hw3,← z2];exact heap_alloc_new w2 _
 have hb3:Below w2.heap.size w2 w3:=by rw [hw3];exact bel1 _ _
 have z3:w3.heap.size=w.heap.size+3:=by rw [hw3];simp [z2]
 rw [← hw3]
 have h1':=(hb3.block _ (by omega)).trans G1.out
 have h0':=(hb3.block _ (by omega)).trans G0.out
 obtain ⟨c0,c1,c2,c3,f0,f1,f2,f3⟩:=box4 h1'
 have H1:=Lib.hid h1'
 have H0:=Lib.hid h0'
 have G3:=Lib.hid g3
 have HB3:=Lib.hid (HB2.out.trans (hb3.mono (by omega)))
 have k0:=cell_of_row _ _ 0 _ _ _ h0'
 have k1:=cell_of_row _ _ 1 _ _ _ h0'
 have m0:=cell_of_row _ _ 0 _ _ _ g3
 have m1:=cell_of_row _ _ 1 _ _ _ g3
 have m2:=cell_of_row _ _ 2 _ _ _ g3
 have m3:=cell_of_row _ _ 3 _ _ _ g3
 have m4:=cell_of_row _ _ 4 _ _ _ g3
 have m5:=cell_of_row _ _ 5 _ _ _ g3
 have m6:=cell_of_row _ _ 6 _ _ _ g3
 simp only [nodeV,List.getElem?_toArray,List.getElem?_cons_zero,List.getElem?_cons_succ] at k0 k1 m0 m1 m2 m3 m4 m5 m6
 have HE3:=Lib.hid (HE.out.below HB3.out)
 have HNW3:=Lib.hid (HNW.out.below HB3.out)
 have Z3:w.heap.size+2 < w3.heap.size:=by omega
 clear h1' h0' g3 hb3 hw3 n0 n1 n2 n3 n4 n5 n6 p0 z2 z3
 have HS:=Lib.hid (show nodeW (wK ns p.vw d) nd' p.vw=toldW (timeV p.clock) from leaf_node (by have h:=HOP.out;unfold leafW;simp [h];rfl))
 go_wp2_with fail
 with_reducible refine (clock_any w3 p).mono ?_
 rintro e w4 ⟨rfl,hb4⟩
 have z4:=hb4.size
 have HB4:=Lib.hid (HB3.out.trans (hb4.mono (by omega)))
 have HG4:=Lib.hid ((hb4.block _ (by omega)).trans H1.out)
 clear hb4 c0 c1 c2 c3 f0 f1 f2 f3 k0 k1 m0 m1 m2 m3 m4 m5 m6
 go_wp2_with fail
 with_reducible refine (timed_any w4 p.clock).mono ?_
 rintro e w5 ⟨rfl,hw5⟩
 have hb5:Below w4.heap.size w4 w5:=by rw [hw5];exact bel1 _ _
 have z5:=hb5.size
 have HB5:=Lib.hid (HB4.out.trans (hb5.mono (by omega)))
 have HG5:=Lib.hid ((hb5.block _ (by omega)).trans HG4.out)
 clear hb5 hw5
 go_wp2_with fail
 have hz0:RS 1 Sv w5 none 0 0 (timeV p.clock).ss:=rs_nil1 w5
 have HZ0:=Lib.hid hz0
 clear hz0
 with_reducible refine (told_any w5 (timeV p.clock) none 0 0 HZ0.out).mono ?_
 rintro e w6 ⟨ht,hb6⟩
 have z6:=hb6.size
 have HB6:=Lib.hid (HB5.out.trans (hb6.mono (by omega)))
 have g6:=(hb6.block _ (by omega)).trans HG5.out
 obtain ⟨c0,c1,c2,c3,f0,f1,f2,f3⟩:=box4 g6
 clear hb6
 rcases ht with ⟨hx,rfl⟩ | ⟨hx,rfl⟩
 · have HX:=Lib.hid hx
   clear hx
   go_wp2_with fail
   refine retbox rfl (w1:=w6) g6 rfl ?_
   exact ⟨.ok (by rw [HS.out];unfold toldW;rw [if_pos HX.out]) (sv_nil rfl),below_box (by omega) HB6.out _ _ _ _⟩
 · have HX:=Lib.hid hx
   clear hx
   go_wp2_with fail
   exact ⟨rfl,.err (by rw [HS.out];unfold toldW;rw [if_neg HX.out]),HB6.out⟩
theorem BOut.cases {e:Ending} {r:Except Int Bool} (h:BOut e r):(∃ b,r=.ok b∧e=.returned (.bool b))∨(∃ er,r=.error er∧e=refused er):=by
 cases r with
 | ok x=>exact .inl ⟨x,rfl,h⟩
 | error er=>exact .inr ⟨er,rfl,h⟩
theorem keepb {w w':World} (hb:Below w.heap.size w w') {b o:Nat} {v:Value} (h:w.cell? ⟨b,o,none⟩=some v):w'.cell? ⟨b,o,none⟩=some v :=
 (hb.cell (p:=⟨b,o,none⟩) (block_lt_of_cell h)).trans h
theorem node_and {f:Int→Wr} {nd:Nd} {v:Vw} {x0 x1:Int} (h:nd.op=9) (h0:nd.ks[0]?=some x0) (h1:nd.ks[1]?=some x1):nodeW f nd v=(match sureW (f x0) with
 | .error e=>.error e
 | .ok false=>.ok (truthV false)
 | .ok true=>match sureW (f x1) with | .error e=>.error e | .ok b=>.ok (truthV b)):=by
 have hl:leafW nd v=none:=by unfold leafW;simp [h]
 unfold nodeW
 rw [hl]
 simp [h,wkid,h0,h1]
 cases sureW (f x0) with
 | error e=>rfl
 | ok b=>cases b <;> first | rfl | (cases sureW (f x1) <;> rfl)
theorem node_or {f:Int→Wr} {nd:Nd} {v:Vw} {x0 x1:Int} (h:nd.op=10) (h0:nd.ks[0]?=some x0) (h1:nd.ks[1]?=some x1):nodeW f nd v=(match sureW (f x0) with
 | .error e=>.error e
 | .ok true=>.ok (truthV true)
 | .ok false=>match sureW (f x1) with | .error e=>.error e | .ok b=>.ok (truthV b)):=by
 have hl:leafW nd v=none:=by unfold leafW;simp [h]
 unfold nodeW
 rw [hl]
 simp [h,wkid,h0,h1]
 cases sureW (f x0) with
 | error e=>rfl
 | ok b=>cases b <;> first | rfl | (cases sureW (f x1) <;> rfl)
theorem node_if {f:Int→Wr} {nd:Nd} {v:Vw} {x0 x1 x2:Int} (h:nd.op=23) (h0:nd.ks[0]?=some x0) (h1:nd.ks[1]?=some x1) (h2:nd.ks[2]?=some x2):nodeW f nd v=(match sureW (f x0) with
 | .error e=>.error e
 | .ok true=>f x1
 | .ok false=>f x2):=by
 have hl:leafW nd v=none:=by unfold leafW;simp [h]
 unfold nodeW
 rw [hl]
 simp [h,wkid,h0,h1,h2]
 cases sureW (f x0) with
 | error e=>rfl
 | ok b=>cases b <;> rfl
theorem node_default {f:Int→Wr} {nd:Nd} {v:Vw} {x0 x1:Int} (h:nd.op=33) (h0:nd.ks[0]?=some x0) (h1:nd.ks[1]?=some x1):nodeW f nd v=(match f x0 with
 | .error e=>.error e
 | .ok w=>if w.k ≠ 0 then .ok w else f x1):=by
 have hl:leafW nd v=none:=by unfold leafW;simp [h]
 unfold nodeW
 rw [hl]
 simp [h,wkid,h0,h1]
 cases f x0 <;> rfl
theorem node_equal {f:Int→Wr} {nd:Nd} {v:Vw} {x0 x1:Int} (h:nd.op=11∨nd.op=12) (h0:nd.ks[0]?=some x0) (h1:nd.ks[1]?=some x1):nodeW f nd v=(match f x0 with
 | .error e=>.error e
 | .ok a=>match f x1 with | .error e=>.error e | .ok b=>equalW nd.op a b):=by
 have hl:leafW nd v=none:=by unfold leafW;rcases h with h | h <;> simp [h]
 unfold nodeW
 rw [hl]
 rcases h with h | h <;> simp [h,wkid,h0,h1] <;> (cases f x0 with
  | error e=>rfl
  | ok a=>cases f x1 <;> rfl)
end Go.Proofs.YtcnckjlmldnblaaGreatDoor
