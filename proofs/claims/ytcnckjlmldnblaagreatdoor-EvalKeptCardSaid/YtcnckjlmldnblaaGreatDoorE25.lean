import Derived.Test.YtcnckjlmldnblaaGreatDoorE19
import Derived.Test.YtcnckjlmldnblaaGreatDoorE20
import Derived.Handy
namespace Go.Proofs.YtcnckjlmldnblaaGreatDoor
open Go Go.RowKit
set_option maxRecDepth 100000
set_option maxHeartbeats 4000000
set_option linter.unusedVariables false
set_option linter.unusedSimpArgs false
def Other (op:Int):Prop:=op ≠ 1∧op ≠ 2∧op ≠ 4∧op ≠ 3∧op ≠ 5∧op ≠ 24∧op ≠ 25∧op ≠ 26∧op ≠ 30∧op ≠ 29∧op ≠ 9∧op ≠ 10∧op ≠ 23∧op ≠ 33∧op ≠ 11∧op ≠ 12
theorem other_leaf {nd:Nd} {v:Vw} (h:Other nd.op):leafW nd v=none:=by
 unfold Other at h
 unfold leafW
 simp [h]
theorem other_six {op:Int} (h:Other op):op ≠ 9∧op ≠ 10∧op ≠ 23∧op ≠ 33∧op ≠ 11∧op ≠ 12:=by
 unfold Other at h
 simp [h]
theorem other_kids {nd:Nd} (hr:nd.right=true) (h:Other nd.op):nd.op=6∨nd.kl=1∨nd.kl=2:=by
 obtain ⟨h1,h2,-,-⟩:=right_cases hr
 unfold Other at h
 unfold kidsN at h1 h2
 by_cases h6:nd.op=6
 · exact .inl h6
 · right
   by_cases a:nd.op < 1∨34≤nd.op
   · rw [if_pos a] at h2;exact absurd rfl h2
   · rw [if_neg a,if_neg h6,if_neg (by omega)] at h1 h2
     by_cases b:nd.op=7∨nd.op=8∨nd.op=27
     · rw [if_pos b] at h1;left;omega
     · rw [if_neg b] at h1
       rw [if_neg (by omega)] at h1
       right;omega
theorem node_all {f:Int→Wr} {nd:Nd} {v:Vw} (hl:leafW nd v=none) (h:nd.op ≠ 9∧nd.op ≠ 10∧nd.op ≠ 23∧nd.op ≠ 33∧nd.op ≠ 11∧nd.op ≠ 12):nodeW f nd v=allW f nd:=by
 unfold nodeW allW
 rw [hl]
 simp [h.1,h.2.1,h.2.2.1,h.2.2.2.1,h.2.2.2.2.1,h.2.2.2.2.2]
 cases seqW (nd.ks.map f) <;> rfl
theorem w_all (na:Option Addr) (nl nc:Nat) (ns:List Nd) (p:Pd) (d:Nat) (IH:WorthAt na nl nc ns p d) (w:World) (q:Nat) (nd:Nd) (hq:q < nl) (hnd:ns[q]?=some nd) (hright:nd.right=true) (hkl:nd.kl≤1000000) (hk:∀ k ∈ nd.ks,goodN ns d k) (hE:EnvW w na nl nc ns p) (hv:VwOk p.vw) (hn:∀ x ∈ ns,x.ks.length=x.kl∧I64 x.vn) (hop:Other nd.op) :
 Calls Tryz.prog 29 #[WorkV na nl nc p,.int .i64 (q:Int)] w fun e w'=>MOut e w' w.heap.size (nodeW (wK ns p.vw d) nd p.vw)∧Below w.heap.size w w':=by
 obtain ⟨w2,hw2⟩:∃ w2,w2=(w.alloc (boxW na nl nc p)).alloc boxZ:=⟨_,rfl⟩
 have g0:w2.heap[w.heap.size]?=some (boxW na nl nc p):=by rw [hw2];exact heap_alloc2_old w _ _
 have g1:w2.heap[w.heap.size+1]?=some boxZ:=by rw [hw2];exact heap_alloc2_new w _ _
 have hb2:Below w.heap.size w w2:=by rw [hw2];exact bel2 _ _ _
 have z2:w2.heap.size=w.heap.size+2:=by rw [hw2];simp
 have HNW:=Lib.hid (hE.n nd (List.mem_of_getElem? hnd))
 have HKL:=Lib.hid hkl
 obtain ⟨nb,no,nd',rfl,hnd',hcl0⟩:=hE.r.at hq
 obtain rfl:nd'=nd:=by rw [hnd] at hnd';exact (Option.some.inj hnd').symm
 have hcl:=fun j v hv=>(hb2.cell (p:=⟨nb,no+q * 7+j,none⟩) (block_lt_of_cell (hcl0 j v hv))).trans (hcl0 j v hv)
 have n0:=hcl 0 _ rfl
 have n1:=hcl 1 _ rfl
 have n2:=hcl 2 _ rfl
 have n3:=hcl 3 _ rfl
 have n4:=hcl 4 _ rfl
 have n5:=hcl 5 _ rfl
 have n6:=hcl 6 _ rfl
 simp only [Nat.add_zero] at n0
 have hqI:(q:Int) < (nl:Int):=by omega
 have hnl:=hE.r.2.1
 have hnc:=hE.r.2.2.1
 have p0:=cell_of_row w2 _ 0 _ _ _ g0
 simp only [List.getElem?_toArray,List.getElem?_cons_zero] at p0
 have HK:=Lib.hid hk
 have HE:=Lib.hid hE
 have HIH:=Lib.hid IH
 have HV:=Lib.hid hv
 have HN:=Lib.hid hn
 have HR:=Lib.hid hright
 have G0:=Lib.hid g0
 have G1:=Lib.hid g1
 have HB2:=Lib.hid hb2
 have HOP:=Lib.hid hop
 have HND:=Lib.hid hnd
 have o1:(nd'.op == 1)=false:=by have h:=HOP.out.1;simp [h]
 have o2:(nd'.op == 2)=false:=by have h:=HOP.out.2.1;simp [h]
 have o4:(nd'.op == 4)=false:=by have h:=HOP.out.2.2.1;simp [h]
 have o3:(nd'.op == 3)=false:=by have h:=HOP.out.2.2.2.1;simp [h]
 have o5:(nd'.op == 5)=false:=by have h:=HOP.out.2.2.2.2.1;simp [h]
 have o24:(nd'.op == 24)=false:=by have h:=HOP.out.2.2.2.2.2.1;simp [h]
 have o25:(nd'.op == 25)=false:=by have h:=HOP.out.2.2.2.2.2.2.1;simp [h]
 have o26:(nd'.op == 26)=false:=by have h:=HOP.out.2.2.2.2.2.2.2.1;simp [h]
 have o30:(nd'.op == 30)=false:=by have h:=HOP.out.2.2.2.2.2.2.2.2.1;simp [h]
 have o29:(nd'.op == 29)=false:=by have h:=HOP.out.2.2.2.2.2.2.2.2.2.1;simp [h]
 have o9:(nd'.op == 9)=false:=by have h:=HOP.out.2.2.2.2.2.2.2.2.2.2.1;simp [h]
 have o10:(nd'.op == 10)=false:=by have h:=HOP.out.2.2.2.2.2.2.2.2.2.2.2.1;simp [h]
 have o23:(nd'.op == 23)=false:=by have h:=HOP.out.2.2.2.2.2.2.2.2.2.2.2.2.1;simp [h]
 have o33:(nd'.op == 33)=false:=by have h:=HOP.out.2.2.2.2.2.2.2.2.2.2.2.2.2.1;simp [h]
 have o11:(nd'.op == 11)=false:=by have h:=HOP.out.2.2.2.2.2.2.2.2.2.2.2.2.2.2.1;simp [h]
 have o12:(nd'.op == 12)=false:=by have h:=HOP.out.2.2.2.2.2.2.2.2.2.2.2.2.2.2.2;simp [h]
 clear hkl hk hE IH hv hn hright g0 g1 hb2 hnd hnd' hcl hcl0 hop
 go_enter Tryz.func29,Tryz.ntmps29
 go_upto_region 1 with (fail)
 rw [← hw2]
 clear hw2
 go_upto_region 2 with (fail)
 obtain ⟨w3,hw3⟩:∃ w3,w3=w2.alloc (.cells (nodeV nd'.op nd'.nm nd'.vk nd'.vn nd'.vt nd'.sa nd'.sl nd'.sc nd'.ka nd'.kl nd'.kc) 56):=⟨_,rfl⟩
 have g3:w3.heap[w.heap.size+2]?=some (.cells (nodeV nd'.op nd'.nm nd'.vk nd'.vn nd'.vt nd'.sa nd'.sl nd'.sc nd'.ka nd'.kl nd'.kc) 56 (0,0)):=by rw [hw3,← z2];exact heap_alloc_new w2 _
 have hb3:Below w2.heap.size w2 w3:=by rw [hw3];exact bel1 _ _
 have z3:w3.heap.size=w.heap.size+3:=by rw [hw3];simp [z2]
 rw [← hw3]
 have h1':=(hb3.block _ (by omega)).trans G1.out
 have h0':=(hb3.block _ (by omega)).trans G0.out
 obtain ⟨c0,c1,c2,c3,f0,f1,f2,f3⟩:=box4 h1'
 have H1:=Lib.hid h1'
 have H0:=Lib.hid h0'
 have G3:=Lib.hid g3
 have HB3:=Lib.hid (HB2.out.trans (hb3.mono (by omega)))
 have k0:=cell_of_row _ _ 0 _ _ _ h0'
 have k1:=cell_of_row _ _ 1 _ _ _ h0'
 have m0:=cell_of_row _ _ 0 _ _ _ g3
 have m1:=cell_of_row _ _ 1 _ _ _ g3
 have m2:=cell_of_row _ _ 2 _ _ _ g3
 have m3:=cell_of_row _ _ 3 _ _ _ g3
 have m4:=cell_of_row _ _ 4 _ _ _ g3
 have m5:=cell_of_row _ _ 5 _ _ _ g3
 have m6:=cell_of_row _ _ 6 _ _ _ g3
 simp only [nodeV,List.getElem?_toArray,List.getElem?_cons_zero,List.getElem?_cons_succ] at k0 k1 m0 m1 m2 m3 m4 m5 m6
 have HE3:=Lib.hid (HE.out.below HB3.out)
 have HNW3:=Lib.hid (HNW.out.below HB3.out)
 have Z3:w.heap.size+2 < w3.heap.size:=by omega
 clear h1' h0' g3 hb3 hw3 n0 n1 n2 n3 n4 n5 n6 p0 z2 z3
 have hs6:=other_kids HR.out HOP.out
 have HS6:=Lib.hid hs6
 have HS:=Lib.hid (show nodeW (wK ns p.vw d) nd' p.vw=allW (wK ns p.vw d) nd' from node_all (other_leaf HOP.out) (other_six HOP.out))
 clear hs6
 go_wp2_with fail
 with_reducible refine (all_any (some ⟨nb,no,none⟩) nl nc ns p d HIH.out w3 nd' HNW3.out HKL.out HR.out HK.out HE3.out HV.out HN.out HS6.out).mono ?_
 rintro e w4 ⟨hm,hb4⟩
 have z4:w3.heap.size≤w4.heap.size:=hb4.size
 have HB4:=Lib.hid (HB3.out.trans (hb4.mono (by omega)))
 have HG4:=Lib.hid ((hb4.block (w.heap.size+1) (by omega)).trans H1.out)
 rcases hm.cases with ⟨x,ra,rl,rc,hr,rfl,hs⟩ | ⟨er,hr,rfl⟩
 · have HRX:=Lib.hid hr
   have HSX:=Lib.hid hs
   obtain ⟨c0,c1,c2,c3,f0,f1,f2,f3⟩:=box4 HG4.out
   clear hm hr hs hb4
   go_wp2_with fail
   refine retbox rfl (w1:=w4) HG4.out rfl ?_
   exact ⟨.ok (x:=x) (by rw [HS.out];exact HRX.out) ((HSX.out.box (by omega) _ _ _ _).mono (by omega)),below_box (by omega) HB4.out _ _ _ _⟩
 · have HRX:=Lib.hid hr
   clear hm hr hb4
   go_wp2_with fail
   exact ⟨rfl,.err (by rw [HS.out];exact HRX.out),HB4.out⟩
end Go.Proofs.YtcnckjlmldnblaaGreatDoor
