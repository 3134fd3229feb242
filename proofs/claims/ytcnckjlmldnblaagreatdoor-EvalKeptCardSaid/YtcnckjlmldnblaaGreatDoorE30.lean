import Derived.Test.YtcnckjlmldnblaaGreatDoorE26
import Derived.Test.YtcnckjlmldnblaaGreatDoorE27
import Derived.Handy
import Derived.Recover
import Derived.Defers
namespace Go.Proofs.YtcnckjlmldnblaaGreatDoor
open Go Go.RowKit
set_option maxRecDepth 100000
set_option maxHeartbeats 4000000
set_option linter.unusedVariables false
set_option linter.unusedSimpArgs false
theorem worthf_any (w:World) (na:Option Addr) (nl nc:Nat) (ns:List Nd) (p:Pd) (hE:EnvW w na nl nc ns p) (hv:VwOk p.vw) (hn:∀ x ∈ ns,x.ks.length=x.kl∧I64 x.vn) (ht:ResTab w 1) (h2:1 < w.heap.size) (root:Int) (hroot:I64 root) (hsm:∀ (i:Nat) (nd:Nd),(i:Int)≤root→ns[i]?=some nd→nd.kl≤1000000) :
 Calls Tryz.prog 10 #[.slice na nl nc,.int .i64 root,.iface 72 (.agg p.cs)] w fun e w'=>WRet e w' w.heap.size (worthR ns root p.vw)∧Below w.heap.size w w':=by
 obtain ⟨w2,hw2⟩:∃ w2,w2=(w.alloc boxZ).alloc boxE:=⟨_,rfl⟩
 have g0:w2.heap[w.heap.size]?=some boxZ:=by rw [hw2];exact heap_alloc2_old w _ _
 have g1:w2.heap[w.heap.size+1]?=some boxE:=by rw [hw2];exact heap_alloc2_new w _ _
 have hb2:Below w.heap.size w w2:=by rw [hw2];exact bel2 _ _ _
 have z2:w2.heap.size=w.heap.size+2:=by rw [hw2];simp
 have zz:w.heap.size+1 < w2.heap.size:=by omega
 have hln:=hE.r.1
 have hn48:=hE.r.2.2.1
 have HLN:=Lib.hid hln
 have HB2:=Lib.hid hb2
 have HE:=Lib.hid (hE.below hb2)
 have HV:=Lib.hid hv
 have HN:=Lib.hid hn
 have HSM:=Lib.hid hsm
 clear hsm
 have HT:=Lib.hid (ht.below hb2 h2 h2)
 have h22:1 < w2.heap.size:=by omega
 have G0:=Lib.hid g0
 have G1:=Lib.hid g1
 obtain ⟨c0,c1,c2,c3,f0,f1,f2,f3⟩:=box4 g0
 have d0:=cell_of_row w2 _ 0 _ _ _ g1
 have e0:=frozen_of_row w2 _ 0 _ _ g1
 simp only [List.getElem?_toArray,List.getElem?_cons_zero] at d0
 have hR1:=hroot.1
 have hR2:=hroot.2
 clear g0 g1 hb2 z2 hE hv hn ht hroot hln
 have hmf:∀ (fn:Fn) (first cap:Array Value) (w:World),(Instr.makeFunc fn first cap).run Tryz.prog w=.ok (.func fn first cap) w:=fun _ _ _ _=>rfl
 by_cases hneg:root < 0
 · have HS:=Lib.hid (show worthR ns root p.vw=.error 1 by unfold worthR;rw [if_pos (.inl hneg)])
   go_enter_defers Tryz.func10,Tryz.ntmps10
   go_upto_region 1 with (fail)
   rw [← hw2]
   clear hw2
   go_wp2_with fail
   refine ⟨_,res23 _ _ w.heap.size (w.heap.size+1) _ _ _ _ _ (heap5 G0.out G1.out (by omega) _ _ _ _ _).1 (heap5 G0.out G1.out (by omega) _ _ _ _ _).2 rfl rfl,?_⟩
   exact ⟨.err HS.out,below_box5 (by omega) (by omega) HB2.out _ _ _ _ _⟩
 by_cases hge:(nl:Int)≤root
 · have HS:=Lib.hid (show worthR ns root p.vw=.error 1 by unfold worthR;rw [if_pos (.inr (by rw [HLN.out];exact hge))])
   go_enter_defers Tryz.func10,Tryz.ntmps10
   go_upto_region 1 with (fail)
   rw [← hw2]
   clear hw2
   go_wp2_with fail
   refine ⟨_,res23 _ _ w.heap.size (w.heap.size+1) _ _ _ _ _ (heap5 G0.out G1.out (by omega) _ _ _ _ _).1 (heap5 G0.out G1.out (by omega) _ _ _ _ _).2 rfl rfl,?_⟩
   exact ⟨.err HS.out,below_box5 (by omega) (by omega) HB2.out _ _ _ _ _⟩
 obtain ⟨q,rfl⟩:∃ q:Nat,root=q:=⟨root.toNat,by omega⟩
 have hq:q < nl:=by omega
 have hqI:(q:Int) < (nl:Int):=by omega
 have hq0:(0:Int)≤(q:Int):=by omega
 have HS:=Lib.hid (show worthR ns q p.vw=if treeR ns q=true then wK ns p.vw (q+1) q else .error 8 by unfold worthR;rw [if_neg (by rw [HLN.out];omega),Int.toNat_natCast])
 clear hneg hge
 go_enter_defers Tryz.func10,Tryz.ntmps10
 go_upto_region 1 with (fail)
 rw [← hw2]
 clear hw2
 go_wp2_with fail
 with_reducible refine (tree_any w2 na nl nc ns HE.out.r (fun nd hm=>(HE.out.n nd hm).ok) HT.out h22 q hq).mono ?_
 rintro e w3 ⟨rfl,hb3⟩
 have z3:=hb3.size
 have HB3:=Lib.hid (HB2.out.trans (hb3.mono (by omega)))
 have HE3:=Lib.hid (HE.out.below hb3)
 have g3:=(hb3.block _ (by omega)).trans G0.out
 have k3:=(hb3.block _ (by omega)).trans G1.out
 have G3:=Lib.hid g3
 have K3:=Lib.hid k3
 obtain ⟨c0,c1,c2,c3,f0,f1,f2,f3⟩:=box4 g3
 have d0:=cell_of_row w3 _ 0 _ _ _ k3
 have e0:=frozen_of_row w3 _ 0 _ _ k3
 simp only [List.getElem?_toArray,List.getElem?_cons_zero] at d0
 clear g3 k3 hb3
 cases htr:treeR ns q
 · have HS8:=Lib.hid (show worthR ns q p.vw=.error 8 by rw [HS.out,htr];rfl)
   clear htr
   go_wp2_with fail
   refine ⟨_,res23 _ _ w.heap.size (w.heap.size+1) _ _ _ _ _ (heap5 G3.out K3.out (by omega) _ _ _ _ _).1 (heap5 G3.out K3.out (by omega) _ _ _ _ _).2 rfl rfl,?_⟩
   exact ⟨.err HS8.out,below_box5 (by omega) (by omega) HB3.out _ _ _ _ _⟩
 · have HSW:=Lib.hid (show worthR ns q p.vw=wK ns p.vw (q+1) q by rw [HS.out,htr,if_pos rfl])
   have HG:=Lib.hid (treeR_good (fun i nd hi h=>HSM.out i nd (by omega) h) htr)
   clear htr
   go_upto_region 7 with (fail)
   obtain ⟨w4,hw4⟩:∃ w4,w4=w3.alloc (boxW na nl nc p):=⟨_,rfl⟩
   have g4:w4.heap[w3.heap.size]?=some (boxW na nl nc p):=by rw [hw4];exact heap_alloc_new w3 _
   have hb4:Below w3.heap.size w3 w4:=by rw [hw4];exact bel1 _ _
   have z4:w3.heap.size < w4.heap.size:=by rw [hw4];simp
   rw [← hw4]
   clear hw4
   have HB4:=Lib.hid (HB3.out.trans (hb4.mono (by omega)))
   have HE4:=Lib.hid (HE3.out.below hb4)
   have HG4:=Lib.hid ((hb4.block w.heap.size (by omega)).trans G3.out)
   have HK4:=Lib.hid ((hb4.block (w.heap.size+1) (by omega)).trans K3.out)
   have p0:=cell_of_row w4 _ 0 _ _ _ g4
   have p1:=cell_of_row w4 _ 1 _ _ _ g4
   simp only [List.getElem?_toArray,List.getElem?_cons_zero,List.getElem?_cons_succ] at p0 p1
   have hcall:=worth_any na nl nc ns p HV.out HN.out (q+1) w4 q HG.out HE4.out
   have HC:=Lib.hid hcall
   have HFIT:=Lib.hid (fit_wK HV.out HN.out (q+1) q HG.out)
   clear g4 hb4 hcall c0 c1 c2 c3 f0 f1 f2 f3 d0 e0
   go_wp2_with fail
   with_reducible refine HC.out.mono ?_
   rintro e w5 ⟨hm,hb5⟩
   have z5:=hb5.size
   have HB5:=Lib.hid (HB4.out.trans (hb5.mono (by omega)))
   have HG5:=Lib.hid ((hb5.block w.heap.size (by omega)).trans HG4.out)
   have HK5:=Lib.hid ((hb5.block (w.heap.size+1) (by omega)).trans HK4.out)
   clear hb5 HC p0 p1
   rcases hm.cases with ⟨x,ra,rl,rc,hr,rfl,hs⟩ | ⟨er,hr,rfl⟩
   · have HRX:=Lib.hid hr
     have hl:rl=x.ss.length:=by
      obtain ⟨a',l',c',e,hl,-⟩:=hs
      simp only [VA,Value.agg.injEq,Array.mk.injEq,List.cons.injEq,Value.slice.injEq,true_and,and_true] at e
      obtain ⟨rfl,rfl,rfl⟩:=e
      exact hl
     have hl64:rl≤64:=by have:=(right_parts (HFIT.out x hr).r).2.2.2.2;omega
     have HRZ:=Lib.hid (hs.rz (by omega))
     clear hm hr hs hl
     go_wp2_with fail
     with_reducible refine (own_any w5 x ra rl rc HRZ.out.rs (by omega)).mono ?_
     rintro e w6 ⟨v,rfl,hs6,hb6⟩
     have z6:=hb6.size
     have HB6:=Lib.hid (HB5.out.trans (hb6.mono (by omega)))
     have HG6:=Lib.hid ((hb6.block w.heap.size (by omega)).trans HG5.out)
     have HK6:=Lib.hid ((hb6.block (w.heap.size+1) (by omega)).trans HK5.out)
     obtain ⟨c0,c1,c2,c3,f0,f1,f2,f3⟩:=box4 HG6.out
     have d0:=cell_of_row w6 _ 0 _ _ _ HK6.out
     have e0:=frozen_of_row w6 _ 0 _ _ HK6.out
     simp only [List.getElem?_toArray,List.getElem?_cons_zero] at d0
     have HS6:=Lib.hid hs6
     obtain ⟨a6,l6,k6,rfl,-⟩:=hs6
     clear hb6
     go_wp2_with fail
     refine leaves_cons (f:=28) (args:=#[.pointer (some ⟨w.heap.size,0,none⟩),.pointer (some ⟨w.heap.size+1,0,none⟩)]) (by simp) (by simp [go_sem]) ?_
     refine (catch_idle w.heap.size (w.heap.size+1) _).mono ?_
     rintro e u' w'' ⟨rfl,rfl,rfl⟩
     refine ⟨_,res23 _ _ w.heap.size (w.heap.size+1) _ _ _ _ _ (heap5 HG6.out HK6.out (by omega) _ _ _ _ _).1 (heap5 HG6.out HK6.out (by omega) _ _ _ _ _).2 rfl rfl,?_⟩
     exact ⟨.ok (x:=x) (by rw [HSW.out];exact HRX.out) (((HS6.out.box (by omega) _ _ _ _).cell1 (by omega) _).mono (by omega)),below_box5 (by omega) (by omega) HB6.out _ _ _ _ _⟩
   · have HRX:=Lib.hid hr
     clear hm hr
     go_wp2_with fail
     refine leaves_cons (f:=28) (args:=#[.pointer (some ⟨w.heap.size,0,none⟩),.pointer (some ⟨w.heap.size+1,0,none⟩)]) (by simp) (by simp [go_sem]) ?_
     refine (catch_refused w.heap.size (w.heap.size+1) _ _ _ _ _ er [] _ HG5.out HK5.out (by omega)).mono ?_
     rintro e u' w'' ⟨rfl,rfl,rfl⟩
     refine ⟨_,res23 _ _ w.heap.size (w.heap.size+1) _ _ _ _ _ (heap5 HG5.out HK5.out (by omega) _ _ _ _ _).1 (heap5 HG5.out HK5.out (by omega) _ _ _ _ _).2 rfl rfl,?_⟩
     exact ⟨.err (by rw [HSW.out];exact HRX.out),below_box5 (by omega) (by omega) HB5.out _ _ _ _ _⟩
end Go.Proofs.YtcnckjlmldnblaaGreatDoor
