import Derived.Test.YtcnckjlmldnblaaGreatDoorD1
import Derived.BigGuardPart
import Derived.IntWalk
import Derived.Handy
import Derived.OrdersHeld
import Derived.Deep.RegionHeld3
import Derived.WalkLawsBesides
namespace Go.Proofs.YtcnckjlmldnblaaGreatDoor
open Go Go.RowKit
set_option maxRecDepth 100000
set_option maxHeartbeats 4000000
set_option linter.unusedVariables false
set_option linter.unusedSimpArgs false
open List renaming setIfInBounds_toArray → pa, set_cons_zero → pb, set_cons_succ → pc, getElem_toArray → pd, getElem_cons_succ → pe, getElem_cons_zero → pf
theorem refvalue0_any (w0 w:World) (p:Pd) (hv:RS 5 Bc.cs w p.va p.vl p.vc p.bs) (hbs:∀ b ∈ p.bs,RZ w0 b.v.a b.v.l b.v.c b.v.x.ss) (nm:ByteArray) :
 Calls Tryz.prog 59 #[.agg p.cs,.string nm] w fun e w'=>(∃ a l c,e=.returned (VA (p.vw.value nm) a l c)∧RZ w0 a l c (p.vw.value nm).ss)∧Below w.heap.size w w':=by
 obtain ⟨w2,hw2⟩:∃ w2,w2=(w.alloc (boxR p)).alloc boxZ:=⟨_,rfl⟩
 have g0:w2.heap[w.heap.size]?=some (boxR p):=by rw [hw2];exact heap_alloc2_old w _ _
 have g1:w2.heap[w.heap.size+1]?=some boxZ:=by rw [hw2];exact heap_alloc2_new w _ _
 have hb2:Below w.heap.size w w2:=by rw [hw2];exact bel2 _ _ _
 have z2:w2.heap.size=w.heap.size+2:=by rw [hw2];simp
 have HB2:=Lib.hid hb2
 have G1:=Lib.hid g1
 have HPV:=Lib.hid (hv.below hb2)
 have HBS:=Lib.hid hbs
 have hvl:=hv.1
 have hv48:=hv.2.2.1
 have p0:=cell_of_row w2 _ 0 _ _ _ g0
 simp only [List.getElem?_toArray,List.getElem?_cons_zero] at p0
 clear g0 g1 hb2 hv hbs
 go_enter Tryz.func59,Tryz.ntmps59
 go_upto_region 1 with (fail)
 rw [← hw2]
 clear hw2
 go_wp2_with fail
 go_loopw [5] (fun i wr=>∃ k:Nat,k≤p.vl∧i=.int .i64 k∧w2=wr∧(∀ (i:Nat) (x:Bc),i < k→p.bs[i]?=some x→(x.nm.toList == nm.toList)=false)) (fun i _=>p.vl - (intOf i).toNat)
 case atStart=>exact ⟨0,by omega,by trivial,by trivial,fun i x hi=>by omega⟩
 case round =>
  obtain ⟨k,hk,rfl,rfl,hne⟩:=hrel
  have HNE:=Lib.hid hne
  obtain ⟨c0,c1,c2,c3,f0,f1,f2,f3⟩:=box4 G1.out
  clear hne
  by_cases hlt:k < p.vl
  · obtain ⟨nb,no,nd,he,hnd,hcl⟩:=HPV.out.at hlt
    have n0:=hcl 0 _ rfl
    have n1:=hcl 1 _ rfl
    have n2:=hcl 2 _ rfl
    have n3:=hcl 3 _ rfl
    have n4:=hcl 4 _ rfl
    simp only [Nat.add_zero] at n0
    have hltI:(k:Int) < (p.vl:Int):=by omega
    have HND:=Lib.hid hnd
    have HBK:=Lib.hid (HBS.out nd (List.mem_of_getElem? hnd))
    rw [he] at p0
    clear hcl hnd
    cases hm:(nd.nm.toList == nm.toList)
    · have HM:=Lib.hid hm
      go_wp2_with fail
      go_roundw
      case rel =>
       refine ⟨k+1,by omega,by go_num,by trivial,fun i x hi hx=>?_⟩
       by_cases e:i=k
       · subst e
         rw [HND.out] at hx
         cases hx
         exact HM.out
       · exact HNE.out i x (by omega) hx
      case measure=>simp [intOf];omega
    · have HV:=Lib.hid (show p.vw.value nm=nd.v.x by
       unfold Vw.value Pd.vw
       rw [find_at HND.out hm HNE.out])
      go_wp2_with fail
      refine retbox Tryz.results59 G1.out rfl ?_
      exact ⟨⟨nd.v.a,nd.v.l,nd.v.c,by rw [HV.out],by rw [HV.out];exact HBK.out⟩,below_box (by omega) HB2.out _ _ _ _⟩
  · have hltI:¬ (k:Int) < (p.vl:Int):=by omega
    have HV:=Lib.hid (show p.vw.value nm=v0 by
     unfold Vw.value Pd.vw
     rw [find_no (fun i x hx=>HNE.out i x (by have:=(List.getElem?_eq_some_iff.1 hx).1;omega) hx)])
    go_wp2_with fail
    refine retbox Tryz.results59 G1.out rfl ?_
    exact ⟨⟨none,0,0,by rw [HV.out];rfl,by rw [HV.out];exact rz_nil1 _⟩,below_box (by omega) HB2.out _ _ _ _⟩
/-- All that the document's working out looks at, in the elder world. -/
structure EnvR (w0:World) (na:Option Addr) (nl nc:Nat) (ns:List Nd) (p:Pd):Prop where
 r:RS 7 Nd.cs w0 na nl nc ns
 n:∀ nd ∈ ns,NdW w0 nd
 v:RS 5 Bc.cs w0 p.va p.vl p.vc p.bs
 o:RS 1 Sv w0 p.oa p.ol p.oc p.os
 q:RS 1 Sv w0 p.ra p.rl p.rc p.rs
 b:∀ b ∈ p.bs,RZ w0 b.v.a b.v.l b.v.c b.v.x.ss
/-- What the document's working out of a place, so deep, does. -/
def RefAt (w0:World) (na:Option Addr) (nl nc:Nat) (ns:List Nd) (p:Pd) (d:Nat):Prop :=
 ∀ (w:World) (r:Int),Below w0.heap.size w0 w→goodN ns d r→Calls Tryz.prog 42 #[.slice na nl nc,.int .i64 r,.agg p.cs] w fun e w'=>TogOut w0 w e w' (wK ns p.vw d r)∧Below w.heap.size w w'
theorem r_lit1 (w0:World) (na:Option Addr) (nl nc:Nat) (ns:List Nd) (p:Pd) (d:Nat) (IH:RefAt w0 na nl nc ns p d) (hE:EnvR w0 na nl nc ns p) (hv:VwOk p.vw) (w:World) (hbw:Below w0.heap.size w0 w) (q:Nat) (nd:Nd) (hq:q < nl) (hnd:ns[q]?=some nd) (hright:nd.right=true) (hk:∀ k ∈ nd.ks,goodN ns d k) (hop:nd.op=1) :
 Calls Tryz.prog 42 #[.slice na nl nc,.int .i64 (q:Int),.agg p.cs] w fun e w'=>TogOut w0 w e w' (nodeW (wK ns p.vw d) nd p.vw)∧Below w.heap.size w w':=by
 obtain ⟨w2,hw2⟩:∃ w2,w2=(w.alloc (boxR p)).alloc boxZ:=⟨_,rfl⟩
 have g0:w2.heap[w.heap.size]?=some (boxR p):=by rw [hw2];exact heap_alloc2_old w _ _
 have g1:w2.heap[w.heap.size+1]?=some boxZ:=by rw [hw2];exact heap_alloc2_new w _ _
 have hb2:Below w.heap.size w w2:=by rw [hw2];exact bel2 _ _ _
 have z2:w2.heap.size=w.heap.size+2:=by rw [hw2];simp
 have hz0:=hbw.size
 have HNW:=Lib.hid (hE.n nd (List.mem_of_getElem? hnd))
 obtain ⟨nb,no,nd',rfl,hnd',hcl0⟩:=hE.r.at hq
 obtain rfl:nd'=nd:=by rw [hnd] at hnd';exact (Option.some.inj hnd').symm
 have hbw2:Below w0.heap.size w0 w2:=hbw.trans (hb2.mono hz0)
 have hcl:=fun j v hv=>(hbw2.cell (p:=⟨nb,no+q * 7+j,none⟩) (block_lt_of_cell (hcl0 j v hv))).trans (hcl0 j v hv)
 have n0:=hcl 0 _ rfl
 have n1:=hcl 1 _ rfl
 have n2:=hcl 2 _ rfl
 have n3:=hcl 3 _ rfl
 have n4:=hcl 4 _ rfl
 have n5:=hcl 5 _ rfl
 have n6:=hcl 6 _ rfl
 simp only [Nat.add_zero] at n0
 rw [hop] at n0
 have hqI:(q:Int) < (nl:Int):=by omega
 have hnl:=hE.r.2.1
 have hnc:=hE.r.2.2.1
 have HK:=Lib.hid hk
 have HE:=Lib.hid hE
 have HIH:=Lib.hid IH
 have HV:=Lib.hid hv
 have HR:=Lib.hid hright
 have G0:=Lib.hid g0
 have G1:=Lib.hid g1
 have HB2:=Lib.hid hb2
 have HOP:=Lib.hid hop
 have HND:=Lib.hid hnd
 have HBW:=Lib.hid hbw
 clear hk hE IH hv hright g0 g1 hb2 hnd hnd' hcl hcl0 hop hbw hbw2
 go_enter Tryz.func42,Tryz.ntmps42
 go_upto_region 1 with (fail)
 rw [← hw2]
 clear hw2
 go_upto_region 2 with (fail)
 obtain ⟨w3,hw3⟩:∃ w3,w3=w2.alloc (.cells (nodeV 1 nd'.nm nd'.vk nd'.vn nd'.vt nd'.sa nd'.sl nd'.sc nd'.ka nd'.kl nd'.kc) 56):=⟨_,rfl⟩
 have g3:w3.heap[w.heap.size+2]?=some (.cells (nodeV 1 nd'.nm nd'.vk nd'.vn nd'.vt nd'.sa nd'.sl nd'.sc nd'.ka nd'.kl nd'.kc) 56 (0,0)):=by rw [hw3,← z2];exact heap_alloc_new w2 _
 have hb3:Below w2.heap.size w2 w3:=by rw [hw3];exact bel1 _ _
 have z3:w3.heap.size=w.heap.size+3:=by rw [hw3];simp [z2]
 have h1':=(hb3.block _ (by omega)).trans G1.out
 have h0':=(hb3.block _ (by omega)).trans G0.out
 obtain ⟨wx,hwx⟩:∃ wx,wx=w2.heap.size:=⟨_,rfl⟩
 rw [← hw3]
 obtain ⟨c0,c1,c2,c3,f0,f1,f2,f3⟩:=box4 h1'
 have H1:=Lib.hid h1'
 have H0:=Lib.hid h0'
 have G3:=Lib.hid g3
 have HB3:=Lib.hid (HB2.out.trans (hb3.mono (by omega)))
 have HW3:=Lib.hid (HBW.out.trans (HB3.out.mono hz0))
 have v0':=cell_of_row _ _ 0 _ _ _ h0'
 have v1':=cell_of_row _ _ 1 _ _ _ h0'
 have v2':=cell_of_row _ _ 2 _ _ _ h0'
 have v3':=cell_of_row _ _ 3 _ _ _ h0'
 have v4':=cell_of_row _ _ 4 _ _ _ h0'
 have m0:=cell_of_row _ _ 0 _ _ _ g3
 have m1:=cell_of_row _ _ 1 _ _ _ g3
 have m2:=cell_of_row _ _ 2 _ _ _ g3
 have m3:=cell_of_row _ _ 3 _ _ _ g3
 have m4:=cell_of_row _ _ 4 _ _ _ g3
 have m5:=cell_of_row _ _ 5 _ _ _ g3
 have m6:=cell_of_row _ _ 6 _ _ _ g3
 simp only [nodeV,List.getElem?_toArray,List.getElem?_cons_zero,List.getElem?_cons_succ] at v0' v1' v2' v3' v4' m0 m1 m2 m3 m4 m5 m6
 have Z0:w.heap.size < w3.heap.size:=by omega
 have Z1:w.heap.size+1 < w3.heap.size:=by omega
 have Z3:w.heap.size+2 < w3.heap.size:=by omega
 clear h1' h0' g3 hb3 hw3 n0 n1 n2 n3 n4 n5 n6 z2 z3 hwx
 have hsl:nd'.sl=0:=(right_cases HR.out).2.2.1
 have HSL:=Lib.hid hsl
 clear hsl
 have HS:=Lib.hid (show nodeW (wK ns p.vw d) nd' p.vw=.ok ⟨nd'.vk,nd'.vn,nd'.vt,[]⟩ from leaf_node (by have h:=HOP.out;unfold leafW;simp [h]))
 go_wp2_with fail
 refine bodyPost_ret (res2c Tryz.results42 _ _ (w.heap.size+1) _ _ _ _ _ (heap_box H1.out _ _ _ _) rfl rfl) rfl ?_
 refine ⟨.ok (z:=⟨nd'.vk,nd'.vn,nd'.vt,[]⟩) rfl ⟨nd'.sa,nd'.sl,nd'.sc,rfl,.inl ?_⟩ HS.out,below_box (by omega) HB3.out _ _ _ _⟩
 obtain ⟨ss,h⟩:=HNW.out.t
 have hss:ss=[]:=List.eq_nil_of_length_eq_zero (by rw [h.rs.1];exact HSL.out)
 rw [hss] at h
 exact h
theorem r_lit2 (w0:World) (na:Option Addr) (nl nc:Nat) (ns:List Nd) (p:Pd) (d:Nat) (IH:RefAt w0 na nl nc ns p d) (hE:EnvR w0 na nl nc ns p) (hv:VwOk p.vw) (w:World) (hbw:Below w0.heap.size w0 w) (q:Nat) (nd:Nd) (hq:q < nl) (hnd:ns[q]?=some nd) (hright:nd.right=true) (hk:∀ k ∈ nd.ks,goodN ns d k) (hop:nd.op=2) :
 Calls Tryz.prog 42 #[.slice na nl nc,.int .i64 (q:Int),.agg p.cs] w fun e w'=>TogOut w0 w e w' (nodeW (wK ns p.vw d) nd p.vw)∧Below w.heap.size w w':=by
 obtain ⟨w2,hw2⟩:∃ w2,w2=(w.alloc (boxR p)).alloc boxZ:=⟨_,rfl⟩
 have g0:w2.heap[w.heap.size]?=some (boxR p):=by rw [hw2];exact heap_alloc2_old w _ _
 have g1:w2.heap[w.heap.size+1]?=some boxZ:=by rw [hw2];exact heap_alloc2_new w _ _
 have hb2:Below w.heap.size w w2:=by rw [hw2];exact bel2 _ _ _
 have z2:w2.heap.size=w.heap.size+2:=by rw [hw2];simp
 have hz0:=hbw.size
 have HNW:=Lib.hid (hE.n nd (List.mem_of_getElem? hnd))
 obtain ⟨nb,no,nd',rfl,hnd',hcl0⟩:=hE.r.at hq
 obtain rfl:nd'=nd:=by rw [hnd] at hnd';exact (Option.some.inj hnd').symm
 have hbw2:Below w0.heap.size w0 w2:=hbw.trans (hb2.mono hz0)
 have hcl:=fun j v hv=>(hbw2.cell (p:=⟨nb,no+q * 7+j,none⟩) (block_lt_of_cell (hcl0 j v hv))).trans (hcl0 j v hv)
 have n0:=hcl 0 _ rfl
 have n1:=hcl 1 _ rfl
 have n2:=hcl 2 _ rfl
 have n3:=hcl 3 _ rfl
 have n4:=hcl 4 _ rfl
 have n5:=hcl 5 _ rfl
 have n6:=hcl 6 _ rfl
 simp only [Nat.add_zero] at n0
 rw [hop] at n0
 have hqI:(q:Int) < (nl:Int):=by omega
 have hnl:=hE.r.2.1
 have hnc:=hE.r.2.2.1
 have HK:=Lib.hid hk
 have HE:=Lib.hid hE
 have HIH:=Lib.hid IH
 have HV:=Lib.hid hv
 have HR:=Lib.hid hright
 have G0:=Lib.hid g0
 have G1:=Lib.hid g1
 have HB2:=Lib.hid hb2
 have HOP:=Lib.hid hop
 have HND:=Lib.hid hnd
 have HBW:=Lib.hid hbw
 clear hk hE IH hv hright g0 g1 hb2 hnd hnd' hcl hcl0 hop hbw hbw2
 go_enter Tryz.func42,Tryz.ntmps42
 go_upto_region 1 with (fail)
 rw [← hw2]
 clear hw2
 go_upto_region 2 with (fail)
 obtain ⟨w3,hw3⟩:∃ w3,w3=w2.alloc (.cells (nodeV 2 nd'.nm nd'.vk nd'.vn nd'.vt nd'.sa nd'.sl nd'.sc nd'.ka nd'.kl nd'.kc) 56):=⟨_,rfl⟩
 have g3:w3.heap[w.heap.size+2]?=some (.cells (nodeV 2 nd'.nm nd'.vk nd'.vn nd'.vt nd'.sa nd'.sl nd'.sc nd'.ka nd'.kl nd'.kc) 56 (0,0)):=by rw [hw3,← z2];exact heap_alloc_new w2 _
 have hb3:Below w2.heap.size w2 w3:=by rw [hw3];exact bel1 _ _
 have z3:w3.heap.size=w.heap.size+3:=by rw [hw3];simp [z2]
 have h1':=(hb3.block _ (by omega)).trans G1.out
 have h0':=(hb3.block _ (by omega)).trans G0.out
 obtain ⟨wx,hwx⟩:∃ wx,wx=w2.heap.size:=⟨_,rfl⟩
 rw [← hw3]
 obtain ⟨c0,c1,c2,c3,f0,f1,f2,f3⟩:=box4 h1'
 have H1:=Lib.hid h1'
 have H0:=Lib.hid h0'
 have G3:=Lib.hid g3
 have HB3:=Lib.hid (HB2.out.trans (hb3.mono (by omega)))
 have HW3:=Lib.hid (HBW.out.trans (HB3.out.mono hz0))
 have v0':=cell_of_row _ _ 0 _ _ _ h0'
 have v1':=cell_of_row _ _ 1 _ _ _ h0'
 have v2':=cell_of_row _ _ 2 _ _ _ h0'
 have v3':=cell_of_row _ _ 3 _ _ _ h0'
 have v4':=cell_of_row _ _ 4 _ _ _ h0'
 have m0:=cell_of_row _ _ 0 _ _ _ g3
 have m1:=cell_of_row _ _ 1 _ _ _ g3
 have m2:=cell_of_row _ _ 2 _ _ _ g3
 have m3:=cell_of_row _ _ 3 _ _ _ g3
 have m4:=cell_of_row _ _ 4 _ _ _ g3
 have m5:=cell_of_row _ _ 5 _ _ _ g3
 have m6:=cell_of_row _ _ 6 _ _ _ g3
 simp only [nodeV,List.getElem?_toArray,List.getElem?_cons_zero,List.getElem?_cons_succ] at v0' v1' v2' v3' v4' m0 m1 m2 m3 m4 m5 m6
 have Z0:w.heap.size < w3.heap.size:=by omega
 have Z1:w.heap.size+1 < w3.heap.size:=by omega
 have Z3:w.heap.size+2 < w3.heap.size:=by omega
 clear h1' h0' g3 hb3 hw3 n0 n1 n2 n3 n4 n5 n6 z2 z3 hwx
 have hsl:nd'.sl=0:=(right_cases HR.out).2.2.1
 have HSL:=Lib.hid hsl
 clear hsl
 have HS:=Lib.hid (show nodeW (wK ns p.vw d) nd' p.vw=.ok ⟨nd'.vk,nd'.vn,nd'.vt,[]⟩ from leaf_node (by have h:=HOP.out;unfold leafW;simp [h]))
 go_wp2_with fail
 refine bodyPost_ret (res2c Tryz.results42 _ _ (w.heap.size+1) _ _ _ _ _ (heap_box H1.out _ _ _ _) rfl rfl) rfl ?_
 refine ⟨.ok (z:=⟨nd'.vk,nd'.vn,nd'.vt,[]⟩) rfl ⟨nd'.sa,nd'.sl,nd'.sc,rfl,.inl ?_⟩ HS.out,below_box (by omega) HB3.out _ _ _ _⟩
 obtain ⟨ss,h⟩:=HNW.out.t
 have hss:ss=[]:=List.eq_nil_of_length_eq_zero (by rw [h.rs.1];exact HSL.out)
 rw [hss] at h
 exact h
theorem r_lit4 (w0:World) (na:Option Addr) (nl nc:Nat) (ns:List Nd) (p:Pd) (d:Nat) (IH:RefAt w0 na nl nc ns p d) (hE:EnvR w0 na nl nc ns p) (hv:VwOk p.vw) (w:World) (hbw:Below w0.heap.size w0 w) (q:Nat) (nd:Nd) (hq:q < nl) (hnd:ns[q]?=some nd) (hright:nd.right=true) (hk:∀ k ∈ nd.ks,goodN ns d k) (hop:nd.op=4) :
 Calls Tryz.prog 42 #[.slice na nl nc,.int .i64 (q:Int),.agg p.cs] w fun e w'=>TogOut w0 w e w' (nodeW (wK ns p.vw d) nd p.vw)∧Below w.heap.size w w':=by
 obtain ⟨w2,hw2⟩:∃ w2,w2=(w.alloc (boxR p)).alloc boxZ:=⟨_,rfl⟩
 have g0:w2.heap[w.heap.size]?=some (boxR p):=by rw [hw2];exact heap_alloc2_old w _ _
 have g1:w2.heap[w.heap.size+1]?=some boxZ:=by rw [hw2];exact heap_alloc2_new w _ _
 have hb2:Below w.heap.size w w2:=by rw [hw2];exact bel2 _ _ _
 have z2:w2.heap.size=w.heap.size+2:=by rw [hw2];simp
 have hz0:=hbw.size
 have HNW:=Lib.hid (hE.n nd (List.mem_of_getElem? hnd))
 obtain ⟨nb,no,nd',rfl,hnd',hcl0⟩:=hE.r.at hq
 obtain rfl:nd'=nd:=by rw [hnd] at hnd';exact (Option.some.inj hnd').symm
 have hbw2:Below w0.heap.size w0 w2:=hbw.trans (hb2.mono hz0)
 have hcl:=fun j v hv=>(hbw2.cell (p:=⟨nb,no+q * 7+j,none⟩) (block_lt_of_cell (hcl0 j v hv))).trans (hcl0 j v hv)
 have n0:=hcl 0 _ rfl
 have n1:=hcl 1 _ rfl
 have n2:=hcl 2 _ rfl
 have n3:=hcl 3 _ rfl
 have n4:=hcl 4 _ rfl
 have n5:=hcl 5 _ rfl
 have n6:=hcl 6 _ rfl
 simp only [Nat.add_zero] at n0
 rw [hop] at n0
 have hqI:(q:Int) < (nl:Int):=by omega
 have hnl:=hE.r.2.1
 have hnc:=hE.r.2.2.1
 have HK:=Lib.hid hk
 have HE:=Lib.hid hE
 have HIH:=Lib.hid IH
 have HV:=Lib.hid hv
 have HR:=Lib.hid hright
 have G0:=Lib.hid g0
 have G1:=Lib.hid g1
 have HB2:=Lib.hid hb2
 have HOP:=Lib.hid hop
 have HND:=Lib.hid hnd
 have HBW:=Lib.hid hbw
 clear hk hE IH hv hright g0 g1 hb2 hnd hnd' hcl hcl0 hop hbw hbw2
 go_enter Tryz.func42,Tryz.ntmps42
 go_upto_region 1 with (fail)
 rw [← hw2]
 clear hw2
 go_upto_region 2 with (fail)
 obtain ⟨w3,hw3⟩:∃ w3,w3=w2.alloc (.cells (nodeV 4 nd'.nm nd'.vk nd'.vn nd'.vt nd'.sa nd'.sl nd'.sc nd'.ka nd'.kl nd'.kc) 56):=⟨_,rfl⟩
 have g3:w3.heap[w.heap.size+2]?=some (.cells (nodeV 4 nd'.nm nd'.vk nd'.vn nd'.vt nd'.sa nd'.sl nd'.sc nd'.ka nd'.kl nd'.kc) 56 (0,0)):=by rw [hw3,← z2];exact heap_alloc_new w2 _
 have hb3:Below w2.heap.size w2 w3:=by rw [hw3];exact bel1 _ _
 have z3:w3.heap.size=w.heap.size+3:=by rw [hw3];simp [z2]
 have h1':=(hb3.block _ (by omega)).trans G1.out
 have h0':=(hb3.block _ (by omega)).trans G0.out
 obtain ⟨wx,hwx⟩:∃ wx,wx=w2.heap.size:=⟨_,rfl⟩
 rw [← hw3]
 obtain ⟨c0,c1,c2,c3,f0,f1,f2,f3⟩:=box4 h1'
 have H1:=Lib.hid h1'
 have H0:=Lib.hid h0'
 have G3:=Lib.hid g3
 have HB3:=Lib.hid (HB2.out.trans (hb3.mono (by omega)))
 have HW3:=Lib.hid (HBW.out.trans (HB3.out.mono hz0))
 have v0':=cell_of_row _ _ 0 _ _ _ h0'
 have v1':=cell_of_row _ _ 1 _ _ _ h0'
 have v2':=cell_of_row _ _ 2 _ _ _ h0'
 have v3':=cell_of_row _ _ 3 _ _ _ h0'
 have v4':=cell_of_row _ _ 4 _ _ _ h0'
 have m0:=cell_of_row _ _ 0 _ _ _ g3
 have m1:=cell_of_row _ _ 1 _ _ _ g3
 have m2:=cell_of_row _ _ 2 _ _ _ g3
 have m3:=cell_of_row _ _ 3 _ _ _ g3
 have m4:=cell_of_row _ _ 4 _ _ _ g3
 have m5:=cell_of_row _ _ 5 _ _ _ g3
 have m6:=cell_of_row _ _ 6 _ _ _ g3
 simp only [nodeV,List.getElem?_toArray,List.getElem?_cons_zero,List.getElem?_cons_succ] at v0' v1' v2' v3' v4' m0 m1 m2 m3 m4 m5 m6
 have Z0:w.heap.size < w3.heap.size:=by omega
 have Z1:w.heap.size+1 < w3.heap.size:=by omega
 have Z3:w.heap.size+2 < w3.heap.size:=by omega
 clear h1' h0' g3 hb3 hw3 n0 n1 n2 n3 n4 n5 n6 z2 z3 hwx
 have hsl:nd'.sl=0:=(right_cases HR.out).2.2.1
 have HSL:=Lib.hid hsl
 clear hsl
 have HS:=Lib.hid (show nodeW (wK ns p.vw d) nd' p.vw=.ok ⟨nd'.vk,nd'.vn,nd'.vt,[]⟩ from leaf_node (by have h:=HOP.out;unfold leafW;simp [h]))
 go_wp2_with fail
 refine bodyPost_ret (res2c Tryz.results42 _ _ (w.heap.size+1) _ _ _ _ _ (heap_box H1.out _ _ _ _) rfl rfl) rfl ?_
 refine ⟨.ok (z:=⟨nd'.vk,nd'.vn,nd'.vt,[]⟩) rfl ⟨nd'.sa,nd'.sl,nd'.sc,rfl,.inl ?_⟩ HS.out,below_box (by omega) HB3.out _ _ _ _⟩
 obtain ⟨ss,h⟩:=HNW.out.t
 have hss:ss=[]:=List.eq_nil_of_length_eq_zero (by rw [h.rs.1];exact HSL.out)
 rw [hss] at h
 exact h
theorem r_steps (w0:World) (na:Option Addr) (nl nc:Nat) (ns:List Nd) (p:Pd) (d:Nat) (IH:RefAt w0 na nl nc ns p d) (hE:EnvR w0 na nl nc ns p) (hv:VwOk p.vw) (w:World) (hbw:Below w0.heap.size w0 w) (q:Nat) (nd:Nd) (hq:q < nl) (hnd:ns[q]?=some nd) (hright:nd.right=true) (hk:∀ k ∈ nd.ks,goodN ns d k) (hop:nd.op=30) :
 Calls Tryz.prog 42 #[.slice na nl nc,.int .i64 (q:Int),.agg p.cs] w fun e w'=>TogOut w0 w e w' (nodeW (wK ns p.vw d) nd p.vw)∧Below w.heap.size w w':=by
 obtain ⟨w2,hw2⟩:∃ w2,w2=(w.alloc (boxR p)).alloc boxZ:=⟨_,rfl⟩
 have g0:w2.heap[w.heap.size]?=some (boxR p):=by rw [hw2];exact heap_alloc2_old w _ _
 have g1:w2.heap[w.heap.size+1]?=some boxZ:=by rw [hw2];exact heap_alloc2_new w _ _
 have hb2:Below w.heap.size w w2:=by rw [hw2];exact bel2 _ _ _
 have z2:w2.heap.size=w.heap.size+2:=by rw [hw2];simp
 have hz0:=hbw.size
 have HNW:=Lib.hid (hE.n nd (List.mem_of_getElem? hnd))
 obtain ⟨nb,no,nd',rfl,hnd',hcl0⟩:=hE.r.at hq
 obtain rfl:nd'=nd:=by rw [hnd] at hnd';exact (Option.some.inj hnd').symm
 have hbw2:Below w0.heap.size w0 w2:=hbw.trans (hb2.mono hz0)
 have hcl:=fun j v hv=>(hbw2.cell (p:=⟨nb,no+q * 7+j,none⟩) (block_lt_of_cell (hcl0 j v hv))).trans (hcl0 j v hv)
 have n0:=hcl 0 _ rfl
 have n1:=hcl 1 _ rfl
 have n2:=hcl 2 _ rfl
 have n3:=hcl 3 _ rfl
 have n4:=hcl 4 _ rfl
 have n5:=hcl 5 _ rfl
 have n6:=hcl 6 _ rfl
 simp only [Nat.add_zero] at n0
 rw [hop] at n0
 have hqI:(q:Int) < (nl:Int):=by omega
 have hnl:=hE.r.2.1
 have hnc:=hE.r.2.2.1
 have HK:=Lib.hid hk
 have HE:=Lib.hid hE
 have HIH:=Lib.hid IH
 have HV:=Lib.hid hv
 have HR:=Lib.hid hright
 have G0:=Lib.hid g0
 have G1:=Lib.hid g1
 have HB2:=Lib.hid hb2
 have HOP:=Lib.hid hop
 have HND:=Lib.hid hnd
 have HBW:=Lib.hid hbw
 clear hk hE IH hv hright g0 g1 hb2 hnd hnd' hcl hcl0 hop hbw hbw2
 go_enter Tryz.func42,Tryz.ntmps42
 go_upto_region 1 with (fail)
 rw [← hw2]
 clear hw2
 go_upto_region 2 with (fail)
 obtain ⟨w3,hw3⟩:∃ w3,w3=w2.alloc (.cells (nodeV 30 nd'.nm nd'.vk nd'.vn nd'.vt nd'.sa nd'.sl nd'.sc nd'.ka nd'.kl nd'.kc) 56):=⟨_,rfl⟩
 have g3:w3.heap[w.heap.size+2]?=some (.cells (nodeV 30 nd'.nm nd'.vk nd'.vn nd'.vt nd'.sa nd'.sl nd'.sc nd'.ka nd'.kl nd'.kc) 56 (0,0)):=by rw [hw3,← z2];exact heap_alloc_new w2 _
 have hb3:Below w2.heap.size w2 w3:=by rw [hw3];exact bel1 _ _
 have z3:w3.heap.size=w.heap.size+3:=by rw [hw3];simp [z2]
 have h1':=(hb3.block _ (by omega)).trans G1.out
 have h0':=(hb3.block _ (by omega)).trans G0.out
 obtain ⟨wx,hwx⟩:∃ wx,wx=w2.heap.size:=⟨_,rfl⟩
 rw [← hw3]
 obtain ⟨c0,c1,c2,c3,f0,f1,f2,f3⟩:=box4 h1'
 have H1:=Lib.hid h1'
 have H0:=Lib.hid h0'
 have G3:=Lib.hid g3
 have HB3:=Lib.hid (HB2.out.trans (hb3.mono (by omega)))
 have HW3:=Lib.hid (HBW.out.trans (HB3.out.mono hz0))
 have v0':=cell_of_row _ _ 0 _ _ _ h0'
 have v1':=cell_of_row _ _ 1 _ _ _ h0'
 have v2':=cell_of_row _ _ 2 _ _ _ h0'
 have v3':=cell_of_row _ _ 3 _ _ _ h0'
 have v4':=cell_of_row _ _ 4 _ _ _ h0'
 have m0:=cell_of_row _ _ 0 _ _ _ g3
 have m1:=cell_of_row _ _ 1 _ _ _ g3
 have m2:=cell_of_row _ _ 2 _ _ _ g3
 have m3:=cell_of_row _ _ 3 _ _ _ g3
 have m4:=cell_of_row _ _ 4 _ _ _ g3
 have m5:=cell_of_row _ _ 5 _ _ _ g3
 have m6:=cell_of_row _ _ 6 _ _ _ g3
 simp only [nodeV,List.getElem?_toArray,List.getElem?_cons_zero,List.getElem?_cons_succ] at v0' v1' v2' v3' v4' m0 m1 m2 m3 m4 m5 m6
 have Z0:w.heap.size < w3.heap.size:=by omega
 have Z1:w.heap.size+1 < w3.heap.size:=by omega
 have Z3:w.heap.size+2 < w3.heap.size:=by omega
 clear h1' h0' g3 hb3 hw3 n0 n1 n2 n3 n4 n5 n6 z2 z3 hwx
 have HS:=Lib.hid (show nodeW (wK ns p.vw d) nd' p.vw=.ok (intV p.steps) from leaf_node (by have h:=HOP.out;unfold leafW;simp [h];rfl))
 go_wp2_with fail
 refine bodyPost_ret (res2c Tryz.results42 _ _ (w.heap.size+1) _ _ _ _ _ (heap_box H1.out _ _ _ _) rfl rfl) rfl ?_
 exact ⟨.ok (z:=intV p.steps) rfl ⟨none,0,0,rfl,.inl (rz_nil1 w0)⟩ HS.out,below_box (by omega) HB3.out _ _ _ _⟩
theorem r_open (w0:World) (na:Option Addr) (nl nc:Nat) (ns:List Nd) (p:Pd) (d:Nat) (IH:RefAt w0 na nl nc ns p d) (hE:EnvR w0 na nl nc ns p) (hv:VwOk p.vw) (w:World) (hbw:Below w0.heap.size w0 w) (q:Nat) (nd:Nd) (hq:q < nl) (hnd:ns[q]?=some nd) (hright:nd.right=true) (hk:∀ k ∈ nd.ks,goodN ns d k) (hop:nd.op=25) :
 Calls Tryz.prog 42 #[.slice na nl nc,.int .i64 (q:Int),.agg p.cs] w fun e w'=>TogOut w0 w e w' (nodeW (wK ns p.vw d) nd p.vw)∧Below w.heap.size w w':=by
 obtain ⟨w2,hw2⟩:∃ w2,w2=(w.alloc (boxR p)).alloc boxZ:=⟨_,rfl⟩
 have g0:w2.heap[w.heap.size]?=some (boxR p):=by rw [hw2];exact heap_alloc2_old w _ _
 have g1:w2.heap[w.heap.size+1]?=some boxZ:=by rw [hw2];exact heap_alloc2_new w _ _
 have hb2:Below w.heap.size w w2:=by rw [hw2];exact bel2 _ _ _
 have z2:w2.heap.size=w.heap.size+2:=by rw [hw2];simp
 have hz0:=hbw.size
 have HNW:=Lib.hid (hE.n nd (List.mem_of_getElem? hnd))
 obtain ⟨nb,no,nd',rfl,hnd',hcl0⟩:=hE.r.at hq
 obtain rfl:nd'=nd:=by rw [hnd] at hnd';exact (Option.some.inj hnd').symm
 have hbw2:Below w0.heap.size w0 w2:=hbw.trans (hb2.mono hz0)
 have hcl:=fun j v hv=>(hbw2.cell (p:=⟨nb,no+q * 7+j,none⟩) (block_lt_of_cell (hcl0 j v hv))).trans (hcl0 j v hv)
 have n0:=hcl 0 _ rfl
 have n1:=hcl 1 _ rfl
 have n2:=hcl 2 _ rfl
 have n3:=hcl 3 _ rfl
 have n4:=hcl 4 _ rfl
 have n5:=hcl 5 _ rfl
 have n6:=hcl 6 _ rfl
 simp only [Nat.add_zero] at n0
 rw [hop] at n0
 have hqI:(q:Int) < (nl:Int):=by omega
 have hnl:=hE.r.2.1
 have hnc:=hE.r.2.2.1
 have HK:=Lib.hid hk
 have HE:=Lib.hid hE
 have HIH:=Lib.hid IH
 have HV:=Lib.hid hv
 have HR:=Lib.hid hright
 have G0:=Lib.hid g0
 have G1:=Lib.hid g1
 have HB2:=Lib.hid hb2
 have HOP:=Lib.hid hop
 have HND:=Lib.hid hnd
 have HBW:=Lib.hid hbw
 clear hk hE IH hv hright g0 g1 hb2 hnd hnd' hcl hcl0 hop hbw hbw2
 go_enter Tryz.func42,Tryz.ntmps42
 go_upto_region 1 with (fail)
 rw [← hw2]
 clear hw2
 go_upto_region 2 with (fail)
 obtain ⟨w3,hw3⟩:∃ w3,w3=w2.alloc (.cells (nodeV 25 nd'.nm nd'.vk nd'.vn nd'.vt nd'.sa nd'.sl nd'.sc nd'.ka nd'.kl nd'.kc) 56):=⟨_,rfl⟩
 have g3:w3.heap[w.heap.size+2]?=some (.cells (nodeV 25 nd'.nm nd'.vk nd'.vn nd'.vt nd'.sa nd'.sl nd'.sc nd'.ka nd'.kl nd'.kc) 56 (0,0)):=by rw [hw3,← z2];exact heap_alloc_new w2 _
 have hb3:Below w2.heap.size w2 w3:=by rw [hw3];exact bel1 _ _
 have z3:w3.heap.size=w.heap.size+3:=by rw [hw3];simp [z2]
 have h1':=(hb3.block _ (by omega)).trans G1.out
 have h0':=(hb3.block _ (by omega)).trans G0.out
 obtain ⟨wx,hwx⟩:∃ wx,wx=w2.heap.size:=⟨_,rfl⟩
 rw [← hw3]
 obtain ⟨c0,c1,c2,c3,f0,f1,f2,f3⟩:=box4 h1'
 have H1:=Lib.hid h1'
 have H0:=Lib.hid h0'
 have G3:=Lib.hid g3
 have HB3:=Lib.hid (HB2.out.trans (hb3.mono (by omega)))
 have HW3:=Lib.hid (HBW.out.trans (HB3.out.mono hz0))
 have v0':=cell_of_row _ _ 0 _ _ _ h0'
 have v1':=cell_of_row _ _ 1 _ _ _ h0'
 have v2':=cell_of_row _ _ 2 _ _ _ h0'
 have v3':=cell_of_row _ _ 3 _ _ _ h0'
 have v4':=cell_of_row _ _ 4 _ _ _ h0'
 have m0:=cell_of_row _ _ 0 _ _ _ g3
 have m1:=cell_of_row _ _ 1 _ _ _ g3
 have m2:=cell_of_row _ _ 2 _ _ _ g3
 have m3:=cell_of_row _ _ 3 _ _ _ g3
 have m4:=cell_of_row _ _ 4 _ _ _ g3
 have m5:=cell_of_row _ _ 5 _ _ _ g3
 have m6:=cell_of_row _ _ 6 _ _ _ g3
 simp only [nodeV,List.getElem?_toArray,List.getElem?_cons_zero,List.getElem?_cons_succ] at v0' v1' v2' v3' v4' m0 m1 m2 m3 m4 m5 m6
 have Z0:w.heap.size < w3.heap.size:=by omega
 have Z1:w.heap.size+1 < w3.heap.size:=by omega
 have Z3:w.heap.size+2 < w3.heap.size:=by omega
 clear h1' h0' g3 hb3 hw3 n0 n1 n2 n3 n4 n5 n6 z2 z3 hwx
 have HS:=Lib.hid (show nodeW (wK ns p.vw d) nd' p.vw=.ok (truthV (inSS p.os nd'.nm)) from leaf_node (by have h:=HOP.out;unfold leafW;simp [h];rfl))
 go_wp2_with (first | (go_at_call 61;refine (in_any w3 p.oa p.ol p.oc p.os (HE.out.o.below HW3.out) nd'.nm).mono ?_;rintro e w' ⟨rfl,hw⟩;obtain rfl:=hw.symm) | (go_at_call 60;refine (boolean_any _ (inSS p.os nd'.nm)).mono ?_;rintro e w4 ⟨rfl,hb4⟩;have H14:=Lib.hid ((hb4.block _ Z1).trans H1.out);obtain ⟨d0,d1,d2,d3,e0,e1,e2,e3⟩:=box4 H14.out))
 refine bodyPost_ret (res2c Tryz.results42 _ _ (w.heap.size+1) _ _ _ _ _ (heap_box H14.out _ _ _ _) rfl rfl) rfl ?_
 exact ⟨.ok (z:=truthV (inSS p.os nd'.nm)) rfl ⟨none,0,0,rfl,.inl (rz_nil1 w0)⟩ HS.out,below_box (by omega) (HB3.out.trans (hb4.mono (by omega))) _ _ _ _⟩
theorem r_reached (w0:World) (na:Option Addr) (nl nc:Nat) (ns:List Nd) (p:Pd) (d:Nat) (IH:RefAt w0 na nl nc ns p d) (hE:EnvR w0 na nl nc ns p) (hv:VwOk p.vw) (w:World) (hbw:Below w0.heap.size w0 w) (q:Nat) (nd:Nd) (hq:q < nl) (hnd:ns[q]?=some nd) (hright:nd.right=true) (hk:∀ k ∈ nd.ks,goodN ns d k) (hop:nd.op=26) :
 Calls Tryz.prog 42 #[.slice na nl nc,.int .i64 (q:Int),.agg p.cs] w fun e w'=>TogOut w0 w e w' (nodeW (wK ns p.vw d) nd p.vw)∧Below w.heap.size w w':=by
 obtain ⟨w2,hw2⟩:∃ w2,w2=(w.alloc (boxR p)).alloc boxZ:=⟨_,rfl⟩
 have g0:w2.heap[w.heap.size]?=some (boxR p):=by rw [hw2];exact heap_alloc2_old w _ _
 have g1:w2.heap[w.heap.size+1]?=some boxZ:=by rw [hw2];exact heap_alloc2_new w _ _
 have hb2:Below w.heap.size w w2:=by rw [hw2];exact bel2 _ _ _
 have z2:w2.heap.size=w.heap.size+2:=by rw [hw2];simp
 have hz0:=hbw.size
 have HNW:=Lib.hid (hE.n nd (List.mem_of_getElem? hnd))
 obtain ⟨nb,no,nd',rfl,hnd',hcl0⟩:=hE.r.at hq
 obtain rfl:nd'=nd:=by rw [hnd] at hnd';exact (Option.some.inj hnd').symm
 have hbw2:Below w0.heap.size w0 w2:=hbw.trans (hb2.mono hz0)
 have hcl:=fun j v hv=>(hbw2.cell (p:=⟨nb,no+q * 7+j,none⟩) (block_lt_of_cell (hcl0 j v hv))).trans (hcl0 j v hv)
 have n0:=hcl 0 _ rfl
 have n1:=hcl 1 _ rfl
 have n2:=hcl 2 _ rfl
 have n3:=hcl 3 _ rfl
 have n4:=hcl 4 _ rfl
 have n5:=hcl 5 _ rfl
 have n6:=hcl 6 _ rfl
 simp only [Nat.add_zero] at n0
 rw [hop] at n0
 have hqI:(q:Int) < (nl:Int):=by omega
 have hnl:=hE.r.2.1
 have hnc:=hE.r.2.2.1
 have HK:=Lib.hid hk
 have HE:=Lib.hid hE
 have HIH:=Lib.hid IH
 have HV:=Lib.hid hv
 have HR:=Lib.hid hright
 have G0:=Lib.hid g0
 have G1:=Lib.hid g1
 have HB2:=Lib.hid hb2
 have HOP:=Lib.hid hop
 have HND:=Lib.hid hnd
 have HBW:=Lib.hid hbw
 clear hk hE IH hv hright g0 g1 hb2 hnd hnd' hcl hcl0 hop hbw hbw2
 go_enter Tryz.func42,Tryz.ntmps42
 go_upto_region 1 with (fail)
 rw [← hw2]
 clear hw2
 go_upto_region 2 with (fail)
 obtain ⟨w3,hw3⟩:∃ w3,w3=w2.alloc (.cells (nodeV 26 nd'.nm nd'.vk nd'.vn nd'.vt nd'.sa nd'.sl nd'.sc nd'.ka nd'.kl nd'.kc) 56):=⟨_,rfl⟩
 have g3:w3.heap[w.heap.size+2]?=some (.cells (nodeV 26 nd'.nm nd'.vk nd'.vn nd'.vt nd'.sa nd'.sl nd'.sc nd'.ka nd'.kl nd'.kc) 56 (0,0)):=by rw [hw3,← z2];exact heap_alloc_new w2 _
 have hb3:Below w2.heap.size w2 w3:=by rw [hw3];exact bel1 _ _
 have z3:w3.heap.size=w.heap.size+3:=by rw [hw3];simp [z2]
 have h1':=(hb3.block _ (by omega)).trans G1.out
 have h0':=(hb3.block _ (by omega)).trans G0.out
 obtain ⟨wx,hwx⟩:∃ wx,wx=w2.heap.size:=⟨_,rfl⟩
 rw [← hw3]
 obtain ⟨c0,c1,c2,c3,f0,f1,f2,f3⟩:=box4 h1'
 have H1:=Lib.hid h1'
 have H0:=Lib.hid h0'
 have G3:=Lib.hid g3
 have HB3:=Lib.hid (HB2.out.trans (hb3.mono (by omega)))
 have HW3:=Lib.hid (HBW.out.trans (HB3.out.mono hz0))
 have v0':=cell_of_row _ _ 0 _ _ _ h0'
 have v1':=cell_of_row _ _ 1 _ _ _ h0'
 have v2':=cell_of_row _ _ 2 _ _ _ h0'
 have v3':=cell_of_row _ _ 3 _ _ _ h0'
 have v4':=cell_of_row _ _ 4 _ _ _ h0'
 have m0:=cell_of_row _ _ 0 _ _ _ g3
 have m1:=cell_of_row _ _ 1 _ _ _ g3
 have m2:=cell_of_row _ _ 2 _ _ _ g3
 have m3:=cell_of_row _ _ 3 _ _ _ g3
 have m4:=cell_of_row _ _ 4 _ _ _ g3
 have m5:=cell_of_row _ _ 5 _ _ _ g3
 have m6:=cell_of_row _ _ 6 _ _ _ g3
 simp only [nodeV,List.getElem?_toArray,List.getElem?_cons_zero,List.getElem?_cons_succ] at v0' v1' v2' v3' v4' m0 m1 m2 m3 m4 m5 m6
 have Z0:w.heap.size < w3.heap.size:=by omega
 have Z1:w.heap.size+1 < w3.heap.size:=by omega
 have Z3:w.heap.size+2 < w3.heap.size:=by omega
 clear h1' h0' g3 hb3 hw3 n0 n1 n2 n3 n4 n5 n6 z2 z3 hwx
 have HS:=Lib.hid (show nodeW (wK ns p.vw d) nd' p.vw=.ok (truthV (inSS p.rs nd'.nm)) from leaf_node (by have h:=HOP.out;unfold leafW;simp [h];rfl))
 go_wp2_with (first | (go_at_call 61;refine (in_any w3 p.ra p.rl p.rc p.rs (HE.out.q.below HW3.out) nd'.nm).mono ?_;rintro e w' ⟨rfl,hw⟩;obtain rfl:=hw.symm) | (go_at_call 60;refine (boolean_any _ (inSS p.rs nd'.nm)).mono ?_;rintro e w4 ⟨rfl,hb4⟩;have H14:=Lib.hid ((hb4.block _ Z1).trans H1.out);obtain ⟨d0,d1,d2,d3,e0,e1,e2,e3⟩:=box4 H14.out))
 refine bodyPost_ret (res2c Tryz.results42 _ _ (w.heap.size+1) _ _ _ _ _ (heap_box H14.out _ _ _ _) rfl rfl) rfl ?_
 exact ⟨.ok (z:=truthV (inSS p.rs nd'.nm)) rfl ⟨none,0,0,rfl,.inl (rz_nil1 w0)⟩ HS.out,below_box (by omega) (HB3.out.trans (hb4.mono (by omega))) _ _ _ _⟩
theorem r_name (w0:World) (na:Option Addr) (nl nc:Nat) (ns:List Nd) (p:Pd) (d:Nat) (IH:RefAt w0 na nl nc ns p d) (hE:EnvR w0 na nl nc ns p) (hv:VwOk p.vw) (w:World) (hbw:Below w0.heap.size w0 w) (q:Nat) (nd:Nd) (hq:q < nl) (hnd:ns[q]?=some nd) (hright:nd.right=true) (hk:∀ k ∈ nd.ks,goodN ns d k) (hop:nd.op=5) :
 Calls Tryz.prog 42 #[.slice na nl nc,.int .i64 (q:Int),.agg p.cs] w fun e w'=>TogOut w0 w e w' (nodeW (wK ns p.vw d) nd p.vw)∧Below w.heap.size w w':=by
 obtain ⟨w2,hw2⟩:∃ w2,w2=(w.alloc (boxR p)).alloc boxZ:=⟨_,rfl⟩
 have g0:w2.heap[w.heap.size]?=some (boxR p):=by rw [hw2];exact heap_alloc2_old w _ _
 have g1:w2.heap[w.heap.size+1]?=some boxZ:=by rw [hw2];exact heap_alloc2_new w _ _
 have hb2:Below w.heap.size w w2:=by rw [hw2];exact bel2 _ _ _
 have z2:w2.heap.size=w.heap.size+2:=by rw [hw2];simp
 have hz0:=hbw.size
 have HNW:=Lib.hid (hE.n nd (List.mem_of_getElem? hnd))
 obtain ⟨nb,no,nd',rfl,hnd',hcl0⟩:=hE.r.at hq
 obtain rfl:nd'=nd:=by rw [hnd] at hnd';exact (Option.some.inj hnd').symm
 have hbw2:Below w0.heap.size w0 w2:=hbw.trans (hb2.mono hz0)
 have hcl:=fun j v hv=>(hbw2.cell (p:=⟨nb,no+q * 7+j,none⟩) (block_lt_of_cell (hcl0 j v hv))).trans (hcl0 j v hv)
 have n0:=hcl 0 _ rfl
 have n1:=hcl 1 _ rfl
 have n2:=hcl 2 _ rfl
 have n3:=hcl 3 _ rfl
 have n4:=hcl 4 _ rfl
 have n5:=hcl 5 _ rfl
 have n6:=hcl 6 _ rfl
 simp only [Nat.add_zero] at n0
 rw [hop] at n0
 have hqI:(q:Int) < (nl:Int):=by omega
 have hnl:=hE.r.2.1
 have hnc:=hE.r.2.2.1
 have HK:=Lib.hid hk
 have HE:=Lib.hid hE
 have HIH:=Lib.hid IH
 have HV:=Lib.hid hv
 have HR:=Lib.hid hright
 have G0:=Lib.hid g0
 have G1:=Lib.hid g1
 have HB2:=Lib.hid hb2
 have HOP:=Lib.hid hop
 have HND:=Lib.hid hnd
 have HBW:=Lib.hid hbw
 clear hk hE IH hv hright g0 g1 hb2 hnd hnd' hcl hcl0 hop hbw hbw2
 go_enter Tryz.func42,Tryz.ntmps42
 go_upto_region 1 with (fail)
 rw [← hw2]
 clear hw2
 go_upto_region 2 with (fail)
 obtain ⟨w3,hw3⟩:∃ w3,w3=w2.alloc (.cells (nodeV 5 nd'.nm nd'.vk nd'.vn nd'.vt nd'.sa nd'.sl nd'.sc nd'.ka nd'.kl nd'.kc) 56):=⟨_,rfl⟩
 have g3:w3.heap[w.heap.size+2]?=some (.cells (nodeV 5 nd'.nm nd'.vk nd'.vn nd'.vt nd'.sa nd'.sl nd'.sc nd'.ka nd'.kl nd'.kc) 56 (0,0)):=by rw [hw3,← z2];exact heap_alloc_new w2 _
 have hb3:Below w2.heap.size w2 w3:=by rw [hw3];exact bel1 _ _
 have z3:w3.heap.size=w.heap.size+3:=by rw [hw3];simp [z2]
 have h1':=(hb3.block _ (by omega)).trans G1.out
 have h0':=(hb3.block _ (by omega)).trans G0.out
 obtain ⟨wx,hwx⟩:∃ wx,wx=w2.heap.size:=⟨_,rfl⟩
 rw [← hw3]
 obtain ⟨c0,c1,c2,c3,f0,f1,f2,f3⟩:=box4 h1'
 have H1:=Lib.hid h1'
 have H0:=Lib.hid h0'
 have G3:=Lib.hid g3
 have HB3:=Lib.hid (HB2.out.trans (hb3.mono (by omega)))
 have HW3:=Lib.hid (HBW.out.trans (HB3.out.mono hz0))
 have v0':=cell_of_row _ _ 0 _ _ _ h0'
 have v1':=cell_of_row _ _ 1 _ _ _ h0'
 have v2':=cell_of_row _ _ 2 _ _ _ h0'
 have v3':=cell_of_row _ _ 3 _ _ _ h0'
 have v4':=cell_of_row _ _ 4 _ _ _ h0'
 have m0:=cell_of_row _ _ 0 _ _ _ g3
 have m1:=cell_of_row _ _ 1 _ _ _ g3
 have m2:=cell_of_row _ _ 2 _ _ _ g3
 have m3:=cell_of_row _ _ 3 _ _ _ g3
 have m4:=cell_of_row _ _ 4 _ _ _ g3
 have m5:=cell_of_row _ _ 5 _ _ _ g3
 have m6:=cell_of_row _ _ 6 _ _ _ g3
 simp only [nodeV,List.getElem?_toArray,List.getElem?_cons_zero,List.getElem?_cons_succ] at v0' v1' v2' v3' v4' m0 m1 m2 m3 m4 m5 m6
 have Z0:w.heap.size < w3.heap.size:=by omega
 have Z1:w.heap.size+1 < w3.heap.size:=by omega
 have Z3:w.heap.size+2 < w3.heap.size:=by omega
 clear h1' h0' g3 hb3 hw3 n0 n1 n2 n3 n4 n5 n6 z2 z3 hwx
 have HS:=Lib.hid (show nodeW (wK ns p.vw d) nd' p.vw=toldW (p.vw.value nd'.nm) from leaf_node (by have h:=HOP.out;unfold leafW;simp [h]))
 go_wp2_with (first | (go_at_call 59;refine (refvalue0_any w0 w3 p (HE.out.v.below HW3.out) HE.out.b nd'.nm).mono ?_;rintro e w4 ⟨⟨xa,xl,xc,rfl,hxz⟩,hb4⟩;have HXZ:=Lib.hid hxz;have HB4:=Lib.hid (HB3.out.trans (hb4.mono (by omega)));have H14:=Lib.hid ((hb4.block _ Z1).trans H1.out);have HX4:=Lib.hid (hxz.rs.below (HW3.out.trans (hb4.mono HW3.out.size)));have ZZ:=hb4.size;clear hb4 hxz) | (go_at_call 58;refine (seen_any _ (p.vw.value nd'.nm) xa xl xc HX4.out).mono ?_;rintro e w5 ⟨rfl,hb5⟩;have HB5:=Lib.hid (HB4.out.trans (hb5.mono HB4.out.size));have H15:=Lib.hid ((hb5.block _ (Nat.lt_of_lt_of_le Z1 ZZ)).trans H14.out);obtain ⟨d0,d1,d2,d3,e0,e1,e2,e3⟩:=box4 H15.out;clear hb5))
 refine bodyPost_ret (res2c Tryz.results42 _ _ (w.heap.size+1) _ _ _ _ _ (heap_box H15.out _ _ _ _) rfl rfl) rfl ?_
 by_cases hx:rightV (p.vw.value nd'.nm)=0
 · exact ⟨.ok (z:=p.vw.value nd'.nm) (by rw [show seenE (p.vw.value nd'.nm)=0 from if_pos hx];rfl) ⟨xa,xl,xc,rfl,.inl HXZ.out⟩ (by rw [HS.out];unfold toldW;rw [if_pos hx]),below_box (by omega) HB5.out _ _ _ _⟩
 · exact ⟨.err (z:=p.vw.value nd'.nm) (er:=8) (by rw [show seenE (p.vw.value nd'.nm)=8 from if_neg hx];rfl) ⟨xa,xl,xc,rfl,.inl HXZ.out⟩ (by rw [HS.out];unfold toldW;rw [if_neg hx]) (by decide),below_box (by omega) HB5.out _ _ _ _⟩
theorem r_clock (w0:World) (na:Option Addr) (nl nc:Nat) (ns:List Nd) (p:Pd) (d:Nat) (IH:RefAt w0 na nl nc ns p d) (hE:EnvR w0 na nl nc ns p) (hv:VwOk p.vw) (w:World) (hbw:Below w0.heap.size w0 w) (q:Nat) (nd:Nd) (hq:q < nl) (hnd:ns[q]?=some nd) (hright:nd.right=true) (hk:∀ k ∈ nd.ks,goodN ns d k) (hop:nd.op=29) :
 Calls Tryz.prog 42 #[.slice na nl nc,.int .i64 (q:Int),.agg p.cs] w fun e w'=>TogOut w0 w e w' (nodeW (wK ns p.vw d) nd p.vw)∧Below w.heap.size w w':=by
 obtain ⟨w2,hw2⟩:∃ w2,w2=(w.alloc (boxR p)).alloc boxZ:=⟨_,rfl⟩
 have g0:w2.heap[w.heap.size]?=some (boxR p):=by rw [hw2];exact heap_alloc2_old w _ _
 have g1:w2.heap[w.heap.size+1]?=some boxZ:=by rw [hw2];exact heap_alloc2_new w _ _
 have hb2:Below w.heap.size w w2:=by rw [hw2];exact bel2 _ _ _
 have z2:w2.heap.size=w.heap.size+2:=by rw [hw2];simp
 have hz0:=hbw.size
 have HNW:=Lib.hid (hE.n nd (List.mem_of_getElem? hnd))
 obtain ⟨nb,no,nd',rfl,hnd',hcl0⟩:=hE.r.at hq
 obtain rfl:nd'=nd:=by rw [hnd] at hnd';exact (Option.some.inj hnd').symm
 have hbw2:Below w0.heap.size w0 w2:=hbw.trans (hb2.mono hz0)
 have hcl:=fun j v hv=>(hbw2.cell (p:=⟨nb,no+q * 7+j,none⟩) (block_lt_of_cell (hcl0 j v hv))).trans (hcl0 j v hv)
 have n0:=hcl 0 _ rfl
 have n1:=hcl 1 _ rfl
 have n2:=hcl 2 _ rfl
 have n3:=hcl 3 _ rfl
 have n4:=hcl 4 _ rfl
 have n5:=hcl 5 _ rfl
 have n6:=hcl 6 _ rfl
 simp only [Nat.add_zero] at n0
 rw [hop] at n0
 have hqI:(q:Int) < (nl:Int):=by omega
 have hnl:=hE.r.2.1
 have hnc:=hE.r.2.2.1
 have HK:=Lib.hid hk
 have HE:=Lib.hid hE
 have HIH:=Lib.hid IH
 have HV:=Lib.hid hv
 have HR:=Lib.hid hright
 have G0:=Lib.hid g0
 have G1:=Lib.hid g1
 have HB2:=Lib.hid hb2
 have HOP:=Lib.hid hop
 have HND:=Lib.hid hnd
 have HBW:=Lib.hid hbw
 clear hk hE IH hv hright g0 g1 hb2 hnd hnd' hcl hcl0 hop hbw hbw2
 go_enter Tryz.func42,Tryz.ntmps42
 go_upto_region 1 with (fail)
 rw [← hw2]
 clear hw2
 go_upto_region 2 with (fail)
 obtain ⟨w3,hw3⟩:∃ w3,w3=w2.alloc (.cells (nodeV 29 nd'.nm nd'.vk nd'.vn nd'.vt nd'.sa nd'.sl nd'.sc nd'.ka nd'.kl nd'.kc) 56):=⟨_,rfl⟩
 have g3:w3.heap[w.heap.size+2]?=some (.cells (nodeV 29 nd'.nm nd'.vk nd'.vn nd'.vt nd'.sa nd'.sl nd'.sc nd'.ka nd'.kl nd'.kc) 56 (0,0)):=by rw [hw3,← z2];exact heap_alloc_new w2 _
 have hb3:Below w2.heap.size w2 w3:=by rw [hw3];exact bel1 _ _
 have z3:w3.heap.size=w.heap.size+3:=by rw [hw3];simp [z2]
 have h1':=(hb3.block _ (by omega)).trans G1.out
 have h0':=(hb3.block _ (by omega)).trans G0.out
 obtain ⟨wx,hwx⟩:∃ wx,wx=w2.heap.size:=⟨_,rfl⟩
 rw [← hw3]
 obtain ⟨c0,c1,c2,c3,f0,f1,f2,f3⟩:=box4 h1'
 have H1:=Lib.hid h1'
 have H0:=Lib.hid h0'
 have G3:=Lib.hid g3
 have HB3:=Lib.hid (HB2.out.trans (hb3.mono (by omega)))
 have HW3:=Lib.hid (HBW.out.trans (HB3.out.mono hz0))
 have v0':=cell_of_row _ _ 0 _ _ _ h0'
 have v1':=cell_of_row _ _ 1 _ _ _ h0'
 have v2':=cell_of_row _ _ 2 _ _ _ h0'
 have v3':=cell_of_row _ _ 3 _ _ _ h0'
 have v4':=cell_of_row _ _ 4 _ _ _ h0'
 have m0:=cell_of_row _ _ 0 _ _ _ g3
 have m1:=cell_of_row _ _ 1 _ _ _ g3
 have m2:=cell_of_row _ _ 2 _ _ _ g3
 have m3:=cell_of_row _ _ 3 _ _ _ g3
 have m4:=cell_of_row _ _ 4 _ _ _ g3
 have m5:=cell_of_row _ _ 5 _ _ _ g3
 have m6:=cell_of_row _ _ 6 _ _ _ g3
 simp only [nodeV,List.getElem?_toArray,List.getElem?_cons_zero,List.getElem?_cons_succ] at v0' v1' v2' v3' v4' m0 m1 m2 m3 m4 m5 m6
 have Z0:w.heap.size < w3.heap.size:=by omega
 have Z1:w.heap.size+1 < w3.heap.size:=by omega
 have Z3:w.heap.size+2 < w3.heap.size:=by omega
 clear h1' h0' g3 hb3 hw3 n0 n1 n2 n3 n4 n5 n6 z2 z3 hwx
 have HS:=Lib.hid (show nodeW (wK ns p.vw d) nd' p.vw=toldW (⟨4,p.clock,ByteArray.empty,[]⟩:Vl) from leaf_node (by have h:=HOP.out;unfold leafW;simp [h];rfl))
 have HB4:=HB3
 have H14:=H1
 have ZZ:w3.heap.size≤w3.heap.size:=Nat.le_refl _
 go_wp2_with (first | (go_at_call 58;refine (seen_any _ (⟨4,p.clock,ByteArray.empty,[]⟩) none 0 0 (rs_nil1 _)).mono ?_;rintro e w5 ⟨rfl,hb5⟩;have HB5:=Lib.hid (HB4.out.trans (hb5.mono HB4.out.size));have H15:=Lib.hid ((hb5.block _ (Nat.lt_of_lt_of_le Z1 ZZ)).trans H14.out);obtain ⟨d0,d1,d2,d3,e0,e1,e2,e3⟩:=box4 H15.out;clear hb5))
 refine bodyPost_ret (res2c Tryz.results42 _ _ (w.heap.size+1) _ _ _ _ _ (heap_box H15.out _ _ _ _) rfl rfl) rfl ?_
 by_cases hx:rightV ((⟨4,p.clock,ByteArray.empty,[]⟩:Vl))=0
 · exact ⟨.ok (z:=(⟨4,p.clock,ByteArray.empty,[]⟩:Vl)) (by rw [show seenE ((⟨4,p.clock,ByteArray.empty,[]⟩:Vl))=0 from if_pos hx];rfl) ⟨none,0,0,rfl,.inl (rz_nil1 w0)⟩ (by rw [HS.out];unfold toldW;rw [if_pos hx]),below_box (by omega) HB5.out _ _ _ _⟩
 · exact ⟨.err (z:=(⟨4,p.clock,ByteArray.empty,[]⟩:Vl)) (er:=8) (by rw [show seenE ((⟨4,p.clock,ByteArray.empty,[]⟩:Vl))=8 from if_neg hx];rfl) ⟨none,0,0,rfl,.inl (rz_nil1 w0)⟩ (by rw [HS.out];unfold toldW;rw [if_neg hx]) (by decide),below_box (by omega) HB5.out _ _ _ _⟩
theorem r_text (w0:World) (na:Option Addr) (nl nc:Nat) (ns:List Nd) (p:Pd) (d:Nat) (IH:RefAt w0 na nl nc ns p d) (hE:EnvR w0 na nl nc ns p) (hv:VwOk p.vw) (w:World) (hbw:Below w0.heap.size w0 w) (q:Nat) (nd:Nd) (hq:q < nl) (hnd:ns[q]?=some nd) (hright:nd.right=true) (hk:∀ k ∈ nd.ks,goodN ns d k) (hop:nd.op=3) :
 Calls Tryz.prog 42 #[.slice na nl nc,.int .i64 (q:Int),.agg p.cs] w fun e w'=>TogOut w0 w e w' (nodeW (wK ns p.vw d) nd p.vw)∧Below w.heap.size w w':=by
 obtain ⟨w2,hw2⟩:∃ w2,w2=(w.alloc (boxR p)).alloc boxZ:=⟨_,rfl⟩
 have g0:w2.heap[w.heap.size]?=some (boxR p):=by rw [hw2];exact heap_alloc2_old w _ _
 have g1:w2.heap[w.heap.size+1]?=some boxZ:=by rw [hw2];exact heap_alloc2_new w _ _
 have hb2:Below w.heap.size w w2:=by rw [hw2];exact bel2 _ _ _
 have z2:w2.heap.size=w.heap.size+2:=by rw [hw2];simp
 have hz0:=hbw.size
 have HNW:=Lib.hid (hE.n nd (List.mem_of_getElem? hnd))
 obtain ⟨nb,no,nd',rfl,hnd',hcl0⟩:=hE.r.at hq
 obtain rfl:nd'=nd:=by rw [hnd] at hnd';exact (Option.some.inj hnd').symm
 have hbw2:Below w0.heap.size w0 w2:=hbw.trans (hb2.mono hz0)
 have hcl:=fun j v hv=>(hbw2.cell (p:=⟨nb,no+q * 7+j,none⟩) (block_lt_of_cell (hcl0 j v hv))).trans (hcl0 j v hv)
 have n0:=hcl 0 _ rfl
 have n1:=hcl 1 _ rfl
 have n2:=hcl 2 _ rfl
 have n3:=hcl 3 _ rfl
 have n4:=hcl 4 _ rfl
 have n5:=hcl 5 _ rfl
 have n6:=hcl 6 _ rfl
 simp only [Nat.add_zero] at n0
 rw [hop] at n0
 have hqI:(q:Int) < (nl:Int):=by omega
 have hnl:=hE.r.2.1
 have hnc:=hE.r.2.2.1
 have HK:=Lib.hid hk
 have HE:=Lib.hid hE
 have HIH:=Lib.hid IH
 have HV:=Lib.hid hv
 have HR:=Lib.hid hright
 have G0:=Lib.hid g0
 have G1:=Lib.hid g1
 have HB2:=Lib.hid hb2
 have HOP:=Lib.hid hop
 have HND:=Lib.hid hnd
 have HBW:=Lib.hid hbw
 clear hk hE IH hv hright g0 g1 hb2 hnd hnd' hcl hcl0 hop hbw hbw2
 go_enter Tryz.func42,Tryz.ntmps42
 go_upto_region 1 with (fail)
 rw [← hw2]
 clear hw2
 go_upto_region 2 with (fail)
 obtain ⟨w3,hw3⟩:∃ w3,w3=w2.alloc (.cells (nodeV 3 nd'.nm nd'.vk nd'.vn nd'.vt nd'.sa nd'.sl nd'.sc nd'.ka nd'.kl nd'.kc) 56):=⟨_,rfl⟩
 have g3:w3.heap[w.heap.size+2]?=some (.cells (nodeV 3 nd'.nm nd'.vk nd'.vn nd'.vt nd'.sa nd'.sl nd'.sc nd'.ka nd'.kl nd'.kc) 56 (0,0)):=by rw [hw3,← z2];exact heap_alloc_new w2 _
 have hb3:Below w2.heap.size w2 w3:=by rw [hw3];exact bel1 _ _
 have z3:w3.heap.size=w.heap.size+3:=by rw [hw3];simp [z2]
 have h1':=(hb3.block _ (by omega)).trans G1.out
 have h0':=(hb3.block _ (by omega)).trans G0.out
 obtain ⟨wx,hwx⟩:∃ wx,wx=w2.heap.size:=⟨_,rfl⟩
 rw [← hw3]
 obtain ⟨c0,c1,c2,c3,f0,f1,f2,f3⟩:=box4 h1'
 have H1:=Lib.hid h1'
 have H0:=Lib.hid h0'
 have G3:=Lib.hid g3
 have HB3:=Lib.hid (HB2.out.trans (hb3.mono (by omega)))
 have HW3:=Lib.hid (HBW.out.trans (HB3.out.mono hz0))
 have v0':=cell_of_row _ _ 0 _ _ _ h0'
 have v1':=cell_of_row _ _ 1 _ _ _ h0'
 have v2':=cell_of_row _ _ 2 _ _ _ h0'
 have v3':=cell_of_row _ _ 3 _ _ _ h0'
 have v4':=cell_of_row _ _ 4 _ _ _ h0'
 have m0:=cell_of_row _ _ 0 _ _ _ g3
 have m1:=cell_of_row _ _ 1 _ _ _ g3
 have m2:=cell_of_row _ _ 2 _ _ _ g3
 have m3:=cell_of_row _ _ 3 _ _ _ g3
 have m4:=cell_of_row _ _ 4 _ _ _ g3
 have m5:=cell_of_row _ _ 5 _ _ _ g3
 have m6:=cell_of_row _ _ 6 _ _ _ g3
 simp only [nodeV,List.getElem?_toArray,List.getElem?_cons_zero,List.getElem?_cons_succ] at v0' v1' v2' v3' v4' m0 m1 m2 m3 m4 m5 m6
 have Z0:w.heap.size < w3.heap.size:=by omega
 have Z1:w.heap.size+1 < w3.heap.size:=by omega
 have Z3:w.heap.size+2 < w3.heap.size:=by omega
 clear h1' h0' g3 hb3 hw3 n0 n1 n2 n3 n4 n5 n6 z2 z3 hwx
 have hsl:nd'.sl=0:=(right_cases HR.out).2.2.1
 have HSL:=Lib.hid hsl
 have hvk:=(right_cases HR.out).2.2.2
 have HVK:=Lib.hid (show nd'.vk=3∧nd'.vn=0 by have h:=hvk;rw [HOP.out] at h;simpa [valB] using h)
 clear hsl hvk
 have HS:=Lib.hid (show nodeW (wK ns p.vw d) nd' p.vw=shortW nd'.vt from leaf_node (by have h:=HOP.out;unfold leafW;simp [h]))
 have HZN:=Lib.hid (show RZ w0 nd'.sa nd'.sl nd'.sc [] by
  obtain ⟨ss,h⟩:=HNW.out.t
  have hss:ss=[]:=List.eq_nil_of_length_eq_zero (by rw [h.rs.1];exact HSL.out)
  rwa [hss] at h)
 go_wp2_with fail
 refine wp_region_held_drew (S:=(fun w'=>Below w.heap.size w w'∧w'.cell? ⟨w.heap.size+2,2,none⟩=some (.int .i64 nd'.vk)∧w'.cell? ⟨w.heap.size+2,3,none⟩=some (.int .i64 nd'.vn)∧w'.cell? ⟨w.heap.size+2,4,none⟩=some (.string nd'.vt)∧w'.cell? ⟨w.heap.size+2,5,none⟩=some (.slice nd'.sa nd'.sl nd'.sc))) (by kernel_rfl) ⟨(HB3.out.trans ((Below.refl w3.heap.size w3).drew.mono HB3.out.size)),m2,m3,m4,m5⟩ (fun hHeld=>?_)
 clear m0 m1 m2 m3 m4 m5 m6 c0 c1 c2 c3 f0 f1 f2 f3
 obtain ⟨wd,hwd⟩:∃ wd,wd=w3.drew:=⟨_,rfl⟩
 have H1D:=Lib.hid (show wd.heap[w.heap.size+1]?=some boxZ by rw [hwd];exact H1.out)
 have HWD:=Lib.hid (show Below w0.heap.size w0 wd by rw [hwd];exact HW3.out.trans ((Below.refl w3.heap.size w3).drew.mono HW3.out.size))
 rw [← hwd] at hHeld ⊢
 clear hwd
 refine tkI (i:=0) (v:=?_) rfl ?_ ?_
 rotate_left
 · intro w hSw;(try dsimp only at hSw);go_simp;try with_reducible rfl
 (try simp only [Act.put,pa,pb,pc,pd,pe,pf])
 refine tkI (i:=1) (v:=?_) rfl ?_ ?_
 rotate_left
 · intro w hSw;(try dsimp only at hSw);go_simp;try with_reducible rfl
 (try simp only [Act.put,pa,pb,pc,pd,pe,pf])
 refine tkI (i:=2) (v:=?_) rfl ?_ ?_
 rotate_left
 · intro w hSw;(try dsimp only at hSw);go_simp;try with_reducible rfl
 (try simp only [Act.put,pa,pb,pc,pd,pe,pf])
 refine tkI (i:=3) (v:=?_) rfl ?_ ?_
 rotate_left
 · intro w hSw;(try dsimp only at hSw);go_simp;try with_reducible rfl
 (try simp only [Act.put,pa,pb,pc,pd,pe,pf])
 refine wpAnyH_ready (rs:=[4]) (by kernel_rfl) (by simp) ?_
 refine AllReadyH.cons (o:=_) rfl (fun K hK=>?_) AllReadyH.nil
 go_simp
 refine (refright_any wd (⟨nd'.vk,nd'.vn,nd'.vt,[]⟩:Vl) nd'.sa nd'.sl nd'.sc (HZN.out.rs.below HWD.out)).mono ?_
 rintro e y1 ⟨rfl,hb⟩
 have H11:=Lib.hid ((hb.block _ (Array.getElem?_eq_some_iff.1 H1D.out).1).trans H1D.out)
 refine hK.out _ _ ⟨hHeld.1.trans (hb.mono hHeld.1.size),keepb hb hHeld.2.1,keepb hb hHeld.2.2.1,keepb hb hHeld.2.2.2.1,keepb hb hHeld.2.2.2.2⟩ (fun hHeld=>?_)
 clear hK K hb
 (try simp only [Act.put,pa,pb,pc,pd,pe,pf])
 obtain ⟨d0,d1,d2,d3,f0,f1,f2,f3⟩:=box4 H11.out
 have hne:w.heap.size+2 ≠ w.heap.size+1:=by omega
 refine wpAnyH_ready (rs:=[5]) (by kernel_rfl) (by simp) ?_
 refine AllReadyH.cons (o:=_) rfl (fun K hK=>?_) AllReadyH.nil
 go_simp
 refine hK.out _ _ ⟨below_box (by omega) hHeld.1 _ _ _ _,keepo hHeld.2.1 hne,keepo hHeld.2.2.1 hne,keepo hHeld.2.2.2.1 hne,keepo hHeld.2.2.2.2 hne⟩ (fun hHeld=>?_)
 clear hK K d0 d1 d2 d3 f0 f1 f2 f3
 (try simp only [Act.put,pa,pb,pc,pd,pe,pf])
 refine tkI (i:=6) (v:=?_) rfl ?_ ?_
 rotate_left
 · intro w hSw;(try dsimp only at hSw);go_simp;try with_reducible rfl
 (try simp only [Act.put,pa,pb,pc,pd,pe,pf])
 refine wpAnyH_done (by kernel_rfl) ?_ _
 go_wp2_with fail
 refine bodyPost_ret (res2c Tryz.results42 _ _ (w.heap.size+1) _ _ _ _ _ (heap_box H11.out _ _ _ _) rfl rfl) rfl ?_
 have hr:rightV (⟨nd'.vk,nd'.vn,nd'.vt,[]⟩:Vl)=if 1024 < nd'.vt.size then 113 else 0:=by
  rw [HVK.out.1,HVK.out.2]
  unfold rightV
  simp [formedV,longB]
 have hx:∀ {r:Wr},r=.ok (⟨3,0,nd'.vt,[]⟩:Vl)→r=.ok (⟨nd'.vk,nd'.vn,nd'.vt,[]⟩:Vl):=fun h=>by rw [HVK.out.1,HVK.out.2];exact h
 by_cases hj:1024 < nd'.vt.size
 · exact ⟨.err (z:=(⟨nd'.vk,nd'.vn,nd'.vt,[]⟩:Vl)) (er:=113) (by rw [hr,if_pos hj];rfl) ⟨nd'.sa,nd'.sl,nd'.sc,rfl,.inl HZN.out⟩ (by rw [HS.out,shortW,if_pos hj]) (by decide),hHeld.1⟩
 · exact ⟨.ok (z:=(⟨nd'.vk,nd'.vn,nd'.vt,[]⟩:Vl)) (by rw [hr,if_neg hj];rfl) ⟨nd'.sa,nd'.sl,nd'.sc,rfl,.inl HZN.out⟩ (hx (by rw [HS.out,shortW,if_neg hj])),hHeld.1⟩
def CertOut (e:Ending) (r:Except Int Bool):Prop:=∃ b er,e=.returned (.tuple #[.bool b,.int .i64 er])∧((r=.ok b∧er=0)∨(r=.error er∧er ≠ 0))
theorem CertOut.ok {e:Ending} {r:Except Int Bool} {b:Bool} (he:e=.returned (.tuple #[.bool b,.int .i64 0])) (h:r=.ok b):CertOut e r:=⟨b,0,he,.inl ⟨h,rfl⟩⟩
theorem CertOut.err {e:Ending} {r:Except Int Bool} {b:Bool} {er:Int} (he:e=.returned (.tuple #[.bool b,.int .i64 er])) (h:r=.error er) (h0:er ≠ 0):CertOut e r:=⟨b,er,he,.inr ⟨h,h0⟩⟩
theorem certain_any (w0:World) (na:Option Addr) (nl nc:Nat) (ns:List Nd) (p:Pd) (d:Nat) (IH:RefAt w0 na nl nc ns p d) (w:World) (r:Int) (hb:Below w0.heap.size w0 w) (hg:goodN ns d r) :
 Calls Tryz.prog 62 #[.slice na nl nc,.int .i64 r,.agg p.cs] w fun e w'=>CertOut e (sureW (wK ns p.vw d r))∧Below w.heap.size w w':=by
 obtain ⟨w1,hw1⟩:∃ w1,w1=w.alloc (boxR p):=⟨_,rfl⟩
 have g0:w1.heap[w.heap.size]?=some (boxR p):=by rw [hw1];exact heap_alloc_new w _
 have hb1:Below w.heap.size w w1:=by rw [hw1];exact bel1 _ _
 have hcall:=IH w1 r (hb.trans (hb1.mono hb.size)) hg
 have HB1:=Lib.hid hb1
 have HC:=Lib.hid hcall
 have z1:=hb1.size
 have v0':=cell_of_row _ _ 0 _ _ _ g0
 have v1':=cell_of_row _ _ 1 _ _ _ g0
 have v2':=cell_of_row _ _ 2 _ _ _ g0
 have v3':=cell_of_row _ _ 3 _ _ _ g0
 have v4':=cell_of_row _ _ 4 _ _ _ g0
 simp only [List.getElem?_toArray,List.getElem?_cons_zero,List.getElem?_cons_succ] at v0' v1' v2' v3' v4'
 clear g0 hb1 hcall hg IH hb
 go_enter Tryz.func62,Tryz.ntmps62
 go_upto_region 1 with (fail)
 rw [← hw1]
 clear hw1
 go_upto_region 2 with (go_at_call 42;refine HC.out.mono ?_;rintro e w2 ⟨⟨v,z,er,rfl,⟨za,zl,zc,rfl,-⟩,hr⟩,hb2⟩;have HB2:=Lib.hid (HB1.out.trans (hb2.mono z1));have HRR:=Lib.hid hr;clear hb2 hr)
 obtain ⟨w3,hw3⟩:∃ w3,w3=w2.alloc (.cells #[.int .i64 z.k,.int .i64 z.n,.string z.t,.slice za zl zc] 43):=⟨_,rfl⟩
 have g3:w3.heap[w2.heap.size]?=some (.cells #[.int .i64 z.k,.int .i64 z.n,.string z.t,.slice za zl zc] 43 (0,0)):=by rw [hw3];exact heap_alloc_new w2 _
 have HB3:=Lib.hid (HB2.out.trans ((show Below w2.heap.size w2 w3 by rw [hw3];exact bel1 _ _).mono HB2.out.size))
 rw [← hw3]
 clear hw3 v0' v1' v2' v3' v4'
 obtain ⟨x0,x1,x2,x3,-⟩:=box4 g3
 clear g3
 cases he:(er != 0)
 · have hez:er=0:=by simpa using he
   have HWK:=Lib.hid (show wK ns p.vw d r=.ok z by
    rcases HRR.out with ⟨h,-⟩ | ⟨-,h⟩
    · exact h
    · exact absurd hez h)
   clear hez HRR
   cases hk0:(z.k == 0)
   · cases hk2:(z.k != 2)
     · have HS:=Lib.hid (show sureW (wK ns p.vw d r)=.ok (z.n == 1) by rw [HWK.out];unfold sureW;simp at hk0 hk2;simp [hk0,hk2])
       go_wp2_with fail
       go_ret2
       exact ⟨.ok rfl HS.out,HB3.out⟩
     · have HS:=Lib.hid (show sureW (wK ns p.vw d r)=.error 100 by rw [HWK.out];unfold sureW;simp at hk0 hk2;simp [hk0,hk2])
       go_wp2_with fail
       go_ret2
       exact ⟨.err rfl HS.out (by decide),HB3.out⟩
   · have HS:=Lib.hid (show sureW (wK ns p.vw d r)=.error 110 by rw [HWK.out];unfold sureW;simp at hk0;simp [hk0])
     go_wp2_with fail
     go_ret2
     exact ⟨.err rfl HS.out (by decide),HB3.out⟩
 · have HS:=Lib.hid (show sureW (wK ns p.vw d r)=.error er∧er ≠ 0 by
    rcases HRR.out with ⟨-,h⟩ | ⟨h,h0⟩
    · rw [h] at he;cases he
    · exact ⟨by rw [h];rfl,h0⟩)
   clear HRR
   go_wp2_with fail
   go_ret2
   exact ⟨.err rfl HS.out.1 HS.out.2,HB3.out⟩
theorem r_has (w0:World) (na:Option Addr) (nl nc:Nat) (ns:List Nd) (p:Pd) (d:Nat) (IH:RefAt w0 na nl nc ns p d) (hE:EnvR w0 na nl nc ns p) (hv:VwOk p.vw) (w:World) (hbw:Below w0.heap.size w0 w) (q:Nat) (nd:Nd) (hq:q < nl) (hnd:ns[q]?=some nd) (hright:nd.right=true) (hk:∀ k ∈ nd.ks,goodN ns d k) (hop:nd.op=24) :
 Calls Tryz.prog 42 #[.slice na nl nc,.int .i64 (q:Int),.agg p.cs] w fun e w'=>TogOut w0 w e w' (nodeW (wK ns p.vw d) nd p.vw)∧Below w.heap.size w w':=by
 obtain ⟨w2,hw2⟩:∃ w2,w2=(w.alloc (boxR p)).alloc boxZ:=⟨_,rfl⟩
 have g0:w2.heap[w.heap.size]?=some (boxR p):=by rw [hw2];exact heap_alloc2_old w _ _
 have g1:w2.heap[w.heap.size+1]?=some boxZ:=by rw [hw2];exact heap_alloc2_new w _ _
 have hb2:Below w.heap.size w w2:=by rw [hw2];exact bel2 _ _ _
 have z2:w2.heap.size=w.heap.size+2:=by rw [hw2];simp
 have hz0:=hbw.size
 have HNW:=Lib.hid (hE.n nd (List.mem_of_getElem? hnd))
 obtain ⟨nb,no,nd',rfl,hnd',hcl0⟩:=hE.r.at hq
 obtain rfl:nd'=nd:=by rw [hnd] at hnd';exact (Option.some.inj hnd').symm
 have hbw2:Below w0.heap.size w0 w2:=hbw.trans (hb2.mono hz0)
 have hcl:=fun j v hv=>(hbw2.cell (p:=⟨nb,no+q * 7+j,none⟩) (block_lt_of_cell (hcl0 j v hv))).trans (hcl0 j v hv)
 have n0:=hcl 0 _ rfl
 have n1:=hcl 1 _ rfl
 have n2:=hcl 2 _ rfl
 have n3:=hcl 3 _ rfl
 have n4:=hcl 4 _ rfl
 have n5:=hcl 5 _ rfl
 have n6:=hcl 6 _ rfl
 simp only [Nat.add_zero] at n0
 rw [hop] at n0
 have hqI:(q:Int) < (nl:Int):=by omega
 have hnl:=hE.r.2.1
 have hnc:=hE.r.2.2.1
 have HK:=Lib.hid hk
 have HE:=Lib.hid hE
 have HIH:=Lib.hid IH
 have HV:=Lib.hid hv
 have HR:=Lib.hid hright
 have G0:=Lib.hid g0
 have G1:=Lib.hid g1
 have HB2:=Lib.hid hb2
 have HOP:=Lib.hid hop
 have HND:=Lib.hid hnd
 have HBW:=Lib.hid hbw
 clear hk hE IH hv hright g0 g1 hb2 hnd hnd' hcl hcl0 hop hbw hbw2
 go_enter Tryz.func42,Tryz.ntmps42
 go_upto_region 1 with (fail)
 rw [← hw2]
 clear hw2
 go_upto_region 2 with (fail)
 obtain ⟨w3,hw3⟩:∃ w3,w3=w2.alloc (.cells (nodeV 24 nd'.nm nd'.vk nd'.vn nd'.vt nd'.sa nd'.sl nd'.sc nd'.ka nd'.kl nd'.kc) 56):=⟨_,rfl⟩
 have g3:w3.heap[w.heap.size+2]?=some (.cells (nodeV 24 nd'.nm nd'.vk nd'.vn nd'.vt nd'.sa nd'.sl nd'.sc nd'.ka nd'.kl nd'.kc) 56 (0,0)):=by rw [hw3,← z2];exact heap_alloc_new w2 _
 have hb3:Below w2.heap.size w2 w3:=by rw [hw3];exact bel1 _ _
 have z3:w3.heap.size=w.heap.size+3:=by rw [hw3];simp [z2]
 have h1':=(hb3.block _ (by omega)).trans G1.out
 have h0':=(hb3.block _ (by omega)).trans G0.out
 obtain ⟨wx,hwx⟩:∃ wx,wx=w2.heap.size:=⟨_,rfl⟩
 rw [← hw3]
 obtain ⟨c0,c1,c2,c3,f0,f1,f2,f3⟩:=box4 h1'
 have H1:=Lib.hid h1'
 have H0:=Lib.hid h0'
 have G3:=Lib.hid g3
 have HB3:=Lib.hid (HB2.out.trans (hb3.mono (by omega)))
 have HW3:=Lib.hid (HBW.out.trans (HB3.out.mono hz0))
 have v0':=cell_of_row _ _ 0 _ _ _ h0'
 have v1':=cell_of_row _ _ 1 _ _ _ h0'
 have v2':=cell_of_row _ _ 2 _ _ _ h0'
 have v3':=cell_of_row _ _ 3 _ _ _ h0'
 have v4':=cell_of_row _ _ 4 _ _ _ h0'
 have m0:=cell_of_row _ _ 0 _ _ _ g3
 have m1:=cell_of_row _ _ 1 _ _ _ g3
 have m2:=cell_of_row _ _ 2 _ _ _ g3
 have m3:=cell_of_row _ _ 3 _ _ _ g3
 have m4:=cell_of_row _ _ 4 _ _ _ g3
 have m5:=cell_of_row _ _ 5 _ _ _ g3
 have m6:=cell_of_row _ _ 6 _ _ _ g3
 simp only [nodeV,List.getElem?_toArray,List.getElem?_cons_zero,List.getElem?_cons_succ] at v0' v1' v2' v3' v4' m0 m1 m2 m3 m4 m5 m6
 have Z0:w.heap.size < w3.heap.size:=by omega
 have Z1:w.heap.size+1 < w3.heap.size:=by omega
 have Z3:w.heap.size+2 < w3.heap.size:=by omega
 clear h1' h0' g3 hb3 hw3 n0 n1 n2 n3 n4 n5 n6 z2 z3 hwx
 have HS:=Lib.hid (show nodeW (wK ns p.vw d) nd' p.vw=(match toldW (p.vw.value nd'.nm) with | .error e=>.error e | .ok x=>.ok (truthV (x.k != 0))) from leaf_node (by have h:=HOP.out;unfold leafW;simp [h];cases toldW (p.vw.value nd'.nm) <;> rfl))
 go_upto_region 10 with (first | (go_at_call 59;refine (refvalue0_any w0 w3 p (HE.out.v.below HW3.out) HE.out.b nd'.nm).mono ?_;rintro e w4 ⟨⟨xa,xl,xc,rfl,hxz⟩,hb4⟩;have HXZ:=Lib.hid hxz;have HB4:=Lib.hid (HB3.out.trans (hb4.mono (by omega)));have H14:=Lib.hid ((hb4.block _ Z1).trans H1.out);have HX4:=Lib.hid (hxz.rs.below (HW3.out.trans (hb4.mono HW3.out.size)));have ZZ:=hb4.size;clear hb4 hxz) | (go_at_call 58;refine (seen_any _ (p.vw.value nd'.nm) xa xl xc HX4.out).mono ?_;rintro e w5 ⟨rfl,hb5⟩;have HB5:=Lib.hid (HB4.out.trans (hb5.mono HB4.out.size));have H15:=Lib.hid ((hb5.block _ (Nat.lt_of_lt_of_le Z1 ZZ)).trans H14.out);obtain ⟨d0,d1,d2,d3,e0,e1,e2,e3⟩:=box4 H15.out;clear hb5))
 have Z5:w.heap.size+1 < w5.heap.size:=(Array.getElem?_eq_some_iff.1 H15.out).1
 obtain ⟨w6,hw6⟩:∃ w6,w6=w5.alloc (.cells #[.int .i64 (p.vw.value nd'.nm).k,.int .i64 (p.vw.value nd'.nm).n,.string (p.vw.value nd'.nm).t,.slice xa xl xc] 43):=⟨_,rfl⟩
 have g6:w6.heap[w5.heap.size]?=some (.cells #[.int .i64 (p.vw.value nd'.nm).k,.int .i64 (p.vw.value nd'.nm).n,.string (p.vw.value nd'.nm).t,.slice xa xl xc] 43 (0,0)):=by rw [hw6];exact heap_alloc_new w5 _
 have hb6:Below w5.heap.size w5 w6:=by rw [hw6];exact bel1 _ _
 have H16:=Lib.hid ((hb6.block _ Z5).trans H15.out)
 have HB6:=Lib.hid (HB5.out.trans (hb6.mono HB5.out.size))
 have Z6:w.heap.size+1 < w6.heap.size:=(Array.getElem?_eq_some_iff.1 H16.out).1
 rw [← hw6]
 clear hw6 hb6
 obtain ⟨x0,x1,x2,x3,-⟩:=box4 g6
 clear g6 c0 c1 c2 c3 f0 f1 f2 f3 d0 d1 d2 d3 e0 e1 e2 e3
 go_wp2_with (go_at_call 60;refine (boolean_any _ ((p.vw.value nd'.nm).k != 0)).mono ?_;rintro e w7 ⟨rfl,hb7⟩;have H17:=Lib.hid ((hb7.block _ Z6).trans H16.out);obtain ⟨d0,d1,d2,d3,e0,e1,e2,e3⟩:=box4 H17.out)
 refine bodyPost_ret (res2c Tryz.results42 _ _ (w.heap.size+1) _ _ _ _ _ (heap_box H17.out _ _ _ _) rfl rfl) rfl ?_
 have HBL:=below_box (show w.heap.size≤w.heap.size+1 by omega) (HB6.out.trans (hb7.mono HB6.out.size))
 by_cases hx:rightV (p.vw.value nd'.nm)=0
 · exact ⟨.ok (z:=truthV ((p.vw.value nd'.nm).k != 0)) (by rw [show seenE (p.vw.value nd'.nm)=0 from if_pos hx];rfl) ⟨none,0,0,rfl,.inl (rz_nil1 w0)⟩ (by rw [HS.out];unfold toldW;rw [if_pos hx]),HBL _ _ _ _⟩
 · exact ⟨.err (z:=truthV ((p.vw.value nd'.nm).k != 0)) (er:=8) (by rw [show seenE (p.vw.value nd'.nm)=8 from if_neg hx];rfl) ⟨none,0,0,rfl,.inl (rz_nil1 w0)⟩ (by rw [HS.out];unfold toldW;rw [if_neg hx]) (by decide),HBL _ _ _ _⟩
end Go.Proofs.YtcnckjlmldnblaaGreatDoor
