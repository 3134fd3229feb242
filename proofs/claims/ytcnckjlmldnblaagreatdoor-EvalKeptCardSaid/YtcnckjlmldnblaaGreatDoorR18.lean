import Derived.Test.YtcnckjlmldnblaaGreatDoorR16
import Derived.Test.YtcnckjlmldnblaaGreatDoorE76
import Derived.Test.YtcnckjlmldnblaaGreatDoorX5
import Derived.Test.YtcnckjlmldnblaaGreatDoorR15g
import Derived.Test.YtcnckjlmldnblaaGreatDoorE33
import Derived.BigGuardPart
import Derived.IntWalk
import Derived.Handy
import Derived.OrdersHeld
import Derived.Deep.RegionHeld3
import Derived.WalkLawsBesides
import Derived.Maps.AppendAt
namespace Go.Proofs.YtcnckjlmldnblaaGreatDoor
open Go Go.RowKit
open List renaming setIfInBounds_toArray → pa, set_cons_zero → pb, set_cons_succ → pc, getElem_toArray → pd, getElem_cons_succ → pe, getElem_cons_zero → pf
set_option maxRecDepth 100000
set_option maxHeartbeats 16000000
set_option linter.unusedVariables false
set_option linter.unusedSimpArgs false
theorem toldR_any (w:World) (na:Option Addr) (nl nc:Nat) (ns:List Nd) (p:Pd) (hr:RS 7 Nd.cs w na nl nc ns) (hns:∀ nd ∈ ns,NdW w nd) (hp:VwArg w p) (hsm:SmallE ns nl p) (t0:ResTab w 0) (t1:ResTab w 1) (h1:1 < w.heap.size) (root:Int) (hroot:I64 root) :
 Calls Tryz.prog 7 #[.slice na nl nc,.int .i64 root,.agg p.cs] w fun e w'=>e=.returned (.bool true)∧Below w.heap.size w w':=by
 obtain ⟨hn5,hsn,hvl,hbl⟩:=hsm
 have hlen:=hr.1
 have hn48:=hr.2.2.1
 have hvw:VwOk p.vw:=⟨fun q hq=>by obtain ⟨b,hb,rfl⟩:=List.mem_map.1 hq;exact (hp.b b hb).2.1,hp.c,hp.s⟩
 have hnn:∀ x ∈ ns,x.ks.length=x.kl∧I64 x.vn:=fun x hx=>⟨(hns x hx).ok.1.1,(hns x hx).ok.2.2⟩
 have henv:EnvR w na nl nc ns p:=⟨hr,hns,hp.v,hp.o.rs,hp.r.rs,fun b hb=>(hp.b b hb).1⟩
 have HEN:=Lib.hid (show RefEnv w na nl nc ns p from ⟨henv,hvw,hnn,t0,by omega,hn5,fun nd h=>by have:=(hsn nd h).1;omega,rworth_any w na nl nc ns p henv hvw hnn⟩)
 obtain ⟨r,hrr⟩:∃ r,r=worthR ns root p.vw:=⟨_,rfl⟩
 obtain ⟨X,hX⟩:∃ X,X=valOf r:=⟨_,rfl⟩
 obtain ⟨E,hE⟩:∃ E,E=erOf r:=⟨_,rfl⟩
 obtain ⟨L,hL⟩:∃ L,L=X.ss.length:=⟨_,rfl⟩
 have hL64:L≤64:=by
  rw [hL,hX,hrr]
  exact val_small hvw hnn (fun nd h=>by have:=(hsn nd h).1;omega) root
 have HRR:=Lib.hid hrr
 have HX:=Lib.hid hX
 have HE:=Lib.hid hE
 have HL:=Lib.hid hL
 have HVW:=Lib.hid hvw
 have HNN:=Lib.hid hnn
 have HR:=Lib.hid hr
 have HNS:=Lib.hid hns
 have HP:=Lib.hid hp
 have HSN:=Lib.hid hsn
 have HBL:=Lib.hid hbl
 have HLEN:=Lib.hid hlen
 have HRO:=Lib.hid hroot
 have hEE:(E != E)=false:=by simp
 have hEE':(E == E)=true:=by simp
 obtain ⟨H,hH⟩:∃ H,H=holdE r root:=⟨_,rfl⟩
 have HH:=Lib.hid hH
 have hHH:(H != H)=false:=by simp
 obtain ⟨w1,hw1⟩:∃ w1,w1=w.alloc (boxW35 p):=⟨_,rfl⟩
 have g0:w1.heap[w.heap.size]?=some (boxW35 p):=by rw [hw1];exact heap_alloc_new w _
 have hb1:Below w.heap.size w w1:=by rw [hw1];exact bel1 _ _
 have HT1:=Lib.hid (fun (W:World) (hb:Below w.heap.size w W)=>(t1.below hb h1 h1:ResTab W 1))
 have G0:=Lib.hid g0
 have HB1:=Lib.hid hb1
 have zw:w.heap.size < w1.heap.size:=by rw [hw1];simp
 have v0':=cell_of_row _ _ 0 _ _ _ g0
 have v1':=cell_of_row _ _ 1 _ _ _ g0
 have v2':=cell_of_row _ _ 2 _ _ _ g0
 have v3':=cell_of_row _ _ 3 _ _ _ g0
 have v4':=cell_of_row _ _ 4 _ _ _ g0
 simp only [List.getElem?_toArray,List.getElem?_cons_zero,List.getElem?_cons_succ] at v0' v1' v2' v3' v4'
 clear hr hns hp hsn hbl hlen hvw hnn henv hrr hX hE hL hH t0 t1 g0 hb1
 go_enter Tryz.func7,Tryz.ntmps7
 go_upto_region 1 with (fail)
 rw [← hw1]
 clear hw1
 go_upto_region 2 with (fail)
 refine (made_any w1 p (HP.out.below HB1.out) hvl HBL.out).mono ?_
 rintro e w2 ⟨⟨pp,rfl,hpo,hpv⟩,hb2⟩
 have HPO:=Lib.hid hpo
 have HPV:=Lib.hid (show pp.vw=p.vw from hpv)
 have HB2:=Lib.hid (HB1.out.trans (hb2.mono (by omega)))
 have G02:=Lib.hid ((hb2.block _ zw).trans G0.out)
 have z2:=hb2.size
 clear hpo hpv hb2 v0' v1' v2' v3' v4' G0
 go_upto_region 5 with (fail)
 refine (whole_any w2 na nl nc ns (HR.out.below HB2.out) (fun nd h=>okS_below ⟨(HNS.out nd h).ok,by obtain ⟨ss,h⟩:=(HNS.out nd h).t;exact ⟨ss,h.rs⟩⟩ HB2.out) hn5 HSN.out).mono ?_
 rintro e w3 ⟨⟨g,us,rfl,hus,hrow,hwho⟩,hb3⟩
 have HUS:=Lib.hid hus
 have HROW:=Lib.hid hrow
 have HWHO:=Lib.hid hwho
 have HB3:=Lib.hid (HB2.out.trans (hb3.mono (by omega)))
 have HB23:=Lib.hid hb3
 have HPO3:=Lib.hid (HPO.out.below hb3)
 have G03:=Lib.hid ((hb3.block _ (by omega)).trans G02.out)
 have z3:=hb3.size
 have HWR:=Lib.hid (show worthR us root pp.vw=r by
  rw [HPV.out,HRR.out]
  exact worthR_like (whole_bone (by rw [hus,HLEN.out]) hwho) root p.vw)
 have huw:∀ u ∈ us,NdW w3 u∧u.kl≤20000:=fun u hu=>by
  obtain ⟨i,hi⟩:=List.getElem?_of_mem hu
  have hil:=(List.getElem?_eq_some_iff.1 hi).1
  have hln:=HLEN.out
  have hnd:ns[i]?=some ns[i]:=List.getElem?_eq_getElem (by omega)
  have hm:=List.mem_of_getElem? hnd
  have hw:=hwho i u _ hi hnd
  exact ⟨who_ndw hw ((HNS.out _ hm).below HB2.out).ok (HSN.out _ hm).1 (HSN.out _ hm).2,by rw [hw.2.2.2.2.2.2.1];exact (HSN.out _ hm).1⟩
 have HE3:=Lib.hid (show EnvW w3 (some ⟨g,0,none⟩) nl (nl+8) us pp from ⟨by
  have h:=(RS.of_owns hrow (by decide) Nd_len2 (by omega)).cut
  rwa [hus] at h,fun u hu=>(huw u hu).1,HPO3.out.ok⟩)
 have HUN:=Lib.hid (show ∀ x ∈ us,x.ks.length=x.kl∧I64 x.vn from fun x hx=>⟨(huw x hx).1.ok.1.1,(huw x hx).1.ok.2.2⟩)
 have HUK:=Lib.hid (show ∀ (i:Nat) (nd:Nd),(i:Int)≤root→us[i]?=some nd→nd.kl≤1000000 from fun i nd _ h=>by have:=(huw nd (List.mem_of_getElem? h)).2;omega)
 have HPW:=Lib.hid (show VwOk pp.vw by rw [HPV.out];exact HVW.out)
 clear hus hrow hwho hb3 huw HPO G02
 go_upto_region 6 with (fail)
 refine (worthf_any w3 _ nl (nl+8) us pp HE3.out HPW.out HUN.out (HT1.out w3 HB3.out) (by omega) root HRO.out HUK.out).mono ?_
 rintro e w4 ⟨hw,hb4⟩
 rw [HWR.out] at hw
 obtain ⟨a,c,rfl,hsv⟩:=hw.is HX.out HE.out HL.out
 replace hsv:=hsv.sv
 have HSV:=Lib.hid hsv
 have HB34:=Lib.hid hb4
 have HB4:=Lib.hid (HB3.out.trans (hb4.mono (by omega)))
 have z4:=hb4.size
 clear hw hsv hb4
 go_upto_region 6 with (fail)
 obtain ⟨w5,hw5⟩:∃ w5,w5=w4.alloc (.cells #[.int .i64 X.k,.int .i64 X.n,.string X.t,.slice a L c] 43):=⟨_,rfl⟩
 have gx:w5.heap[w4.heap.size]?=some (.cells #[.int .i64 X.k,.int .i64 X.n,.string X.t,.slice a L c] 43):=by rw [hw5];exact heap_alloc_new w4 _
 have hb5:Below w4.heap.size w4 w5:=by rw [hw5];exact bel1 _ _
 have z5:w4.heap.size < w5.heap.size:=by rw [hw5];simp
 rw [← hw5]
 obtain ⟨g10,hg10⟩:∃ g10,g10=w4.heap.size:=⟨_,rfl⟩
 rw [← hg10] at gx ⊢
 have HG10:=Lib.hid gx
 have HB35:=Lib.hid (HB34.out.trans (hb5.mono (by omega)))
 have HB5:=Lib.hid (HB4.out.trans (hb5.mono (by omega)))
 have HSV5:=Lib.hid (HSV.out.below hb5)
 have HGA:=Lib.hid (show ∀ ga,(Value.slice a L c).ownBlock=some ga→0 < L→w3.heap.size≤ga∧ga < w4.heap.size from fun ga hga hl=>by
  obtain ⟨a',l',c',e,hl',hh⟩:=HSV.out
  simp only [VA,Value.agg.injEq,Array.mk.injEq,List.cons.injEq,Value.slice.injEq,true_and,and_true] at e
  obtain ⟨rfl,rfl,rfl⟩:=e
  rcases hh with hh | hh
  · omega
  · exact hh.lt ga hga)
 have hg5:g10 < w5.heap.size:=by omega
 have hg3:w3.heap.size≤g10:=by omega
 have HG4:=Lib.hid hg10
 clear hw5 hb5 gx HSV hg10
 have G05:=Lib.hid ((HB35.out.block _ (by omega)).trans G03.out)
 have v0':=cell_of_row _ _ 0 _ _ _ G05.out
 have v1':=cell_of_row _ _ 1 _ _ _ G05.out
 have v2':=cell_of_row _ _ 2 _ _ _ G05.out
 have v3':=cell_of_row _ _ 3 _ _ _ G05.out
 have v4':=cell_of_row _ _ 4 _ _ _ G05.out
 simp only [List.getElem?_toArray,List.getElem?_cons_zero,List.getElem?_cons_succ] at v0' v1' v2' v3' v4'
 go_upto_region 7 with (fail)
 refine (viewplain_any w5 p).mono ?_
 rintro e w6 ⟨rfl,hb6⟩
 have HB56:=Lib.hid hb6
 have HB6:=Lib.hid (HB5.out.trans (hb6.mono (by omega)))
 have z6:=hb6.size
 clear hb6 v0' v1' v2' v3' v4'
 go_upto_region 7 with (fail)
 refine (refworth_any w na nl nc ns p HEN.out w6 HB6.out root).mono ?_
 rintro e w7 ⟨hq,hb7⟩
 rw [← HRR.out] at hq
 obtain ⟨b,d,rfl,hrv⟩:=hq.is HX.out HE.out HL.out
 have HRV:=Lib.hid hrv
 have HB57:=Lib.hid (HB56.out.trans (hb7.mono (by omega)))
 have z7:=hb7.size
 clear hq hrv hb7
 go_upto_region 7 with (fail)
 obtain ⟨w8,hw8⟩:∃ w8,w8=w7.alloc (.cells #[.int .i64 X.k,.int .i64 X.n,.string X.t,.slice b L d] 43):=⟨_,rfl⟩
 have gy:w8.heap[w7.heap.size]?=some (.cells #[.int .i64 X.k,.int .i64 X.n,.string X.t,.slice b L d] 43):=by rw [hw8];exact heap_alloc_new w7 _
 have hb8:Below w7.heap.size w7 w8:=by rw [hw8];exact bel1 _ _
 have z8:w7.heap.size < w8.heap.size:=by rw [hw8];simp
 rw [← hw8]
 obtain ⟨g12,hg12⟩:∃ g12,g12=w7.heap.size:=⟨_,rfl⟩
 rw [← hg12] at gy ⊢
 have HG12:=Lib.hid gy
 have HB58:=Lib.hid (HB57.out.trans (hb8.mono (by omega)))
 have HB38:=Lib.hid (HB35.out.trans (HB58.out.mono (by omega)))
 have HB8:=Lib.hid (HB5.out.trans (HB58.out.mono (by omega)))
 have HRV8:=Lib.hid (HRV.out.imp (fun h=>h) (fun h=>h.below hb8))
 have HSV8:=Lib.hid (HSV5.out.below HB58.out)
 have HG108:=Lib.hid ((HB58.out.block _ hg5).trans HG10.out)
 have G08:=Lib.hid ((HB58.out.block _ (by omega)).trans G05.out)
 have hg8:g12 < w8.heap.size:=by omega
 have hg1012:g10 < g12:=by omega
 clear hw8 hb8 gy hg12 HRV
 obtain ⟨x0,x1,x2,x3,-⟩:=box4 HG108.out
 obtain ⟨y0,y1,y2,y3,-⟩:=box4 HG12.out
 have v0':=cell_of_row _ _ 0 _ _ _ G08.out
 have v1':=cell_of_row _ _ 1 _ _ _ G08.out
 have v2':=cell_of_row _ _ 2 _ _ _ G08.out
 have v3':=cell_of_row _ _ 3 _ _ _ G08.out
 have v4':=cell_of_row _ _ 4 _ _ _ G08.out
 simp only [List.getElem?_toArray,List.getElem?_cons_zero,List.getElem?_cons_succ] at v0' v1' v2' v3' v4'
 go_wp2_with fail
 refine wp_region_held_drew (S:=(fun w'=>Below w8.heap.size w8 w'∧w'.cell? ⟨g10,0,none⟩=some (.int .i64 X.k)∧w'.cell? ⟨g10,1,none⟩=some (.int .i64 X.n)∧w'.cell? ⟨g10,2,none⟩=some (.string X.t)∧w'.cell? ⟨g10,3,none⟩=some (.slice a L c)∧w'.cell? ⟨g12,0,none⟩=some (.int .i64 X.k)∧w'.cell? ⟨g12,1,none⟩=some (.int .i64 X.n)∧w'.cell? ⟨g12,2,none⟩=some (.string X.t)∧w'.cell? ⟨g12,3,none⟩=some (.slice b L d)∧w'.cell? ⟨w.heap.size,0,none⟩=some (.slice p.va p.vl p.vc)∧w'.cell? ⟨w.heap.size,1,none⟩=some (.slice p.oa p.ol p.oc)∧w'.cell? ⟨w.heap.size,2,none⟩=some (.slice p.ra p.rl p.rc)∧w'.cell? ⟨w.heap.size,3,none⟩=some (.int .i64 p.clock)∧w'.cell? ⟨w.heap.size,4,none⟩=some (.int .i64 p.steps))) (by kernel_rfl) ⟨(Below.refl _ _).drew,x0,x1,x2,x3,y0,y1,y2,y3,v0',v1',v2',v3',v4'⟩ (fun hHeld=>?_)
 clear x0 x1 x2 x3 y0 y1 y2 y3 v0' v1' v2' v3' v4'
 obtain ⟨wd,hwd⟩:∃ wd,wd=w8.drew:=⟨_,rfl⟩
 rw [← hwd] at hHeld ⊢
 clear hwd
 refine tkI (i:=0) (v:=?_) rfl ?_ ?_
 rotate_left
 · intro w hSw;(try dsimp only at hSw);go_simp;try with_reducible rfl
 (try simp only [Act.put,pa,pb,pc,pd,pe,pf])
 refine tkI (i:=1) (v:=?_) rfl ?_ ?_
 rotate_left
 · intro w hSw;(try dsimp only at hSw);go_simp;try with_reducible rfl
 (try simp only [Act.put,pa,pb,pc,pd,pe,pf])
 refine tkI (i:=2) (v:=?_) rfl ?_ ?_
 rotate_left
 · intro w hSw;(try dsimp only at hSw);go_simp;try with_reducible rfl
 (try simp only [Act.put,pa,pb,pc,pd,pe,pf])
 refine tkI (i:=3) (v:=?_) rfl ?_ ?_
 rotate_left
 · intro w hSw;(try dsimp only at hSw);go_simp;try with_reducible rfl
 (try simp only [Act.put,pa,pb,pc,pd,pe,pf])
 refine tkI (i:=4) (v:=?_) rfl ?_ ?_
 rotate_left
 · intro w hSw;(try dsimp only at hSw);go_simp;try with_reducible rfl
 (try simp only [Act.put,pa,pb,pc,pd,pe,pf])
 refine tkI (i:=5) (v:=?_) rfl ?_ ?_
 rotate_left
 · intro w hSw;(try dsimp only at hSw);go_simp;try with_reducible rfl
 (try simp only [Act.put,pa,pb,pc,pd,pe,pf])
 refine wpAnyH_ready (rs:=[6]) (by kernel_rfl) (by simp) ?_
 refine AllReadyH.cons (o:=_) rfl (fun K hK=>?_) AllReadyH.nil
 go_simp
 refine (sameV_any wd X a L c (HSV8.out.rsL hHeld.1 (by omega)) b d (rv_rs (HRV8.out.imp (fun h=>h) (fun h=>h.below hHeld.1)) (HB8.out.trans (hHeld.1.mono (by omega))) (by omega))).mono ?_
 rintro e q1 ⟨rfl,hb⟩
 refine hK.out _ _ ⟨hHeld.1.trans (hb.mono hHeld.1.size),keepb hb hHeld.2.1,keepb hb hHeld.2.2.1,keepb hb hHeld.2.2.2.1,keepb hb hHeld.2.2.2.2.1,keepb hb hHeld.2.2.2.2.2.1,keepb hb hHeld.2.2.2.2.2.2.1,keepb hb hHeld.2.2.2.2.2.2.2.1,keepb hb hHeld.2.2.2.2.2.2.2.2.1,keepb hb hHeld.2.2.2.2.2.2.2.2.2.1,keepb hb hHeld.2.2.2.2.2.2.2.2.2.2.1,keepb hb hHeld.2.2.2.2.2.2.2.2.2.2.2.1,keepb hb hHeld.2.2.2.2.2.2.2.2.2.2.2.2.1,keepb hb hHeld.2.2.2.2.2.2.2.2.2.2.2.2.2⟩ (fun hHeld=>?_)
 clear hK K hb
 (try simp only [Act.put,pa,pb,pc,pd,pe,pf])
 refine tkI (i:=7) (v:=?_) rfl ?_ ?_
 rotate_left
 · intro w hSw;(try dsimp only at hSw);go_simp;try with_reducible rfl
 (try simp only [Act.put,pa,pb,pc,pd,pe,pf])
 refine tkI (i:=8) (v:=?_) rfl ?_ ?_
 rotate_left
 · intro w hSw;(try dsimp only at hSw);go_simp;try with_reducible rfl
 (try simp only [Act.put,pa,pb,pc,pd,pe,pf])
 refine tkI (i:=9) (v:=?_) rfl ?_ ?_
 rotate_left
 · intro w hSw;(try dsimp only at hSw);go_simp;try with_reducible rfl
 (try simp only [Act.put,pa,pb,pc,pd,pe,pf])
 refine tkI (i:=10) (v:=?_) rfl ?_ ?_
 rotate_left
 · intro w hSw;(try dsimp only at hSw);go_simp;try with_reducible rfl
 (try simp only [Act.put,pa,pb,pc,pd,pe,pf])
 refine tkI (i:=11) (v:=?_) rfl ?_ ?_
 rotate_left
 · intro w hSw;(try dsimp only at hSw);go_simp;try with_reducible rfl
 (try simp only [Act.put,pa,pb,pc,pd,pe,pf])
 refine tkI (i:=12) (v:=?_) rfl ?_ ?_
 rotate_left
 · intro w hSw;(try dsimp only at hSw);go_simp;try with_reducible rfl
 (try simp only [Act.put,pa,pb,pc,pd,pe,pf])
 refine tkI (i:=14) (v:=?_) rfl ?_ ?_
 rotate_left
 · intro w hSw;(try dsimp only at hSw);go_simp;try with_reducible rfl
 (try simp only [Act.put,pa,pb,pc,pd,pe,pf])
 refine tkI (i:=15) (v:=?_) rfl ?_ ?_
 rotate_left
 · intro w hSw;(try dsimp only at hSw);go_simp;try with_reducible rfl
 (try simp only [Act.put,pa,pb,pc,pd,pe,pf])
 refine tkI (i:=16) (v:=?_) rfl ?_ ?_
 rotate_left
 · intro w hSw;(try dsimp only at hSw);go_simp;try with_reducible rfl
 (try simp only [Act.put,pa,pb,pc,pd,pe,pf])
 refine wpAnyH_ready (rs:=[13]) (by kernel_rfl) (by simp) ?_
 refine AllReadyH.cons (o:=_) rfl (fun K hK=>?_) AllReadyH.nil
 go_simp
 refine (holds_two q1 _ nl (nl+8) us pp (HE3.out.below (HB38.out.trans (hHeld.1.mono (by omega)))) HPW.out HUN.out (HT1.out q1 (HB8.out.trans (hHeld.1.mono (by omega)))) (by have:=hHeld.1.size;omega) root HRO.out HUK.out r HWR.out).mono ?_
 rintro e q2 ⟨rfl,hb⟩
 refine hK.out _ _ ⟨hHeld.1.trans (hb.mono hHeld.1.size),keepb hb hHeld.2.1,keepb hb hHeld.2.2.1,keepb hb hHeld.2.2.2.1,keepb hb hHeld.2.2.2.2.1,keepb hb hHeld.2.2.2.2.2.1,keepb hb hHeld.2.2.2.2.2.2.1,keepb hb hHeld.2.2.2.2.2.2.2.1,keepb hb hHeld.2.2.2.2.2.2.2.2.1,keepb hb hHeld.2.2.2.2.2.2.2.2.2.1,keepb hb hHeld.2.2.2.2.2.2.2.2.2.2.1,keepb hb hHeld.2.2.2.2.2.2.2.2.2.2.2.1,keepb hb hHeld.2.2.2.2.2.2.2.2.2.2.2.2.1,keepb hb hHeld.2.2.2.2.2.2.2.2.2.2.2.2.2⟩ (fun hHeld=>?_)
 clear hK K hb
 (try simp only [Act.put,pa,pb,pc,pd,pe,pf])
 rw [← HH.out]
 refine wpAnyH_ready (rs:=[17]) (by kernel_rfl) (by simp) ?_
 refine AllReadyH.cons (o:=_) rfl (fun K hK=>?_) AllReadyH.nil
 go_simp
 refine (viewplain_any q2 p).mono ?_
 rintro e q3 ⟨rfl,hb⟩
 refine hK.out _ _ ⟨hHeld.1.trans (hb.mono hHeld.1.size),keepb hb hHeld.2.1,keepb hb hHeld.2.2.1,keepb hb hHeld.2.2.2.1,keepb hb hHeld.2.2.2.2.1,keepb hb hHeld.2.2.2.2.2.1,keepb hb hHeld.2.2.2.2.2.2.1,keepb hb hHeld.2.2.2.2.2.2.2.1,keepb hb hHeld.2.2.2.2.2.2.2.2.1,keepb hb hHeld.2.2.2.2.2.2.2.2.2.1,keepb hb hHeld.2.2.2.2.2.2.2.2.2.2.1,keepb hb hHeld.2.2.2.2.2.2.2.2.2.2.2.1,keepb hb hHeld.2.2.2.2.2.2.2.2.2.2.2.2.1,keepb hb hHeld.2.2.2.2.2.2.2.2.2.2.2.2.2⟩ (fun hHeld=>?_)
 clear hK K hb
 (try simp only [Act.put,pa,pb,pc,pd,pe,pf])
 refine wpAnyH_ready (rs:=[18]) (by kernel_rfl) (by simp) ?_
 refine AllReadyH.cons (o:=_) rfl (fun K hK=>?_) AllReadyH.nil
 go_simp
 refine ((refholds_any w na nl nc ns p HEN.out q3 (HB8.out.trans (hHeld.1.mono (by omega))) root)).mono ?_
 rintro e q4 ⟨rfl,hb⟩
 refine hK.out _ _ ⟨hHeld.1.trans (hb.mono hHeld.1.size),keepb hb hHeld.2.1,keepb hb hHeld.2.2.1,keepb hb hHeld.2.2.2.1,keepb hb hHeld.2.2.2.2.1,keepb hb hHeld.2.2.2.2.2.1,keepb hb hHeld.2.2.2.2.2.2.1,keepb hb hHeld.2.2.2.2.2.2.2.1,keepb hb hHeld.2.2.2.2.2.2.2.2.1,keepb hb hHeld.2.2.2.2.2.2.2.2.2.1,keepb hb hHeld.2.2.2.2.2.2.2.2.2.2.1,keepb hb hHeld.2.2.2.2.2.2.2.2.2.2.2.1,keepb hb hHeld.2.2.2.2.2.2.2.2.2.2.2.2.1,keepb hb hHeld.2.2.2.2.2.2.2.2.2.2.2.2.2⟩ (fun hHeld=>?_)
 clear hK K hb
 (try simp only [Act.put,pa,pb,pc,pd,pe,pf])
 rw [show (if root=-1 then true else holdsB (worthR ns root p.vw))=H by rw [HH.out,HRR.out];rfl]
 refine tkI (i:=19) (v:=?_) rfl ?_ ?_
 rotate_left
 · intro w hSw;(try dsimp only at hSw);go_simp;try with_reducible rfl
 (try simp only [Act.put,pa,pb,pc,pd,pe,pf])
 refine tkI (i:=20) (v:=?_) rfl ?_ ?_
 rotate_left
 · intro w hSw;(try dsimp only at hSw);go_simp;try with_reducible rfl
 (try simp only [Act.put,pa,pb,pc,pd,pe,pf])
 refine tkI (i:=21) (v:=?_) rfl ?_ ?_
 rotate_left
 · intro w hSw;(try dsimp only at hSw);go_simp;try with_reducible rfl
 (try simp only [Act.put,pa,pb,pc,pd,pe,pf])
 refine tkI (i:=22) (v:=?_) rfl ?_ ?_
 rotate_left
 · intro w hSw;(try dsimp only at hSw);go_simp;try with_reducible rfl
 (try simp only [Act.put,pa,pb,pc,pd,pe,pf])
 refine tkI (i:=23) (v:=?_) rfl ?_ ?_
 rotate_left
 · intro w hSw;(try dsimp only at hSw);go_simp;try with_reducible rfl
 (try simp only [Act.put,pa,pb,pc,pd,pe,pf])
 refine wpAnyH_ready (rs:=[24]) (by kernel_rfl) (by simp) ?_
 refine AllReadyH.cons (o:=_) rfl (fun K hK=>?_) AllReadyH.nil
 go_simp
 refine (left_any q4 w2.heap.size g nl us ns (own_below HROW.out (HB38.out.trans (hHeld.1.mono (by omega)))) HUS.out na nc (HR.out.below (HB8.out.trans (hHeld.1.mono (by omega)))) (fun nd h=>okS_below ⟨(HNS.out nd h).ok,by obtain ⟨ss,h⟩:=(HNS.out nd h).t;exact ⟨ss,h.rs⟩⟩ (HB8.out.trans (hHeld.1.mono (by omega)))) (fun i u nd hu hnd=>((HWHO.out i u nd hu hnd).below (HB38.out.trans (hHeld.1.mono (by omega)))).who (HB23.out.trans ((HB38.out.trans (hHeld.1.mono (by omega))).mono (by omega)))) hn5 HSN.out).mono ?_
 rintro e w9 ⟨rfl,hb⟩
 refine hK.out _ _ ⟨hHeld.1.trans (hb.mono hHeld.1.size),keepb hb hHeld.2.1,keepb hb hHeld.2.2.1,keepb hb hHeld.2.2.2.1,keepb hb hHeld.2.2.2.2.1,keepb hb hHeld.2.2.2.2.2.1,keepb hb hHeld.2.2.2.2.2.2.1,keepb hb hHeld.2.2.2.2.2.2.2.1,keepb hb hHeld.2.2.2.2.2.2.2.2.1,keepb hb hHeld.2.2.2.2.2.2.2.2.2.1,keepb hb hHeld.2.2.2.2.2.2.2.2.2.2.1,keepb hb hHeld.2.2.2.2.2.2.2.2.2.2.2.1,keepb hb hHeld.2.2.2.2.2.2.2.2.2.2.2.2.1,keepb hb hHeld.2.2.2.2.2.2.2.2.2.2.2.2.2⟩ (fun hHeld=>?_)
 clear hK K hb
 (try simp only [Act.put,pa,pb,pc,pd,pe,pf])
 refine tkI (i:=25) (v:=?_) rfl ?_ ?_
 rotate_left
 · intro w hSw;(try dsimp only at hSw);go_simp;try with_reducible rfl
 (try simp only [Act.put,pa,pb,pc,pd,pe,pf])
 refine tkI (i:=26) (v:=?_) rfl ?_ ?_
 rotate_left
 · intro w hSw;(try dsimp only at hSw);go_simp;try with_reducible rfl
 (try simp only [Act.put,pa,pb,pc,pd,pe,pf])
 refine wpAnyH_done (by kernel_rfl) ?_ _
 go_upto_region 9 with (fail)
 have hb9:=hHeld.1
 have z9:=hb9.size
 have HB39:=Lib.hid (HB38.out.trans (hb9.mono (by omega)))
 have HB9:=Lib.hid (HB8.out.trans (hb9.mono (by omega)))
 have HRV9:=Lib.hid (HRV8.out.imp (fun h=>h) (fun h=>h.below hb9))
 have HSV9:=Lib.hid (HSV8.out.below hb9)
 have HG109:=Lib.hid ((hb9.block _ (by omega)).trans HG108.out)
 have HG129:=Lib.hid ((hb9.block _ hg8).trans HG12.out)
 clear hHeld hb9
 obtain ⟨oa,hoa⟩:∃ oa:Option Nat,(L=0∧oa=none)∨(0 < L∧∃ ga,a=some ⟨ga,0,none⟩∧oa=some ga∧w9.ownsRow w3.heap.size 9 1 (.slice a L c) L (X.ss.flatMap Sv)):=by
  obtain ⟨a',l',c',e,hl',hh⟩:=HSV9.out
  simp only [VA,Value.agg.injEq,Array.mk.injEq,List.cons.injEq,Value.slice.injEq,true_and,and_true] at e
  obtain ⟨rfl,rfl,rfl⟩:=e
  by_cases h0:L=0
  · exact ⟨none,.inl ⟨h0,rfl⟩⟩
  · rcases hh with hh | hh
    · exact absurd hh.1 h0
    · obtain ⟨ga,rfl⟩:=own_some hh (by omega)
      exact ⟨some ga,.inr ⟨by omega,ga,rfl,rfl,hh⟩⟩
 have HOA:=Lib.hid hoa
 have HGB:=Lib.hid (show ∀ ga,oa=some ga→w3.heap.size≤ga∧ga < g10 from fun ga h=>by
  rcases hoa with ⟨-,h0⟩ | ⟨hl,ga',rfl,h2,-⟩
  · rw [h0] at h;cases h
  · rw [h2] at h
    cases h
    have:=HGA.out ga rfl hl
    have:=HG4.out
    omega)
 clear hoa
 go_wp2_with fail
 go_loopw [14] (fun i wr=>∃ k:Nat,k≤L∧i=.int .i64 k∧w9.grownBy wr oa∧Below w3.heap.size w3 wr∧(L=0∨∃ xs,wr.ownsRow w3.heap.size 9 1 (.slice a L c) L xs)) (fun i _=>L - (intOf i).toNat)
 case atStart=>exact ⟨0,by omega,rfl,World.grownBy.refl _ _,HB39.out,by
  rcases HOA.out with ⟨h0,-⟩ | ⟨-,ga,-,-,h⟩
  · exact .inl h0
  · exact .inr ⟨_,h⟩⟩
 case round =>
  obtain ⟨k,hk,rfl,hgr,hbr,hor⟩:=hrel
  have HGR:=Lib.hid hgr
  have HBR:=Lib.hid hbr
  have HOR:=Lib.hid hor
  have zr:=hgr.size
  have HG10r:=Lib.hid ((hgr.block g10 (by omega) (fun e=>by have:=HGB.out g10 e.symm;omega)).trans HG109.out)
  have HG12r:=Lib.hid ((hgr.block g12 (by omega) (fun e=>by have:=HGB.out g12 e.symm;omega)).trans HG129.out)
  obtain ⟨x0,x1,x2,x3,f0,f1,f2,f3⟩:=box4 HG10r.out
  clear hgr hbr hor
  by_cases hlt:k < L
  · have hltI:(k:Int) < (L:Int):=by omega
    rcases HOA.out with ⟨h0,-⟩ | ⟨hl,ga,rfl,hoe,-⟩
    · exact absurd hlt (by omega)
    rcases HOR.out with h0 | ⟨xs,ho⟩
    · exact absurd hlt (by omega)
    have hck:=ho.cellAt k (by rw [Nat.mul_one];exact hlt)
    have hfk:=ho.frozenAt k
    have hst:=ho.stored k (.string { data:=#[119,114,105,116,116,101,110] })
    have HST:=Lib.hid hst.1
    have HOE:=Lib.hid hoe
    have hxs:k < xs.length:=by have:=ho.1;omega
    rw [List.getElem?_eq_getElem hxs] at hck
    obtain ⟨u,hu⟩:∃ u,u=xs[k]:=⟨_,rfl⟩
    rw [← hu] at hck
    clear hst ho hoe hu hxs
    go_wp2_with fail
    go_roundw
    case rel=>exact ⟨k+1,by omega,by go_num,HGR.out.trans (by rw [HOE.out];exact grown_set' wr ga k _),HBR.out.setCell (p:=⟨ga,k,none⟩) (HGB.out ga HOE.out).1 _,.inr ⟨_,HST.out⟩⟩
    case measure=>simp [intOf];omega
  · have hltI:¬ (k:Int) < (L:Int):=by omega
    obtain rfl:k=L:=by omega
    have HBRw:=Lib.hid (HB3.out.trans (HBR.out.mono (by omega)))
    have HRVr:=Lib.hid (show RZ w b k d X.ss∨SV wr w6.heap.size (VA X b k d) X from HRV9.out.imp (fun h=>h) (fun h=>by
     obtain ⟨a',l',c',e,hl',hh⟩:=h
     refine ⟨a',l',c',e,hl',hh.imp (fun h=>h) (fun h=>h.kept HGR.out ?_)⟩
     cases hob:(Value.slice a' l' c').ownBlock with
     | none=>exact .inl rfl
     | some q =>
       exact .inr fun he=>by
        have h1:=h.lt q hob
        have h2:=HGB.out q he.symm
        omega))
    go_upto_region 14 with (fail)
    refine (worthf_any wr _ nl (nl+8) us pp (HE3.out.below HBR.out) HPW.out HUN.out (HT1.out wr HBRw.out) (by omega) root HRO.out HUK.out).mono ?_
    rintro e z1 ⟨hw,hbz⟩
    rw [HWR.out] at hw
    obtain ⟨a2,c2,rfl,hs2⟩:=hw.is HX.out HE.out HL.out
    replace hs2:=hs2.sv
    have HS2:=Lib.hid hs2
    have HG10z:=Lib.hid ((hbz.block _ (by omega)).trans HG10r.out)
    have HG12z:=Lib.hid ((hbz.block _ (by omega)).trans HG12r.out)
    have HBZ:=Lib.hid (HBRw.out.trans (hbz.mono (by omega)))
    have HRVz:=Lib.hid (HRVr.out.imp (fun h=>h) (fun h=>h.below hbz))
    have zz:=hbz.size
    clear hw hs2 hbz x0 x1 x2 x3 f0 f1 f2 f3
    obtain ⟨x0,x1,x2,x3,f0,f1,f2,f3⟩:=box4 HG10z.out
    go_upto_region 14 with (fail)
    have gx2:=heap_box HG10z.out (.int .i64 X.k) (.int .i64 X.n) (.string X.t) (.slice a2 k c2)
    have hs3:=SV.setbox HS2.out HG10z.out (by decide) (.int .i64 X.k) (.int .i64 X.n) (.string X.t) (.slice a2 k c2)
    have hb3':=below_box (show w.heap.size≤g10 by omega) HBZ.out (.int .i64 X.k) (.int .i64 X.n) (.string X.t) (.slice a2 k c2)
    have hrv3:=HRVz.out.imp (fun h=>h) (fun h=>SV.setbox h HG10z.out (by decide) (.int .i64 X.k) (.int .i64 X.n) (.string X.t) (.slice a2 k c2))
    have gy3:=heap_box_ne HG12z.out (show g12 ≠ g10 by omega) (.int .i64 X.k) (.int .i64 X.n) (.string X.t) (.slice a2 k c2)
    obtain ⟨z2',hz2⟩:∃ z2',z2'=((((z1.setCell ⟨g10,0,none⟩ (.int .i64 X.k)).setCell ⟨g10,1,none⟩ (.int .i64 X.n)).setCell ⟨g10,2,none⟩ (.string X.t)).setCell ⟨g10,3,none⟩ (.slice a2 k c2)):=⟨_,rfl⟩
    rw [← hz2] at gx2 hs3 hb3' hrv3 gy3 ⊢
    have HS3:=Lib.hid hs3
    have HB3':=Lib.hid hb3'
    have HRV3:=Lib.hid hrv3
    clear hs3 hb3' hrv3 hz2 x0 x1 x2 x3 f0 f1 f2 f3
    obtain ⟨x0,x1,x2,x3,-⟩:=box4 gx2
    obtain ⟨y0,y1,y2,y3,-⟩:=box4 gy3
    clear gx2 gy3
    go_wp2_with (go_at_call 21;refine (sameV_any z2' X a2 k c2 (HS3.out.rz (by omega)).rs b d (rv_rs HRV3.out HB3'.out (by omega))).mono ?_;rintro e z3 ⟨rfl,hb9⟩;have HBE:=Lib.hid (HB3'.out.trans (hb9.mono HB3'.out.size));clear hb9)
    go_ret
    exact ⟨rfl,HBE.out⟩
end Go.Proofs.YtcnckjlmldnblaaGreatDoor
