import Derived.Test.YtgkehahklccacaaGreatDoorZ18
namespace Go.Proofs.YtgkehahklccacaaGreatDoor
open Go Go.RowKit
open Go.Lib (hid)
set_option maxRecDepth 100000
set_option maxHeartbeats 1000000
set_option linter.unusedVariables false
set_option linter.unusedSimpArgs false
section
open Go Go.RowKit Go.Shelf Go.Lib Go.Sort
open Go.Maps Go.WideMaps
def OkC (d:Dm):Prop:=∀ k,k≤d.changes.length→(keysOf (chs (d.changes.take k) d.safe)).Nodup∧(chs (d.changes.take k) d.safe).length≤4096∧(∀ s i,lk (chs (d.changes.take k) d.safe) s=some i→i < d.fs.length) ∧
 ∀ c,d.changes[k]?=some c→c.src.length≤32∧c.dst.length≤32∧(c.made=none→lk (chs (d.changes.take k) d.safe) c.src ≠ none)∧(c.made ≠ none→c.dst ≠ [])
theorem chs_snoc (cs:List Chg) (c:Chg) (m:List (Nm × Nat)):chs (cs++[c]) m=c.act (chs cs m):=by
 unfold chs;rw [List.foldl_append];rfl
theorem reach_at {w w':World} {ρ ρ':Nat→Nat} {B g k:Nat} {v:Value} (hu:Upd ρ ρ' w w') (hg:g < w.heap.size) (h0:ρ g=0) (h:w.cell? ⟨g,k,none⟩=some v):w'.cell? ⟨g,k,none⟩=some v :=
 (World.cell?_of_block (a:=⟨g,k,none⟩) (hu.block g hg h0)).trans h
theorem slice_cutG {P:Program} {t e:TypeId} {z:Value} {size bytes:Nat} (T:Sl P t e z size bytes) (w:World) (a:Option Addr) (n c k:Nat) (hk:k≤c):(Instr.slice t (.slice a n c) none (some (.int .i64 (k:Int))) none).run P w=.ok (.slice a k c) w:=by
 obtain ⟨i,hi,hz0,hz1,hz2⟩:=info_parts T.inf
 have he:P.elem t=e:=by simp [Program.elem,T.und]
 have h1:P.underlying t=some (.slice (P.elem t)):=by rw [he];exact T.und
 have h2:(sizeOf (P.elem t)).run P w=.ok size w:=by rw [he];simp [sizeOf,typeInfo,hi,hz1]
 rw [run_slice_h w t a n c h1 .i64 k (by omega) (by omega),h2]
 have e:a.map (·.add 0)=a:=by cases a with | none=>rfl | some x=>cases x;simp [Addr.add]
 simp [Result.andThen,sliced,e]
theorem restart_any (w:World) (L:Lay) (gd:Nat) (d:Dm) (h:DAt w L gd d) (hp:Pre d) (hfine:Fine d.fs) (hC:OkC d) (a:Option Addr) (n c:Nat) (nm:Int) (hnm0:-9223372036854775808≤nm) (hnm1:nm≤9223372036854775807) (ns:List Int) (hns:NsAt w L.ρ a n ns) :
 Calls Tryz.prog 16 #[.pointer (some ⟨gd,0,none⟩),.agg #[.slice a n c,.int .i64 nm]] w fun e w'=>e=.returned (.tuple #[])∧∃ L',DAt w' L' gd (d.restart nm ns)∧Upd L.ρ L'.ρ w w':=by
 obtain ⟨w1,hw1⟩:∃ w1,w1=w.alloc (boxCut a n c nm):=⟨_,rfl⟩
 have hb1:Below w.heap.size w w1:=by rw [hw1];exact bel1 _ _
 have g1:w1.heap[w.heap.size]?=some (boxCut a n c nm):=by rw [hw1];exact heap_alloc_new w _
 have hg1:w.heap.size < w1.heap.size:=(Array.getElem?_eq_some_iff.1 g1).1
 obtain ⟨rn,hrn⟩:∃ rn,rn=d.reach.length:=⟨_,rfl⟩
 have hrn0:rn < 1099511631873:=by rw [hrn];exact reach_len hp
 obtain ⟨b3,hb3⟩:∃ b3,b3=w.heap.size:=⟨_,rfl⟩
 have h30:L.ρ b3=0:=h.new _ (by omega)
 have HRA:=reach_any w1 L gd d (h.below hb1) hp
 rw [← hrn] at HRA
 have HR:=hid HRA
 have HN1:=hid (hns.upd (Upd.of_below (ρ:=L.ρ) hb1))
 have HRN:=hid hrn
 have HD:=hid h
 have HP:=hid hp
 have HFI:=hid hfine
 have HC:=hid hC
 have HB3:=hid hb3
 rw [← hb3] at g1 hg1
 have HB1:=hid hb1
 have HG1:=hid g1
 clear h hp hfine hC hns hb1 g1 HRA hrn
 go_enter Tryz.func16,Tryz.ntmps16
 go_upto_region 1 with (fail)
 rw [← hw1,← hb3]
 clear hw1 hb3
 go_wp2_with (go_at_call 50;refine HR.out.mono ?_;rintro e wR ⟨⟨ra,rc,rfl,hrow⟩,hbR⟩
              have HROW:=hid hrow
              have HBR:=hid hbR
              have hbx:b3 < wR.heap.size:=Nat.lt_of_lt_of_le hg1 hbR.size
              have hgx:=(hbR.block b3 hg1).trans HG1.out
              have HGX:=hid hgx
              have HNR:=hid (HN1.out.upd (Upd.of_below (ρ:=L.ρ) hbR))
              have HBW:=hid (HB1.out.trans (hbR.mono HB1.out.size))
              clear hrow hbR hgx)
 go_loopw [14] (fun iv wr=>∃ (k:Nat) (ρ':Nat→Nat),k≤rn∧iv=.int .i64 k∧DAt wr { L with ρ:=ρ' } gd { d with fs:=keepAll (d.reach.take k) ns d.fs }∧Upd L.ρ ρ' wR wr) (fun iv _=>rn - (intOf iv).toNat)
 case atStart=>exact ⟨0,L.ρ,Nat.zero_le _,rfl,HD.out.below HBW.out,Upd.refl _ _⟩
 case round =>
  obtain ⟨k,ρ',hk,rfl,hd,hu⟩:=hrel
  have HDK:=hid hd
  have HU:=hid hu
  have hx3:=(hu.block b3 hbx h30).trans HGX.out
  have x0:=cell_of_row _ _ 0 _ _ _ hx3
  have x1:=cell_of_row _ _ 1 _ _ _ hx3
  simp only [List.getElem?_toArray,List.getElem?_cons_zero,List.getElem?_cons_succ] at x0 x1
  have HX3:=hid hx3
  clear hd hu hx3
  by_cases hkl:k < rn
  · obtain ⟨i,hi⟩:∃ i,d.reach[k]?=some i:=⟨_,List.getElem?_eq_getElem (by rw [← HRN.out];exact hkl)⟩
    have hil:=reach_lt HP.out i (List.mem_of_getElem? hi)
    obtain ⟨gq,rfl,hq0,hq1,hq⟩:=ptrs_at HROW.out hi
    have hq':wr.cell? ⟨gq,k,none⟩=some (.pointer (some ⟨L.fa i,0,none⟩)):=reach_at (B:=0) HU.out hq1 (HD.out.new _ (by have:=HB1.out.size;omega)) hq
    obtain ⟨y,hy⟩:∃ y,y=ns[k]?.getD 0:=⟨_,rfl⟩
    have HNK:=hid (HNR.out.upd HU.out)
    have hyb:-9223372036854775808≤y∧y≤9223372036854775807:=by
     rw [hy]
     cases e:ns[k]? with
     | none=>simp
     | some x=>obtain ⟨_,_,_,_,_,h1,h2⟩:=HNR.out.2 k x e;exact ⟨h1,h2⟩
    have hfk:=(keepAll_fine (d.reach.take k) ns d.fs HFI.out).at i
    have HKE:=hid (keep_any wr { L with ρ:=ρ' } gd { d with fs:=keepAll (d.reach.take k) ns d.fs } HDK.out i (by show i < (keepAll (d.reach.take k) ns d.fs).length;rw [keepAll_len];exact hil) hfk.1 hfk.2 y hyb.1 hyb.2)
    have HSN:=hid (show keepAll (d.reach.take (k+1)) ns d.fs=(keepAll (d.reach.take k) ns d.fs).set i (((keepAll (d.reach.take k) ns d.fs)[i]?.getD ⟨[],[],[]⟩).keep y) by
     rw [List.take_add_one,hi]
     have h9:=keepAll_snoc (d.reach.take k) i ns d.fs
     rw [show (d.reach.take k).length=k by rw [List.length_take,← HRN.out];omega,← hy] at h9
     exact h9)
    have hqc:=hq'
    clear hfk hi hq hyb
    by_cases hkn:k < n
    · obtain ⟨x,hx⟩:∃ x,ns[k]?=some x:=⟨_,List.getElem?_eq_getElem (by rw [HNR.out.1];exact hkn)⟩
      obtain rfl:y=x:=by rw [hy,hx];rfl
      obtain ⟨nb,off,rfl,hc,-⟩:=HNK.out.2 k y hx
      clear hx hy
      go_wp2_with (go_at_call 51;refine HKE.out.mono ?_;rintro e w5 ⟨rfl,ρ5,hd5,hu5⟩
                   have HD5:=hid hd5
                   have HU5:=hid (HU.out.trans hu5)
                   clear hd5 hu5)
      go_roundw
      case rel=>exact ⟨k+1,ρ5,by omega,by push_cast;rfl,by rw [HSN.out];exact HD5.out,HU5.out⟩
      case measure=>simp [intOf];omega
    · have hx:ns[k]?=none:=List.getElem?_eq_none (by rw [HNR.out.1];omega)
      obtain rfl:y=0:=by rw [hy,hx];rfl
      clear hx hy
      go_wp2_with (go_at_call 51;refine HKE.out.mono ?_;rintro e w5 ⟨rfl,ρ5,hd5,hu5⟩
                   have HD5:=hid hd5
                   have HU5:=hid (HU.out.trans hu5)
                   clear hd5 hu5)
      go_roundw
      case rel=>exact ⟨k+1,ρ5,by omega,by push_cast;rfl,by rw [HSN.out];exact HD5.out,HU5.out⟩
      case measure=>simp [intOf];omega
  · obtain rfl:k=rn:=by omega
    obtain ⟨L1,hL1⟩:∃ L1,L1=({ L with ρ:=ρ' }:Lay):=⟨_,rfl⟩
    obtain ⟨d1,hd1⟩:∃ d1,d1=({ d with fs:=keepAll d.reach ns d.fs }:Dm):=⟨_,rfl⟩
    have hda:DAt wr L1 gd d1:=by
     have h9:=HDK.out
     rw [List.take_of_length_le (by rw [← HRN.out];exact Nat.le_refl _),← hL1,← hd1] at h9;exact h9
    have hu1:Upd L.ρ L1.ρ w wr:=by
     have h9:=(Upd.of_below (ρ:=L.ρ) HBW.out).trans HU.out
     rw [hL1];exact h9
    obtain ⟨-,-,-,-,-,-,-,c7,c8,-,-,-⟩:=hda.cells
    obtain ⟨cv,cc,hch,-⟩:=owns_shape hda.ch.1
    have hdc:d1.changes=d.changes:=by rw [hd1]
    have hds:d1.safe=d.safe:=by rw [hd1]
    rw [hdc] at hch
    obtain ⟨cn,hcn⟩:∃ cn,cn=d.changes.length:=⟨_,rfl⟩
    rw [← hcn] at hch
    rw [hch] at c8
    obtain ⟨K,hK⟩:∃ K,K=(min (max nm 0) (cn:Int)).toNat:=⟨_,rfl⟩
    have hKc:K≤cn:=by omega
    have hcc:cn≤cc:=by have h9:=hda.ch.1;rw [hch,hdc,← hcn] at h9;exact own_cap h9
    have hcb:cn < 1099511627776:=by rw [hcn];exact HP.out.chl
    have hsl:=fun wx=>slice_cutG sl44 wx cv cn cc K (by omega)
    have hm:min (max nm 0) (cn:Int)=(K:Int):=by omega
    have hgl:=hda.lt
    have hb3r:b3 < wr.heap.size:=(Array.getElem?_eq_some_iff.1 HX3.out).1
    have HDA:=hid hda
    have HU1:=hid hu1
    have HL1:=hid hL1
    have HD1:=hid hd1
    have HDC:=hid (And.intro hdc hds)
    have HCH:=hid hch
    have HCN:=hid hcn
    have HKK:=hid hK
    clear hda hu1 hL1 hd1 hdc hds hch hcn hK HDK HU HR HROW HNR HN1 HX3 HGX HG1 HB1 HBR HBW hcc
    go_wp2_with fail
    go_region
    obtain ⟨wq,hwq⟩:∃ wq,wq=wr.drew:=⟨_,rfl⟩
    have hbq:Below wr.heap.size wr wq:=by rw [hwq];exact (Below.refl _ _).drew
    rw [← hwq]
    clear hwq c7 c8 x0 x1 hsl hm
    have HDQ:=hid (HDA.out.below hbq)
    have HUQ:=hid (HU1.out.trans (Upd.of_below (ρ:=L1.ρ) hbq))
    have HSE:=hid (show ({ d1 with safe:=chs (d.changes.take 0) d.safe }:Dm)=d1 by rw [← HDC.out.2];rfl)
    clear HDA HU1 hbq
    go_wp2_with fail
    go_loopw [48] (fun jv wr=>∃ (j:Nat),j≤K∧jv=.int .i64 j∧DAt wr L1 gd { d1 with safe:=chs (d.changes.take j) d.safe }∧Upd L1.ρ L1.ρ wq wr) (fun jv _=>K - (intOf jv).toNat)
    case atStart=>exact ⟨0,Nat.zero_le _,rfl,by rw [HSE.out];exact HDQ.out,Upd.refl _ _⟩
    case round =>
     obtain ⟨j,hj,rfl,hd2,hu2⟩:=hrel
     have HU2:=hid hu2
     by_cases hjl:j < K
     · obtain ⟨cx,hcx⟩:∃ cx,d.changes[j]?=some cx:=⟨_,List.getElem?_eq_getElem (by rw [← HCN.out];omega)⟩
       obtain ⟨g,cc',hv,d0,d1',d2⟩:=ch_at hd2 (k:=j) (c:=cx) (by show d1.changes[j]?=some cx;rw [HDC.out.1];exact hcx)
       rw [HCH.out] at hv
       obtain rfl:cv=some ⟨g,0,none⟩:=by injection hv
       obtain ⟨mv,hmv⟩:∃ mv,madeV L1.fa cx.made=.pointer mv:=by cases cx.made <;> exact ⟨_,rfl⟩
       rw [hmv] at d2
       obtain ⟨wb,hwb⟩:∃ wb,wb=wr.alloc (boxC (bs cx.src) (bs cx.dst) (.pointer mv)):=⟨_,rfl⟩
       have hbb:Below wr.heap.size wr wb:=by rw [hwb];exact bel1 _ _
       have gb:wb.heap[wr.heap.size]?=some (boxC (bs cx.src) (bs cx.dst) (.pointer mv)):=by rw [hwb];exact heap_alloc_new wr _
       obtain ⟨b0,b1,b2⟩:=box3 gb
       obtain ⟨bx,hbx'⟩:∃ bx,bx=wr.heap.size:=⟨_,rfl⟩
       have hdb:=hd2.below hbb
       have c7:=hdb.cells.2.2.2.2.2.2.2.1
       have hgd:gd ≠ L1.sb:=fun e=>by have h1:=hdb.sf.lt.2;have h2:=hdb.lg;rw [← e,h2] at h1;omega
       have hbs:bx ≠ L1.sb:=fun e=>by have h1:=hd2.sf.lt.1;omega
       have HDB:=hid hdb
       have HUB:=hid (hu2.trans (Upd.of_below (ρ:=L1.ρ) hbb))
       have HBX:=hid hbx'
       obtain ⟨hc1,hc2,hc3,hc4⟩:=HC.out j (by rw [← HCN.out];omega)
       obtain ⟨hc5,hc6,hc7,hc8⟩:=hc4 cx hcx
       have HDO:=hid (do_any wb.drew L1.ρ 3 L1.fa L1.sb (chs (d.changes.take j) d.safe) cx (hdb.below (Below.refl _ _).drew).sf hc1 (by unfold maxLen;omega) (by unfold maxLen;omega) (by omega) hc7 hc8)
       rw [hmv] at HDO
       have HTK:=hid (show chs (d.changes.take (j+1)) d.safe=cx.act (chs (d.changes.take j) d.safe) by rw [List.take_add_one,hcx];exact chs_snoc _ _ _)
       clear hcx hv hmv hbb hdb hc1 hc2 hc3 hc4 hc5 hc6 hc7 hc8 hd2 hu2
       go_upto_region 12 with (fail)
       rw [← hwb,← hbx']
       rw [← hbx'] at b0 b1 b2
       clear hwb hbx' d0 d1' d2
       go_wp2_with fail
       go_region_held3 (fun w'=>w'.cell? ⟨gd,7,none⟩=some (.map (some L1.sb))∧w'.cell? ⟨bx,0,none⟩=some (.string (bs cx.src))∧w'.cell? ⟨bx,1,none⟩=some (.string (bs cx.dst))∧w'.cell? ⟨bx,2,none⟩=some (.pointer mv)) (first | exact ⟨c7,b0,b1,b2⟩ | exact ⟨keepm hgr2 hgd c7,keepm hgr2 hbs b0,keepm hgr2 hbs b1,keepm hgr2 hbs b2⟩) (first | (go_at_call 52;refine HDO.out.mono ?_;rintro e w2 ⟨rfl,hm2,hgr2⟩))
       have hbq:Below wb.heap.size wb wb.drew:=(Below.refl _ _).drew
       have hds:=(HDB.out.below hbq).safeTo (m:=cx.act (chs (d.changes.take j) d.safe)) hgr2 hm2
       have hus:Upd L1.ρ L1.ρ wb.drew w2:=Upd.of_only (S:=(·=3)) (Only.of_grown hgr2 (fun kk e=>by cases e;exact HDB.out.sf.lt.2)) (by omega) (Ext.refl _ _)
       have HD4:=hid hds
       have HU4:=hid (HUB.out.trans ((Upd.of_below (ρ:=L1.ρ) hbq).trans hus))
       clear hds hus hbq hm2 hgr2 c7 b0 b1 b2
       go_wp2_with fail
       go_roundw
       case rel=>exact ⟨j+1,by omega,by push_cast;rfl,by rw [HTK.out];exact HD4.out,HU4.out⟩
       case measure=>simp [intOf];omega
     · obtain rfl:j=K:=by omega
       obtain ⟨m,hm⟩:∃ m,m=chs (d.changes.take j) d.safe:=⟨_,rfl⟩
       rw [← hm] at hd2
       obtain ⟨hm1,hm2,hm3,-⟩:=HC.out j (by rw [← HCN.out];exact hKc)
       rw [← hm] at hm1 hm2 hm3
       have hgl2:=hd2.lt
       have c7:=hd2.cells.2.2.2.2.2.2.2.1
       have HD2:=hid hd2
       have HM:=hid hm
       have HUU:=hid (HUQ.out.trans hu2)
       have HM1:=hid (And.intro hm1 hm3)
       obtain ⟨nb,hnb⟩:∃ nb,nb=wr.heap.size:=⟨_,rfl⟩
       have HCL:=hid (names_clone wr hd2.sf)
       rw [← hnb] at HCL
       have hgl3:gd < nb:=by rw [hnb];exact hgl2
       have HNB:=hid hnb
       clear hd2 hu2 HU2 HUQ HDQ hm1 hm3 hm hnb
       go_upto_region 16 with (first
        | (go_at_call 53;refine HCL.out.mono ?_;rintro e w4 ⟨rfl,hN,hb,hz⟩
           have hcd:=HD2.out.cloned HNB.out hb hz hN 0
           have hx:=(hb.block gd hgl3).trans HD2.out.g
           have s6:=cell_of_row _ _ 6 _ _ _ hx
           have s2:=cell_of_row _ _ 2 _ _ _ hx
           have f6:=frozen_of_row w4 gd 6 _ _ hx
           have f2:=frozen_of_row w4 gd 2 _ _ hx
           simp only [List.getElem?_toArray,List.getElem?_cons_zero,List.getElem?_cons_succ] at s2 s6
           have HCD:=hid hcd
           clear hx hN hb hz hcd))
       obtain ⟨w6,hw6⟩:∃ w6,w6=(w4.setCell ⟨gd,6,none⟩ (.map (some nb))).setCell ⟨gd,2,none⟩ (.int .i64 0):=⟨_,rfl⟩
       obtain ⟨L2,hL2⟩:∃ L2,L2=({ L1 with ρ:=put1 L1.ρ nb 2,nb:=nb }:Lay):=⟨_,rfl⟩
       obtain ⟨d2,hd2⟩:∃ d2,d2=({ d1 with safe:=m,names:=m }:Dm):=⟨_,rfl⟩
       have hcd:=HCD.out
       rw [← hw6,← hL2,show put1 L1.ρ nb 2=L2.ρ by rw [hL2]] at hcd
       have HD6:=hid (show DAt w6 L2 gd { d2 with used:=0 } by rw [hd2];exact hcd.1)
       have HU6:=hid (HUU.out.trans hcd.2)
       have hnb2:L2.nb=nb:=by rw [hL2]
       have hdn:d2.names=m:=by rw [hd2]
       rw [← hw6]
       obtain ⟨D,hmo,hρn,hzn,hln⟩:=HD6.out.nm
       rw [hnb2] at hmo
       have hln':∀ s:Nm,D.atKey (.string s) .nil=(match lk m s with | none=>.nil | some i=>.lit (.int .i64 (L2.fa i:Nat)))∧has D (.string s)=(lk m s).isSome:=fun s=>by have h9:=hln s;rw [show ({ d2 with used:=0 }:Dm).names=m from hdn] at h9;exact h9
       have c6:=HD6.out.cells.2.2.2.2.2.2.1
       rw [hnb2] at c6
       have hzn':size D=m.length:=by rw [hzn];show d2.names.length=_;rw [hdn]
       have hmo':w6.ownsMap Tryz.prog 9 ptrR nb m.length D:=by have h9:=hmo;rw [show ({ d2 with used:=0 }:Dm).names=m from hdn] at h9;exact h9
       have HMO:=hid hmo'
       have HLN:=hid (And.intro hzn' hln')
       have HD2':=hid (And.intro hd2 hdn)
       have HL2:=hid (And.intro hL2 hnb2)
       clear hmo hmo' hln hln' hzn hzn' hcd HCD hw6 hL2 hd2 hnb2 hdn s6 s2 f6 f2 c7 HUU HCL HDC HD2 HSE
       go_wp2_with (first
        | (at_range;refine wpList_range_own _ rfl _ 47 rfl 9 109 law9 Tryz.underlying47 _ nb _ D rfl HMO.out ?_;intro w0 hrg0 hg0 hs0)
        | go_in)
       go_frame
       obtain ⟨it,hit⟩:∃ it,it=w6.heap.size:=⟨_,rfl⟩
       rw [← hit] at hrg0
       rw [← hit]
       have hgd6:=HD6.out.lt
       have hd0:DAt w0 L2 gd { d2 with used:=(0:Nat) }:=HD6.out.stays hg0.size (fun kk e=>hg0.block kk (HD6.out.dom kk e) (by simp))
       have hu0:Upd L2.ρ L2.ρ w6 w0:=⟨hg0.os,hg0.tape,hg0.output,hg0.size,fun kk hk _=>hg0.block kk hk (by simp),Ext.refl _ _⟩
       have hitd:gd ≠ it:=by omega
       have hnbd:gd ≠ nb:=fun e=>by have h1:=HD6.out.nm.lt.2;rw [HL2.out.2,← e,HD6.out.lg] at h1;omega
       have hfs2:d2.fs=keepAll d.reach ns d.fs:=by rw [HD2'.out.1,HD1.out]
       have HLE:=hid (show ∀ f ∈ d2.fs,f.now.length≤2147483647 by rw [hfs2];exact keepAll_now _ _ _ HFI.out (fun f hf=>(HP.out.fl f hf).1))
       have HIT:=hid hit
       have HI0:=hid (show L2.ρ it=0 from HD6.out.new _ (by omega))
       have HSZ:=hid (show size D≤4096 by rw [HLN.out.1];exact hm2)
       have HFS:=hid hfs2
       clear hg0 hs0 hfs2 hit
       go_loopw [10] (fun _ wr=>∃ (left:Lit→Bool) (cnt:Nat) (ps:List (List UInt8 × Option Nat)) (S:Nat),wr.ranges Tryz.prog 9 ptrR nb it m.length D left cnt∧ps.length+cnt≤size D∧Collected D left (ps.map (·.1))∧S=((ps.map (·.1)).map (lenOn d2.fs m)).sum∧S≤ps.length * 2147483647∧DAt wr L2 gd { d2 with used:=S }∧Upd L2.ρ L2.ρ w6 wr)
        (fun _ wr=>wr.rangeLeft nb it)
       case atStart=>exact ⟨_,_,[],0,hrg0,by simp,Collected.start D,by simp,by simp,hd0,hu0⟩
       case round =>
        obtain ⟨left,cnt,ps,S,hrg,hcs,hC,hS,hSb,hdr,hur⟩:=hrel
        have HDR:=hid hdr
        have HUR:=hid hur
        have HCO:=hid hC
        have HSS:=hid hS
        clear hdr hur hC hS
        go_wp2_with (first
         | (at_next;refine wpList_next_ranges _ rfl _ rfl 9 law9 ptrR encStr encP (fun key kl hk=>by obtain ⟨x,hx,_⟩:=Maps.keyOf_str Tryz.underlying9 hk;exact ⟨x,hx⟩) (fun v y hv=>encP_of hv) nb it m.length D left cnt rfl hrg ?_ ?_)
         | go_in)
        · intro hc0 hl0
          have hperm:=HCO.out.perm HMO.out (string_keyed Tryz.underlying9) Tryz.underlying9 hl0
          have hp2:((ps.map (·.1)).Perm (keysOf m)):=by
           obtain ⟨-,hnd,hmem,-⟩:=str_facts HMO.out
           exact hperm.trans ((List.perm_ext_iff_of_nodup hnd HM1.out.1).2 fun x=>by rw [hmem,(HLN.out.2 x).2,lk_some])
          have hSm:(S:Int)=m.foldl (fun (u:Int) p=>wrap64 (u+((d2.fs[p.2]?.getD ⟨[],[],[]⟩).now.length:Int))) 0:=by
           rw [HSS.out];exact sum_used d2.fs HLE.out (by have:=HSZ.out;rw [HLN.out.1] at this;exact this) HM1.out.1 hp2
          have HSM:=hid hSm
          have hen:=HDR.out.ended
          obtain ⟨-,-,-,-,e4,e5,-,-,e8,e9,-,efr⟩:=HDR.out.cells
          obtain ⟨pla,plc,hpl,-⟩:=HDR.out.pl
          obtain ⟨cha,chc,hch2,-⟩:=owns_shape HDR.out.ch.1
          rw [hpl] at e9
          rw [hch2] at e8
          obtain ⟨ep,hep⟩:∃ ep,ep=d2.epoch:=⟨_,rfl⟩
          have hepb:ep < 1099511627776:=by rw [hep,HD2'.out.1,HD1.out];exact HP.out.epoch
          obtain ⟨pw,hpw⟩:∃ pw,pw=d2.power:=⟨_,rfl⟩
          have e4':wr.cell? ⟨gd,4,none⟩=some (.int .i64 ep):=by rw [hep];exact e4
          have e5':wr.cell? ⟨gd,5,none⟩=some (.bool pw):=by rw [hpw];exact e5
          have f4:=efr 4
          have f5:=efr 5
          have f8:=efr 8
          have f9:=efr 9
          have HEN:=hid hen
          have HEP:=hid hep
          clear hen hep hpw e4 e5 efr hSm hp2 hperm hpl hch2 hrg hc0 hl0
          go_wp2_with fail
          go_end0
          have e1:chs (d.changes.take (max nm 0).toNat) d.safe=m:=by
           rw [HM.out]
           congr 1
           rw [List.take_eq_take_iff,← HCN.out]
           have:=HKK.out
           omega
          have hres:d.restart nm ns=({ ({ d2 with used:=(S:Int) }:Dm) with changes:=[],plan:=[],power:=true,epoch:=d2.epoch+1 }:Dm):=by
           unfold Dm.restart
           dsimp only
           rw [e1,HSM.out,HD2'.out.1,HD1.out]
          rw [hres,HEP.out]
          exact ⟨rfl,_,HEN.out.1,(HU6.out.trans HUR.out).trans HEN.out.2⟩
        · intro x cp kl yd yp w2 cnt2 hkey hlk hv hat hrg2 hlt hg2 hs2 hen
          obtain ⟨x',ex,rfl,_⟩:=Maps.keyOf_str Tryz.underlying9 hkey
          obtain rfl:x=x':=encStr_inj ex
          obtain rfl:=ptrR_enc hv
          have hhas:has D (.string x)=true:=has_true_of_atKey hat
          obtain ⟨i,hi⟩:=Option.isSome_iff_exists.1 (((HLN.out.2 x).2).symm.trans hhas)
          have hcp:cp=some (L2.fa i):=by
           have h1:=(HLN.out.2 x).1
           rw [hat,hi] at h1
           cases cp with
           | none=>simp [valD] at h1
           | some g=>simp [valD] at h1;rw [show g=L2.fa i by omega]
          subst hcp
          have hep:encP (some (L2.fa i))=.pointer (some ⟨L2.fa i,0,none⟩):=rfl
          rw [hep] at hen
          have hd2:DAt w2 L2 gd { d2 with used:=S }:=HDR.out.stays hg2.size (fun kk e=>hg2.block kk (HDR.out.dom kk e) (by intro e2;have h1:=Option.some.inj e2;rw [h1] at e;exact e HI0.out))
          have hu2:Upd L2.ρ L2.ρ w6 w2:=⟨hg2.os.trans HUR.out.os,hg2.tape.trans HUR.out.tape,hg2.output.trans HUR.out.output,Nat.le_trans HUR.out.size hg2.size,fun kk hk h0=>(hg2.block kk (Nat.lt_of_lt_of_le hk HUR.out.size) (by intro e2;have h1:=Option.some.inj e2;have:=HIT.out;omega)).trans (HUR.out.block kk hk h0),Ext.refl _ _⟩
          have hil:i < d2.fs.length:=by rw [HFS.out,keepAll_len];exact HM1.out.2 x i hi
          obtain ⟨vn,vs,vl,hf⟩:=hd2.at (i:=i) hil
          obtain ⟨av,cv2,hvn,-⟩:=owns_shape hf.now.1
          obtain ⟨nv,hnv⟩:∃ nv,nv=lenF d2.fs i:=⟨_,rfl⟩
          have hvn':vn=.slice av nv cv2:=by rw [hnv];exact hvn
          have n1:=hf.cells.2.1
          rw [hvn'] at n1
          have hgg:gd ≠ L2.fa i:=fun e=>by have h1:=hf.lg;rw [← e,hd2.lg] at h1;omega
          have hnvb:nv≤2147483647:=by rw [hnv];exact lenF_le HLE.out i
          have c2:=hd2.cells.2.2.1
          have f2:=hd2.cells.2.2.2.2.2.2.2.2.2.2.2 2
          have c2':w2.cell? ⟨gd,2,none⟩=some (.int .i64 (S:Int)):=c2
          have HDW:=hid hd2
          have HUW:=hid hu2
          have HRG:=hid hrg2
          have HLV:=hid (show lenOn d2.fs m x=nv by rw [hnv];exact lenOn_some hi)
          have HC2:=hid (HCO.out.step hlk hat)
          have HLC:=hid (show ps.length+1+cnt2≤size D by omega)
          have hSb2:S≤4096 * 2147483647:=Nat.le_trans hSb (Nat.mul_le_mul_right _ (by have:=HSZ.out;omega))
          have HLT:=hid (show w2.rangeLeft nb it < wr.rangeLeft nb it from by rw [hrg2.left_eq,hrg.left_eq];exact hlt)
          rw [hep]
          clear c2 hd2 hu2 hrg2 hg2 hs2 hvn hvn' hf hlk hat hv hkey hhas hi hlt hrg hep hnv ex
          go_wp2_with fail
          go_region
          have hbq:Below w2.heap.size w2 w2.drew:=(Below.refl _ _).drew
          have HDX:=hid ((HDW.out.below hbq).usedTo ((S:Int)+nv))
          have HUX:=hid ((HUW.out.trans (Upd.of_below (ρ:=L2.ρ) hbq)).trans (Upd.of_only (S:=(·=1)) (Only.setCell w2.drew gd 2 (.int .i64 ((S:Int)+nv)) HDW.out.lg) (by omega) (Ext.refl _ _)))
          have hrg3:=HRG.out.kept (w':=w2.drew.setCell ⟨gd,2,none⟩ (.int .i64 ((S:Int)+nv))) (row:=some gd) ⟨rfl,rfl,rfl,by simp,fun kk hk hn=>heap_setCell_other w2.drew ⟨gd,2,none⟩ kk _ (fun e=>hn (by simp at e;rw [e]))⟩ (by simpa using hnbd.symm) (by simpa using hitd.symm)
          have HR3:=hid hrg3
          clear hbq hrg3
          go_wp2_with fail
          go_roundw
          case rel =>
           refine ⟨_,cnt2,ps++[(x,some (L2.fa i))],S+nv,HR3.out,?_,?_,?_,?_,?_,HUX.out⟩
           · rw [List.length_append];exact HLC.out
           · rw [List.map_append];exact HC2.out
           · rw [List.map_append,List.map_append,List.sum_append,← HSS.out]
             show S+nv=S+(lenOn d2.fs m x+0)
             rw [HLV.out];rfl
           · rw [List.length_append,Nat.add_mul];simp;omega
           · have h9:=HDX.out
             rw [show (S:Int)+(nv:Int)=((S+nv:Nat):Int) by push_cast;rfl] at h9 ⊢
             exact h9
          case measure =>
           exact Nat.lt_of_le_of_lt (Nat.le_of_eq (HR3.out.left_eq.trans HRG.out.left_eq.symm)) HLT.out
end
section
open Go Go.RowKit Go.Shelf Go.Lib Go.Sort
open Go.Maps Go.WideMaps
abbrev Sc:=Option (Nat × Nat × Nat)
def encS:Sc→Value
 | none=>.slice none 0 0
 | some (g,n,c)=>.slice (some ⟨g,0,none⟩) n c
def scD:Sc→DataW Unit
 | none=>.nil
 | some (g,n,c)=>.agg [.lit (.int .i64 (g:Nat)),.lit (.int .i64 (n:Nat)),.lit (.int .i64 (c:Nat))]
def sliceR (v:Value):Option (DataW Unit × List MemPlace):=match v with
 | .slice none 0 0=>some (.nil,[])
 | .slice (some ⟨g,0,none⟩) n c=>some (.agg [.lit (.int .i64 (g:Nat)),.lit (.int .i64 (n:Nat)),.lit (.int .i64 (c:Nat))],[])
 | _=>none
theorem sliceR_enc (c:Sc):sliceR (encS c)=some (scD c,[]):=by
 cases c with
 | none=>rfl
 | some p=>rfl
theorem sliceR_inv {v:Value} {y:DataW Unit × List MemPlace} (h:sliceR v=some y):∃ c,v=encS c:=by
 unfold sliceR at h
 split at h
 · exact ⟨none,rfl⟩
 · exact ⟨some (_,_,_),rfl⟩
 · cases h
theorem scD_inj {a b:Sc} (h:scD a=scD b):a=b:=by
 cases a with
 | none=>cases b with
   | none=>rfl
   | some p=>cases h
 | some p =>
   cases b with
   | none=>cases h
   | some q =>
     obtain ⟨g,n,c⟩:=p
     obtain ⟨g',n',c'⟩:=q
     simp [scD] at h
     obtain ⟨h1,h2,h3⟩:=h
     rw [show g=g' by omega,show n=n' by omega,show c=c' by omega]
theorem own_enc {w:World} {B e s n:Nat} {v:Value} {xs:List Value} (h:w.ownsRow B e s v n xs):∃ c,v=encS c:=by
 rcases h.2 with ⟨h1,-⟩ | ⟨g,cap,cur,h1,-⟩
 · exact ⟨none,h1⟩
 · exact ⟨some (g,n,cap),h1⟩
theorem zero50 (w:World):(zeroValue 53).run Tryz.prog w=.ok (.slice none 0 0) w:=by kernel_rfl
def KAt (w:World) (B b:Nat) (l:List (Nm × List UInt8)):Prop:=B≤b∧∃ D:DataW Unit,w.ownsMap Tryz.prog 9 sliceR b l.length D∧size D=l.length ∧
 ∀ s:Nm,has D (.string s)=(lk l s).isSome∧∃ c:Sc,D.atKey (.string s) .nil=scD c∧(lk l s=none→c=none)∧∀ x,lk l s=some x→w.ownsRow B 5 1 (encS c) x.length (x.map b8)
theorem KAt.same {w:World} {B b:Nat} {l l':List (Nm × List UInt8)} (h:KAt w B b l) (hl:l.length=l'.length) (he:∀ s,lk l s=lk l' s):KAt w B b l':=by
 obtain ⟨h0,D,h1,h2,h3⟩:=h
 exact ⟨h0,D,by rw [← hl];exact h1,by rw [← hl];exact h2,fun s=>by rw [← he];exact h3 s⟩
theorem KAt.none (w:World) (b:Nat) (hb:b=w.heap.size):KAt (w.alloc (.map #[] 0)) w.heap.size b []:=by
 subst hb
 refine ⟨Nat.le_refl _,_,World.ownsMap_made w Tryz.prog 9 sliceR,rfl,fun s=>⟨rfl,Option.none,rfl,fun _=>rfl,fun x h=>by cases h⟩⟩
theorem KAt.below {w w':World} {B b:Nat} {l:List (Nm × List UInt8)} (h:KAt w B b l) (hb:Below w.heap.size w w'):KAt w' B b l:=by
 obtain ⟨h0,D,h1,h2,h3⟩:=h
 exact ⟨h0,D,h1.kept (gwk hb) (by simp),h2,fun s=>⟨(h3 s).1,by
  obtain ⟨c,h4,h5,h6⟩:=(h3 s).2
  exact ⟨c,h4,h5,fun x hx=>own_below (h6 x hx) hb⟩⟩⟩
theorem KAt.lt {w:World} {B b:Nat} {l:List (Nm × List UInt8)} (h:KAt w B b l):b < w.heap.size:=by
 obtain ⟨-,D,h1,-⟩:=h
 exact h1.lt
theorem KAt.map {w:World} {B b:Nat} {l:List (Nm × List UInt8)} (h:KAt w B b l):∃ D,w.ownsMap Tryz.prog 9 sliceR b l.length D∧∀ (s:Nm) (c:Sc) (x:List UInt8) (w':World),w.ownsRow B 5 1 (encS c) x.length (x.map b8)→w.grownBy w' (some b)→w'.ownsMap Tryz.prog 9 sliceR b (l.length+1) (D.put (.string s) (scD c))→KAt w' B b (ins l s x):=by
 obtain ⟨h0,D,h1,h2,h3⟩:=h
 refine ⟨D,h1,fun s c x w' ho hg hm=>?_⟩
 have ht:=h1.tidy law9
 have hmap:∃ o es ck,w.heap[b]?=some (.map es ck)∧o=es:=by
  obtain ⟨es,ck,hb,-⟩:=h1
  exact ⟨_,es,ck,hb,rfl⟩
 obtain ⟨-,es,ck,hbm,-⟩:=hmap
 have hkeep:∀ {v:Value} {n:Nat} {xs:List Value},w.ownsRow B 5 1 v n xs→w'.ownsRow B 5 1 v n xs:=fun {v n xs} hv=>own_same hv (fun k e=>by
  have hlt:=(hv.lt k e).2
  refine hg.block k hlt (fun e2=>?_)
  have e3:k=b:=Option.some.inj e2
  subst e3
  rcases hv.2 with ⟨h4,-⟩ | ⟨g,cap,cur,h4,-,h5,-⟩
  · rw [h4] at e;cases e
  · rw [h4] at e
    obtain rfl:g=k:=Option.some.inj e
    rw [hbm] at h5;cases h5)
 have hs:=size_put (k:=.string s) ht (scD c)
 have hsz:size (D.put (.string s) (scD c))=(ins l s x).length:=by
  rw [hs,(h3 s).1,len_ins,h2]
  by_cases h:s ∈ keysOf l
  · rw [if_pos (lk_some.2 h),if_pos h]
  · rw [if_neg (by rw [lk_none.2 h];simp),if_neg h]
 refine ⟨h0,_,by have:=ownsMap_tight hm;rwa [hsz] at this,hsz,fun t=>?_⟩
 rw [lk_ins]
 by_cases e:t=s
 · subst e
   rw [if_pos rfl]
   exact ⟨has_put_same ht.isMap (show WideAt.IsKeyLit (.string t) from trivial) _,c,atKey_put_same ht.isMap (show WideAt.IsKeyLit (.string t) from trivial) _ _,fun h=>(by cases h),fun y hy=>(by cases hy;exact hkeep ho)⟩
 · rw [if_neg e]
   obtain ⟨c',h4,h5,h6⟩:=(h3 t).2
   exact ⟨(has_put_other (fun h=>e (litS_inj h)) _).trans (h3 t).1,c',(atKey_put_other (fun h=>e (litS_inj h)) _ _).trans h4,h5,fun y hy=>hkeep (h6 y hy)⟩
theorem kept_any (w:World) (L:Lay) (gd:Nat) (d:Dm) (h:DAt w L gd d) (hp:Pre d) :
 Calls Tryz.prog 18 #[.pointer (some ⟨gd,0,none⟩)] w fun e w'=>Below w.heap.size w w'∧∃ b,e=.returned (.map (some b))∧KAt w' w.heap.size b d.kept:=by
 have hmm:=@run_makeMap Tryz.prog
 obtain ⟨D,hmo,hρ,hz,hl⟩:=h.sf
 have hgl:=h.lt
 obtain ⟨w1,hw1⟩:∃ w1,w1=w.alloc (.map #[] 0):=⟨_,rfl⟩
 have hb1:Below w.heap.size w w1:=by rw [hw1];exact bel1 _ _
 have hk1:KAt w1 w.heap.size w.heap.size []:=by rw [hw1];exact KAt.none w _ rfl
 have c7:=(h.below hb1).cells.2.2.2.2.2.2.2.1
 obtain ⟨mb,hmb⟩:∃ mb,mb=w.heap.size:=⟨_,rfl⟩
 rw [← hmb] at hk1
 have HMO:=hid hmo
 have HM1:=hid (hmo.kept (gwk hb1) (by simp))
 have HL:=hid (And.intro hz hl)
 have HD:=hid h
 have HP:=hid hp
 have HB1:=hid hb1
 have HK1:=hid (show KAt w1 mb mb [] by rw [hmb] at hk1 ⊢;exact hk1)
 have HMB:=hid hmb
 clear h hp hmo hρ hz hl hb1 hk1
 go_enter Tryz.func18,Tryz.ntmps18
 go_upto_region 2 with (fail)
 rw [← hw1,← hmb]
 clear hw1 hmb hmm
 go_wp2_with (first
  | (at_range;refine wpList_range_own _ rfl _ 47 rfl 9 109 law9 Tryz.underlying47 _ L.sb _ D rfl HM1.out ?_;intro w0 hrg0 hg0 hs0)
  | go_in)
 go_frame
 obtain ⟨it,hit⟩:∃ it,it=w1.heap.size:=⟨_,rfl⟩
 rw [← hit] at hrg0
 rw [← hit]
 have hnb:=HMB.out
 have hk0:KAt w0 mb mb []:=HK1.out.below ⟨hg0.os,hg0.tape,hg0.output,hg0.size,fun k hk=>hg0.block k hk (by simp)⟩
 have hb0:Below w.heap.size w w0:=HB1.out.trans ⟨hg0.os,hg0.tape,hg0.output,hg0.size,fun k hk=>hg0.block k (Nat.lt_of_lt_of_le hk HB1.out.size) (by simp)⟩
 have hmbs:mb ≠ L.sb:=by have:=HD.out.sf.lt.1;omega
 have hmbi:mb ≠ it:=by have:=HK1.out.lt;omega
 have hmw:w.heap.size≤mb:=by omega
 have hitw:w.heap.size≤it:=by rw [hit];exact HB1.out.size
 have HIT:=hid hit
 have HSZ:=hid (show size D≤4096 by rw [HL.out.1];exact HP.out.fewS)
 clear hg0 hs0 hit hnb
 go_loopw [4,5] (fun _ _ wr=>∃ (left:Lit→Bool) (cnt:Nat) (l:List (Nm × List UInt8)),wr.ranges Tryz.prog 9 ptrR L.sb it d.safe.length D left cnt∧l.length+cnt≤size D∧Collected D left (keysOf l)∧KAt wr mb mb l∧(∀ s x,lk l s=some x→∃ i,lk d.safe s=some i∧x=(d.file i).safe)∧Below w.heap.size w wr)
  (fun _ _ wr=>wr.rangeLeft L.sb it)
 case atStart=>exact ⟨_,_,[],hrg0,by simp,Collected.start D,hk0,fun s x h=>(by cases h),hb0⟩
 case round =>
  obtain ⟨left,cnt,l,hrg,hcs,hC,hK,hX,hbr⟩:=hrel
  have HCO:=hid hC
  have HK:=hid hK
  have HX:=hid hX
  have HBR:=hid hbr
  clear hC hK hX hbr
  go_wp2_with (first
   | (at_next;refine wpList_next_ranges _ rfl _ rfl 9 law9 ptrR encStr encP (fun key kl hk=>by obtain ⟨x,hx,_⟩:=Maps.keyOf_str Tryz.underlying9 hk;exact ⟨x,hx⟩) (fun v y hv=>encP_of hv) L.sb it d.safe.length D left cnt rfl hrg ?_ ?_)
   | go_in)
  · intro hc0 hl0
    have hperm:=HCO.out.perm HMO.out (string_keyed Tryz.underlying9) Tryz.underlying9 hl0
    obtain ⟨-,hnd,hmem,-⟩:=str_facts HMO.out
    have hp2:(keysOf l).Perm (keysOf d.safe):=hperm.trans ((List.perm_ext_iff_of_nodup hnd HP.out.ns).2 fun x=>by rw [hmem,(HL.out.2 x).2,lk_some])
    have HK2:=hid (show KAt wr mb mb d.kept by
     refine HK.out.same ?_ (fun s=>?_)
     · have h1:=hp2.length_eq
       unfold keysOf at h1
       rw [List.length_map,List.length_map] at h1
       unfold Dm.kept;rw [List.length_map];exact h1
     · have hk9:∀ (m:List (Nm × Nat)) s,lk (m.map fun p=>(p.1,(d.file p.2).safe)) s=(lk m s).map fun i=>(d.file i).safe:=fun m s=>by
        induction m with
        | nil=>rfl
        | cons p r ih =>
          obtain ⟨k,i⟩:=p
          simp only [List.map_cons,lk]
          split
          · rfl
          · exact ih
       unfold Dm.kept
       rw [hk9]
       cases e:lk l s with
       | none =>
         have h1:s ∉ keysOf d.safe:=fun h=>lk_none.1 e (hp2.mem_iff.2 h)
         rw [lk_none.2 h1];rfl
       | some x =>
         obtain ⟨i,h1,h2⟩:=HX.out s x e
         rw [h1,h2];rfl)
    clear hperm hnd hmem hp2 hc0 hl0 hrg
    go_wp2_with fail
    go_ret
    exact ⟨HBR.out,mb,rfl,by rw [← HMB.out];exact HK2.out⟩
  · intro x cp kl yd yp w2 cnt2 hkey hlk hv hat hrg2 hlt hg2 hs2 hen
    obtain ⟨x',ex,rfl,_⟩:=Maps.keyOf_str Tryz.underlying9 hkey
    obtain rfl:x=x':=encStr_inj ex
    obtain rfl:=ptrR_enc hv
    have hhas:has D (.string x)=true:=has_true_of_atKey hat
    obtain ⟨i,hi⟩:=Option.isSome_iff_exists.1 (((HL.out.2 x).2).symm.trans hhas)
    have hcp:cp=some (L.fa i):=by
     have h1:=(HL.out.2 x).1
     rw [hat,hi] at h1
     cases cp with
     | none=>simp [valD] at h1
     | some g=>simp [valD] at h1;rw [show g=L.fa i by omega]
    subst hcp
    have hep:encP (some (L.fa i))=.pointer (some ⟨L.fa i,0,none⟩):=rfl
    rw [hep] at hen
    have hb2:Below w.heap.size w w2:=HBR.out.trans ⟨hg2.os,hg2.tape,hg2.output,hg2.size,fun k hk=>hg2.block k (Nat.lt_of_lt_of_le hk HBR.out.size) (by intro e2;have h1:=Option.some.inj e2;omega)⟩
    have hk2:KAt w2 mb mb l:=by
     obtain ⟨h0,Dk,h1,h2,h3⟩:=HK.out
     refine ⟨h0,Dk,h1.kept hg2 (by simpa using hmbi),h2,fun s=>⟨(h3 s).1,?_⟩⟩
     obtain ⟨c,h4,h5,h6⟩:=(h3 s).2
     refine ⟨c,h4,h5,fun y hy=>own_same (h6 y hy) (fun k e=>hg2.block k ((h6 y hy).lt k e).2 (fun e2=>?_))⟩
     have e3:k=it:=Option.some.inj e2
     rw [e3] at e
     rcases (h6 y hy).2 with ⟨h7,-⟩ | ⟨g,cap,cur,h7,-,h8,-⟩
     · rw [h7] at e;cases e
     · rw [h7] at e
       obtain rfl:g=it:=Option.some.inj e
       have h9:=hrg.iter_walk
       obtain ⟨o,ho1,ho2⟩:=h9
       rw [h8] at ho1;cases ho1;cases ho2
    have hil:i < d.fs.length:=HP.out.refs.sf x i hi
    obtain ⟨vn,vs,vl,hf⟩:=(HD.out.below hb2).at hil
    obtain ⟨av,cv2,hvs,-⟩:=owns_shape hf.safe.1
    obtain ⟨nv,hnv⟩:∃ nv,nv=(d.file i).safe.length:=⟨_,rfl⟩
    rw [← hnv] at hvs
    have n2:=hf.cells.2.2.1
    rw [hvs] at n2
    have hnvb:nv≤2147483647:=by rw [hnv];exact (HP.out.file i).2.1
    have hr:R8 w2 av nv cv2 (d.file i).safe:=by have h9:=hf.safe.1;rw [hvs,← hnv] at h9;exact R8.of_owns h9 (by omega)
    have HCL:=hid (bclone_any w2 av nv cv2 (d.file i).safe hr (by omega))
    have HNV:=hid hnv
    have HI:=hid hi
    have HRG:=hid hrg2
    have HB2:=hid hb2
    have HK2:=hid hk2
    have HKEY:=hid hkey
    have HC2:=hid (HCO.out.step hlk hat)
    have HNEW:=hid (show x ∉ keysOf l from fun h=>by have:=((HCO.out.2 x).1 h).2;rw [hlk] at this;cases this)
    have HLC:=hid (show l.length+1+cnt2≤size D by omega)
    have hll:l.length≤4096:=by have:=HSZ.out;omega
    have HLT:=hid (show w2.rangeLeft L.sb it < wr.rangeLeft L.sb it from by rw [hrg2.left_eq,hrg.left_eq];exact hlt)
    rw [hep]
    clear hb2 hk2 hrg2 hg2 hs2 hvs hf hlk hat hv hkey hhas hi hlt hrg hep hnv ex hr
    go_wp2_with (first
     | (go_at_call 54;refine HCL.out.mono ?_;rintro e w4 ⟨⟨a4,c4,rfl,hv4⟩,hb4⟩
        obtain ⟨Dk,hmk,hput⟩:=(HK2.out.below hb4).map
        obtain ⟨sc,hsc⟩:=own_enc hv4
        have hval:sliceR (.slice a4 nv c4)=some (scD sc,[]):=by rw [hsc];exact sliceR_enc sc
        have HMK:=hid hmk
        have HPUT:=hid hput
        have HSC:=hid hsc
        have HVAL:=hid hval
        have HV4:=hid hv4
        have HB4:=hid hb4
        clear hmk hput hsc hval hv4 hb4)
     | (at_mapUpdate;refine wpList_mapUpdate_own _ rfl _ _ _ 55 rfl 9 53 law9 Tryz.underlying55 sliceR mb l.length Dk rfl HMK.out (by unfold maxLen;omega) _ _ (.string x) rfl rfl HKEY.out (scD sc) [] HVAL.out ?_;intro w5 hown5 hgrow5
        have HO5:=hid hown5
        have HG5:=hid hgrow5
        clear hown5 hgrow5))
    have HK5:=hid (HPUT.out x sc (d.file i).safe w5 (by rw [← HSC.out,← HNV.out];exact owns_mono HV4.out (by have:=HB2.out.size;have:=HK2.out.lt;omega)) HG5.out HO5.out)
    have HR5:=hid (((HRG.out.kept (gwk HB4.out) (by simp) (by simp)).kept HG5.out (by simpa using hmbs.symm) (by simpa using hmbi.symm)))
    have HB5:=hid ((HB2.out.trans (HB4.out.mono HB2.out.size)).grown HG5.out (by have:=HB2.out.size;have:=HB4.out.size;omega) (fun k e=>by cases e;exact hmw))
    simp only [Act.put]
    go_roundw
    case rel =>
     refine ⟨_,cnt2,ins l x (d.file i).safe,HR5.out,?_,?_,HK5.out,fun s y hy=>?_,HB5.out⟩
     · have:=len_ins_le l x (d.file i).safe;have:=HLC.out;omega
     · rw [keys_ins,if_neg HNEW.out];exact HC2.out
     · rw [lk_ins] at hy
       by_cases e:s=x
       · rw [if_pos e] at hy;cases hy;exact ⟨i,by rw [e];exact HI.out,rfl⟩
       · rw [if_neg e] at hy;exact HX.out s y hy
    case measure=>exact Nat.lt_of_le_of_lt (Nat.le_of_eq (HR5.out.left_eq.trans HRG.out.left_eq.symm)) HLT.out
end
end Go.Proofs.YtgkehahklccacaaGreatDoor
