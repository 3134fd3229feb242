import Derived.Test.YtgkehahklccacaaGreatDoorC10
import Derived.Test.YtgkehahklccacaaGreatDoorC03
import Derived.Test.YtgkehahklccacaaGreatDoorC13
namespace Go.Proofs.YtgkehahklccacaaGreatDoor
open Go Go.RowKit
open Go.Lib (hid)
set_option maxRecDepth 100000
set_option maxHeartbeats 1000000
set_option linter.unusedVariables false
set_option linter.unusedSimpArgs false
section
open Go.Maps Go.WideMaps
theorem begin_append (w:World) (L:Lay) (gd:Nat) (d:Dm) (h:DAt w L gd d) (ha:d.acts < 4611686018427387904) (x0 x1 y0 y1 y2:Value) (Wh:Dm→Dm) (Pt:Int→Dm→Dm)
 (hW:∀ w2,Upd L.ρ L.ρ w w2→DAt w2 L gd { d with acts:=d.acts+1 }→Calls Tryz.prog 165 #[x0,x1] w2 fun e w'=>e=.returned (.tuple #[])∧∃ L',DAt w' L' gd (Wh { d with acts:=d.acts+1 })∧Upd L.ρ L'.ρ w2 w')
 (hP:∀ w2 n,Upd L.ρ L.ρ w w2→DAt w2 L gd { d with acts:=d.acts+1 }→Calls Tryz.prog 164 #[.int .i64 n,y0,y1,y2] w2 fun e w'=>e=.returned (.tuple #[])∧∃ L',DAt w' L' gd (Pt n { d with acts:=d.acts+1 })∧Upd L.ρ L'.ρ w2 w') :
 Calls Tryz.prog 94 #[.pointer (some ⟨gd,0,none⟩),.func (.func 165) #[] #[x0,x1],.func (.func 164) #[] #[y0,y1,y2]] w fun e w'=>e=.returned (.int .i64 (d.begin Wh Pt).2)∧∃ L',DAt w' L' gd (d.begin Wh Pt).1∧Upd L.ρ L'.ρ w w':=by
 have hc0:=h.cells.1
 have hlt:=h.lt
 have HP0:=hid (planned_any w L gd d h d.acts)
 have HD:=hid h
 have HW:=hid hW
 have HP:=hid hP
 have e9:((d.acts+1:Nat):Int)=(d.acts:Int)+1:=by omega
 clear h hW hP
 go_enter Tryz.func94,Tryz.ntmps94
 go_upto_region 2 with (go_at_call 156;(refine HP0.out.mono ?_);rintro e w1 ⟨rfl,hb1⟩;have HB1:=hid hb1;clear hb1 hc0)
 obtain ⟨st,kd,pt,hf⟩:∃ st kd pt,(⟨st,kd,pt⟩:Flt)=d.planned d.acts:=⟨_,_,_,rfl⟩
 have HF:=hid hf
 rw [← hf]
 obtain ⟨w2,hw2⟩:∃ w2,w2=w1.alloc (.cells #[.int .i64 st,.int .i64 kd,.int .i64 pt] 35):=⟨_,rfl⟩
 have z1:=HB1.out.size
 have hb2:Below w.heap.size w w2:=by rw [hw2];exact HB1.out.alloc z1 _
 have g2:w2.heap[w1.heap.size]?=some (.cells #[.int .i64 st,.int .i64 kd,.int .i64 pt] 35):=by rw [hw2];exact heap_alloc_new w1 _
 dsimp only
 rw [← hw2]
 clear hw2 hf
 have hd2:=HD.out.below hb2
 have c0:=hd2.cells.1
 have f0:=hd2.cells.2.2.2.2.2.2.2.2.2.2.2 0
 have hne:w1.heap.size ≠ gd:=by omega
 have k1:∀ x,(w2.setCell ⟨gd,0,none⟩ x).cell? ⟨w1.heap.size,1,none⟩=some (.int .i64 kd):=fun x=>(World.cell?_of_block (heap_setCell_other w2 ⟨gd,0,none⟩ w1.heap.size x hne)).trans (by rw [cell_of_row _ _ _ _ _ _ g2];rfl)
 have k2:∀ x,(w2.setCell ⟨gd,0,none⟩ x).cell? ⟨w1.heap.size,2,none⟩=some (.int .i64 pt):=fun x=>(World.cell?_of_block (heap_setCell_other w2 ⟨gd,0,none⟩ w1.heap.size x hne)).trans (by rw [cell_of_row _ _ _ _ _ _ g2];rfl)
 have ho3:Only L.ρ (·=1) w (w2.setCell ⟨gd,0,none⟩ (.int .i64 ((d.acts:Int)+1))):=(Only.of_below hb2).trans (Only.setCell w2 gd 0 _ HD.out.lg)
 have hd3:DAt (w2.setCell ⟨gd,0,none⟩ (.int .i64 ((d.acts:Int)+1))) L gd { d with acts:=d.acts+1 }:=HD.out.own1 ho3 (by have h9:=heap_setCell_same w2 gd 0 _ _ (.int .i64 ((d.acts:Int)+1)) hd2.g;unfold boxDisk;rw [e9];exact h9) rfl rfl rfl rfl rfl rfl
 have hu3:Upd L.ρ L.ρ w (w2.setCell ⟨gd,0,none⟩ (.int .i64 ((d.acts:Int)+1))):=Upd.of_only ho3 (by omega) (Ext.refl _ _)
 have HWC:=hid (HW.out _ hu3 hd3)
 have HPC:=hid (HP.out _ pt hu3 hd3)
 have HU3:=hid hu3
 have HD3:=hid hd3
 clear e9 ho3 hd3 hu3 hd2 g2 hb2 HB1 HP0 HW HP HD
 have hcase:kd=1∨kd=2∨kd=3∨kd=4∨kd=5∨kd=6∨((kd == 1)=false∧(kd == 2)=false∧(kd == 3)=false∧(kd == 4)=false∧(kd == 5)=false∧(kd == 6)=false):=by simp;omega
 rcases hcase with rfl | rfl | rfl | rfl | rfl | rfl | ⟨e1,e2,e3,e4,e5,e6⟩
 · go_wp2_with fail
   go_ret
   have hE:d.begin Wh Pt=({ d with acts:=d.acts+1 },30):=by unfold Dm.begin;rw [← HF.out];simp
   exact ⟨by rw [hE];rfl,L,by rw [hE];exact HD3.out,HU3.out⟩
 · go_wp2_with (first | (go_at_call 165;refine HWC.out.mono ?_;clear k1 k2 c0 f0;rintro e w4 ⟨rfl,L4,hd4,hu4⟩;have c5:=hd4.cells.2.2.2.2.2.1;have f5:=hd4.cells.2.2.2.2.2.2.2.2.2.2.2 5;have HD4:=hid hd4;have HU4:=hid hu4;clear hd4 hu4))
   go_ret
   have hE:d.begin Wh Pt=(Wh { d with acts:=d.acts+1 },30):=by unfold Dm.begin;rw [← HF.out];simp
   exact ⟨by rw [hE];rfl,L4,by rw [hE];exact HD4.out,HU3.out.trans HU4.out⟩
 · go_wp2_with (first | (go_at_call 164;refine HPC.out.mono ?_;clear k1 k2 c0 f0;rintro e w4 ⟨rfl,L4,hd4,hu4⟩;have c5:=hd4.cells.2.2.2.2.2.1;have f5:=hd4.cells.2.2.2.2.2.2.2.2.2.2.2 5;have HD4:=hid hd4;have HU4:=hid hu4;clear hd4 hu4))
   go_ret
   have hE:d.begin Wh Pt=(Pt pt { d with acts:=d.acts+1 },30):=by unfold Dm.begin;rw [← HF.out];simp
   exact ⟨by rw [hE];rfl,L4,by rw [hE];exact HD4.out,HU3.out.trans HU4.out⟩
 · go_wp2_with (first | (go_at_call 164;refine HPC.out.mono ?_;clear k1 k2 c0 f0;rintro e w4 ⟨rfl,L4,hd4,hu4⟩;have c5:=hd4.cells.2.2.2.2.2.1;have f5:=hd4.cells.2.2.2.2.2.2.2.2.2.2.2 5;have HD4:=hid hd4;have HU4:=hid hu4;clear hd4 hu4))
   go_ret
   have hE:d.begin Wh Pt=(Pt pt { d with acts:=d.acts+1 },31):=by unfold Dm.begin;rw [← HF.out];simp
   exact ⟨by rw [hE];rfl,L4,by rw [hE];exact HD4.out,HU3.out.trans HU4.out⟩
 · go_wp2_with (first | (go_at_call 164;refine HPC.out.mono ?_;clear k1 k2 c0 f0;rintro e w4 ⟨rfl,L4,hd4,hu4⟩;have c5:=hd4.cells.2.2.2.2.2.1;have f5:=hd4.cells.2.2.2.2.2.2.2.2.2.2.2 5;have HD4:=hid hd4;have HU4:=hid hu4;clear hd4 hu4))
   go_ret
   have hE:d.begin Wh Pt=({ Pt pt { d with acts:=d.acts+1 } with power:=false },2):=by unfold Dm.begin;rw [← HF.out];simp
   have ho5:Only L4.ρ (·=1) w4 (w4.setCell ⟨gd,5,none⟩ (.bool false)):=Only.setCell w4 gd 5 _ HD4.out.lg
   exact ⟨by rw [hE];rfl,L4,by rw [hE];exact HD4.out.own1 ho5 (heap_setCell_same w4 gd 5 _ _ _ HD4.out.g) rfl rfl rfl rfl rfl rfl,(HU3.out.trans HU4.out).trans (Upd.of_only ho5 (by omega) (Ext.refl _ _))⟩
 · go_wp2_with (first | (go_at_call 165;refine HWC.out.mono ?_;clear k1 k2 c0 f0;rintro e w4 ⟨rfl,L4,hd4,hu4⟩;have c5:=hd4.cells.2.2.2.2.2.1;have f5:=hd4.cells.2.2.2.2.2.2.2.2.2.2.2 5;have HD4:=hid hd4;have HU4:=hid hu4;clear hd4 hu4))
   go_ret
   have hE:d.begin Wh Pt=({ Wh { d with acts:=d.acts+1 } with power:=false },2):=by unfold Dm.begin;rw [← HF.out];simp
   have ho5:Only L4.ρ (·=1) w4 (w4.setCell ⟨gd,5,none⟩ (.bool false)):=Only.setCell w4 gd 5 _ HD4.out.lg
   exact ⟨by rw [hE];rfl,L4,by rw [hE];exact HD4.out.own1 ho5 (heap_setCell_same w4 gd 5 _ _ _ HD4.out.g) rfl rfl rfl rfl rfl rfl,(HU3.out.trans HU4.out).trans (Upd.of_only ho5 (by omega) (Ext.refl _ _))⟩
 · go_wp2_with (first | (go_at_call 165;refine HWC.out.mono ?_;clear k1 k2 c0 f0;rintro e w4 ⟨rfl,L4,hd4,hu4⟩;have c5:=hd4.cells.2.2.2.2.2.1;have f5:=hd4.cells.2.2.2.2.2.2.2.2.2.2.2 5;have HD4:=hid hd4;have HU4:=hid hu4;clear hd4 hu4))
   go_ret
   have hE:d.begin Wh Pt=(Wh { d with acts:=d.acts+1 },0):=by unfold Dm.begin;rw [← HF.out];simp at e1 e2 e3 e4 e5 e6;simp [e1,e2,e3,e4,e5,e6]
   exact ⟨by rw [hE];rfl,L4,by rw [hE];exact HD4.out,HU3.out.trans HU4.out⟩
end
section
open Go.Maps Go.WideMaps
def RdO (w:World) (ρ:Nat→Nat) (a:Option Addr) (n c:Nat) (l:List UInt8):Prop:=R8 w a n c l∧∀ b off,a=some ⟨b,off,none⟩→0 < n→ρ b=0
theorem R8.lt {w:World} {a:Option Addr} {n c:Nat} {l:List UInt8} (h:R8 w a n c l):∀ b off,a=some ⟨b,off,none⟩→0 < n→b < w.heap.size:=fun b off e h0=>by
 obtain ⟨b',off',e',hc⟩:=h.2.2.2 0 (by have:=h.1;omega)
 have:=World.block_lt_of_cell? w _ hc
 rw [e] at e';injection e' with e';injection e' with e1;subst e1;exact this
theorem RdO.upd {w w':World} {ρ ρ':Nat→Nat} {a:Option Addr} {n c:Nat} {l:List UInt8} (h:RdO w ρ a n c l) (hu:Upd ρ ρ' w w'):RdO w' ρ' a n c l :=
 ⟨h.1.same (fun b off e h0=>hu.block b (h.1.lt b off e h0) (h.2 b off e h0)),fun b off e h0=>hu.ext.old b (h.1.lt b off e h0) (h.2 b off e h0)⟩
abbrev boxS (a:Option Addr) (n c:Nat):Obj:=.cells #[.slice a n c] 53
theorem append1_any (w:World) (L:Lay) (gd:Nat) (d:Dm) (h:DAt w L gd d) (i:Nat) (hi:i < d.fs.length) (a:Option Addr) (m c:Nat) (fit:List UInt8) (hfit:RdO w L.ρ a m c fit) (hml:(d.file i).now.length+m≤2147483647) (hlo:(d.file i).loose.length < 1099511627776) (n:Int)
 (bs_ bp bd:Nat) (hbs:Cap w L.ρ bs_ (boxS a m c)) (hbp:Cap w L.ρ bp (boxP (L.fa i))) (hbd:Cap w L.ρ bd (boxD gd)) :
 Calls Tryz.prog 164 #[.int .i64 n,.pointer (some ⟨bs_,0,none⟩),.pointer (some ⟨bp,0,none⟩),.pointer (some ⟨bd,0,none⟩)] w fun e w'=>e=.returned (.tuple #[])∧∃ L',DAt w' L' gd (partOf i fit n d)∧Upd L.ρ L'.ρ w w':=by
 obtain ⟨k,hk,hkm⟩:∃ k:Nat,min (max n 0) (m:Int)=(k:Int)∧k≤m:=⟨(min (max n 0) (m:Int)).toNat,by omega,by omega⟩
 have hq:fit.take n.toNat=fit.take k:=by
  have hl:=hfit.1.1
  by_cases hc:n.toNat≤m
  · rw [show k=n.toNat by omega]
  · rw [List.take_of_length_le (by omega),List.take_of_length_le (by omega)]
 have s0:=cell0 hbs.1
 have HQ:=hid hq
 have hsl:=slice_cut w a m c k (by have:=hfit.1.2.1;omega)
 have hR:=hfit.1.take k hkm
 clear hq
 by_cases hk0:k=0
 · have HE:=hid (show partOf i fit n d=d by unfold partOf;rw [HQ.out,hk0];simp)
   have hlt:¬ (0:Int) < (k:Int):=by omega
   have HD:=hid h
   clear h hfit hbs hbp hbd hk0 hR
   go_enter Tryz.func164,Tryz.ntmps164
   go_wp2_with fail
   go_end0
   exact ⟨rfl,L,by rw [HE.out];exact HD.out,Upd.refl _ _⟩
 have hlt:(0:Int) < (k:Int):=by omega
 obtain ⟨vn,vs,vl,hf⟩:=h.at hi
 obtain ⟨av,cv,hvn,-⟩:=owns_shape hf.now.1
 obtain ⟨nv,hnv⟩:∃ nv,nv=(d.file i).now.length:=⟨_,rfl⟩
 rw [← hnv] at hvn hml
 subst hvn
 obtain ⟨g,hg⟩:∃ g,g=L.fa i:=⟨_,rfl⟩
 rw [← hg] at hbp
 have hgl:=hf.lt
 rw [← hg] at hgl
 have hbpl:=(Array.getElem?_eq_some_iff.1 hbp.1).1
 have kp:=cell0 hbp.1
 have n1:=hf.cells.2.1
 rw [← hg] at n1
 have HD:=hid h
 have HF:=hid hf
 have HBP:=hid hbp
 have HBD:=hid hbd
 have HFIT:=hid (show RdO w L.ρ a k c (fit.take k) from ⟨hR,fun b off e h0=>hfit.2 b off e (by omega)⟩)
 have HNV:=hid hnv
 have HG:=hid hg
 have HR:=hid hR.drew
 have hO8:w.ownsRow 0 5 1 (.slice av nv cv) nv ((d.file i).now.map b8):=by have h9:=hf.now.1;rw [← hnv] at h9;exact h9
 have HO8:=hid (show w.drew.ownsRow 0 5 1 (.slice av nv cv) nv ((d.file i).now.map b8) from hO8)
 have HK0:=hid hk0
 have hne:bp ≠ g:=fun e=>by have h1:=HBP.out.2;have h2:=HF.out.lg;rw [← HG.out,← e,h1] at h2;omega
 have HQ1:=hid (show (nv+k) * 1≤140737488355328 by omega)
 have HQ2:=hid (show nv+k≤maxLen by simp [maxLen];omega)
 clear h hf hbs hbp hbd hfit hR hnv hg hO8 hk0
 go_enter Tryz.func164,Tryz.ntmps164
 go_upto_region 2 with (fail)
 clear hsl s0 hk
 go_wp2_with fail
 refine wp_region_held_drew (S:=fun w'=>w'.cell? ⟨bp,0,none⟩=some (.pointer (some ⟨g,0,none⟩))) (by kernel_rfl) kp (fun hHeld=>?_)
 apply wpT 0
 apply wpT 1
 apply wpT 2
 apply wpT 3
 apply wpT 5
 apply wpR 4
 intro K hK
 go_simp
 apply bk hK
 · exact kp
 intro hHeld
 clear hK K
 apply wpR 6
 intro K hK
 refine S_append8 rfl (.tmp 20) (.tmp 21) 53 (by rfl) sl50 0 (.slice av nv cv) nv _ (by rfl) HO8.out a k c (fit.take k) (by rfl) HR.out HQ1.out HQ2.out (Nat.zero_le _) (fun a2 c2 w2 ho2 hg2 hat2=>?_)
 have hto:=(HD.out.below (show Below w.heap.size w w.drew from (Below.refl _ _).drew)).nowTo hi (HF.out.keep (w':=w.drew) (ρ':=L.ρ) (fun _ _=>rfl) (fun _ _=>rfl)) hg2 (l:=(d.file i).now++fit.take k) (by rw [List.length_append,← HNV.out,HR.out.1,List.map_append];exact ho2) hat2
 have hx2:w2.heap[g]?=some (boxFile i (.slice av nv cv) vs vl):=(hg2.block g hgl (fun e=>by have h9:=HF.out.now.2 g e.symm;have h8:=HF.out.lg;rw [← HG.out,h9] at h8;omega)).trans (by rw [HG.out];exact HF.out.box)
 have kp2:=cell0 ((hg2.block bp hbpl (fun e=>by have h9:=HF.out.now.2 bp e.symm;have h8:=HBP.out.2;rw [h9] at h8;omega)).trans (HBP.out.1))
 have s2:=cell_of_row _ _ 1 _ _ _ hx2
 have f2:=frozen_of_row w2 g 1 _ _ hx2
 simp only [List.getElem?_toArray,List.getElem?_cons_zero,List.getElem?_cons_succ] at s2
 rw [← HG.out] at hto
 clear hx2
 apply bk hK
 · exact kp2
 intro hHeld
 clear hK K
 apply wpT 7
 apply wpT 8
 apply wpR 9
 intro K hK
 go_simp
 apply bk hK
 · exact (keeps kp2 hne)
 intro hHeld
 clear hK K
 refine wpAnyH_done (by kernel_rfl) ?_ _
 obtain ⟨ρ2,hd2,hu2,hf2⟩:=hto
 obtain ⟨w3,hw3⟩:∃ w3,w3=w2.setCell ⟨g,1,none⟩ (.slice a2 (nv+k) c2):=⟨_,rfl⟩
 rw [← hw3] at hd2 hu2 hf2 ⊢
 have HU2:=hid ((Upd.of_below (ρ:=L.ρ) (show Below w.heap.size w w.drew from (Below.refl _ _).drew)).trans hu2)
 have HFIT2:=hid (HFIT.out.upd HU2.out)
 have HBP2:=hid (HBP.out.upd HU2.out)
 have HBD2:=hid (HBD.out.upd HU2.out)
 have hgl3:g < w3.heap.size:=hf2.lt
 obtain ⟨rs,hrl,hO,hall⟩:=hf2.loose
 obtain ⟨la,lc,hvl,-⟩:=owns_shape hO.1
 obtain ⟨ln,hln⟩:∃ ln,ln=(d.file i).loose.length:=⟨_,rfl⟩
 have hvl1:vl=.slice la ln lc:=by rw [hln];exact hvl
 have HO1:=hid (show OwnL w3 ρ2 172 2 (10+4 * i) vl ln (rs.flatMap runV) by rw [hln];exact hO)
 subst hvl1
 have kp3:=cell0 HBP2.out.1
 have l3:=hf2.cells.2.2.2.1
 have HD2:=hid hd2
 have HF2:=hid hf2
 have HRL:=hid hrl
 have HALL:=hid hall
 have HLN:=hid hln
 have HCL:=hid (bclone_any w3.drew a k c (fit.take k) HFIT2.out.1.drew (by omega))
 have HQL:=hid HFIT.out.1.1
 have HQ3:=hid (show (ln+1) * 32≤140737488355328 by omega)
 have HQ4:=hid (show ln+1≤maxLen by simp [maxLen];omega)
 clear hw3 hd2 hu2 hf2 hO hvl hrl hall hln kp2 s2 f2 hg2 ho2 hat2 kp n1 HR HO8 HQ1 HQ2 hgl hbpl hHeld
 go_wp2_with fail
 refine wp_region_held_drew (S:=fun w'=>w'.cell? ⟨bp,0,none⟩=some (.pointer (some ⟨g,0,none⟩))) (by kernel_rfl) kp3 (fun hHeld=>?_)
 apply wpT 0
 apply wpT 1
 apply wpT 2
 apply wpT 3
 apply wpT 5
 refine wpAnyH_ready (rs:=[4,6]) (by kernel_rfl) (by simp) ?_
 refine AllReadyH.cons (o:=_) rfl (fun K hK=>?_) (AllReadyH.cons (o:=_) rfl (fun K hK=>?_) AllReadyH.nil)
 · go_simp
   apply bk hK
   · exact kp3
   intro hHeld
   clear hK K
   apply wpR 6
   intro K hK
   go_simp
   refine HCL.out.mono ?_
   rintro e w4 ⟨⟨a4,c4,rfl,hv⟩,hb⟩
   have hb4:Below w3.heap.size w3 w4:=((Below.refl w3.heap.size w3).drew).trans hb
   have kp4:=keepc hb4 kp3
   have l34:=keepc hb4 l3
   have HB4:=hid hb4
   have HV4:=hid hv
   clear hv hb hb4
   apply bk hK
   · exact kp4
   intro hHeld
   clear hK K
   apply wpT 7
   apply wpR 8
   intro K hK
   go_simp
   apply bk hK
   · exact (keepc (bel1 w4 _) kp4)
   intro hHeld
   clear hK K
   refine wpAnyH_ready (rs:=[9]) (by kernel_rfl) (by simp) ?_
   have hb5:Below w3.heap.size w3 (w4.alloc (.cells #[.slice a4 k c4,.int .i64 0] 172)):=HB4.out.trans ((bel1 w4 _).mono HB4.out.size)
   obtain ⟨W,hW⟩:∃ W,W=w4.alloc (.cells #[.slice a4 k c4,.int .i64 0] 172):=⟨_,rfl⟩
   have hvW:W.ownsRow w3.heap.size 5 1 (.slice a4 k c4) k ((fit.take k).map b8):=by rw [hW];exact own_below HV4.out (bel1 w4 _)
   have HN3:=hid (fun j u hj=>show W.cell? ((⟨w4.heap.size,0,none⟩:Addr).add j)=some u by rw [hW];exact new_run w4 (.slice a4 k c4) (0:Int) (k:=w4.heap.size) rfl j u hj)
   have kpW:W.cell? ⟨bp,0,none⟩=some (.pointer (some ⟨g,0,none⟩)):=by rw [hW];exact keepc (bel1 w4 _) kp4
   rw [← hW] at hb5
   rw [← hW]
   obtain ⟨ρ3,he3,hd3,hl3⟩:=put_new (w:=w3) (w':=W) HD2.out.dom hvW hb5.size 6
   have he3:Ext w3.heap.size ρ2 ρ3:=he3
   have HD3:=hid ((HD2.out.below hb5).relab (ρ':=ρ3) (fun k h=>he3.same k h) hd3)
   have HU3:=hid (HU2.out.trans (show Upd ρ2 ρ3 w3 W from ⟨hb5.os,hb5.tape,hb5.output,hb5.size,fun k hk _=>hb5.block k hk,he3⟩))
   have HF3:=hid (HF2.out.keep (w':=W) (ρ':=ρ3) (fun k e=>hb5.block k (HD2.out.dom k (by show ρ2 k ≠ 0;omega))) (fun k h=>he3.same k h))
   have HO3:=hid (HO1.out.keep (w':=W) (ρ':=ρ3) (fun k e=>hb5.block k (HD2.out.dom k (by show ρ2 k ≠ 0;omega))) (fun k e=>(he3.same k (by omega)).trans e))
   have HA3:=hid (fun (k:Nat) (p:Value × Int) (u:Run) hp hx=>(⟨(HALL.out k p u hp hx).1,(HALL.out k p u hp hx).2.keep (fun k e=>hb5.block k (HD2.out.dom k (by show ρ2 k ≠ 0;omega))) (fun k e=>(he3.same k (by omega)).trans e)⟩:p.2=(u.cut:Int)∧RdL W ρ3 p.1 u.laid))
   have HLV:=hid (show RdL W ρ3 (.slice a4 k c4) (fit.take k) from ⟨a4,c4,by rw [HQL.out],by rw [HQL.out];exact R8.of_owns hvW (by omega),fun b off e h0=>hl3 b (by rw [e];rfl)⟩)
   have HBP3:=hid (show Cap W ρ3 bp (boxP g) from ⟨(hb5.block bp (Array.getElem?_eq_some_iff.1 HBP2.out.1).1).trans HBP2.out.1,he3.old bp (Array.getElem?_eq_some_iff.1 HBP2.out.1).1 HBP2.out.2⟩)
   have hbpl:bp < W.heap.size:=(Array.getElem?_eq_some_iff.1 HBP3.out.1).1
   have hglW:g < W.heap.size:=HF3.out.lt
   clear hb5 hvW he3 hd3 hl3 hW
   refine AllReadyH.cons (o:=_) rfl (fun K hK=>?_) AllReadyH.nil
   refine S_appendN rfl (.tmp 29) (.tmp 33) 115 (by rfl) sl82 0 (.slice la ln lc) ln (rs.flatMap runV) (by rfl) HO3.out.1 ⟨w4.heap.size,0,none⟩ 1 1 [.slice a4 k c4,.int .i64 0] (by rfl) (by rfl) HN3.out (one_run _ _ rfl) HQ3.out HQ4.out (Nat.zero_le _) (fun a6 c6 w6 ho6 hg6 hat6=>?_)
   have hlo6:=HD3.out.looseTo (i:=i) (by show i < (d.fs.set i _).length;rw [List.length_set];exact hi) (Dm.file_set hi _) (by have h9:=HF3.out;rw [HG.out] at h9;exact h9) hg6 (u:=⟨fit.take k,0⟩) (by have:=HLN.out;show ln+1=(d.file i).loose.length+1;omega) (by have h9:=HRL.out;exact h9) HA3.out HLV.out (by show OwnL _ _ 172 2 _ _ (d.file i).loose.length _;rw [← HLN.out];exact HO3.out) ho6 hat6
   have k6:w6.heap[g]?=some (boxFile i (.slice a2 (nv+k) c2) vs (.slice la ln lc)):=(hg6.block g hglW (fun e=>by have h9:=HO3.out.2 g e.symm;have h8:=HF3.out.lg;rw [h9] at h8;omega)).trans HF3.out.box
   have kp6:=cell0 ((hg6.block bp hbpl (fun e=>by have h9:=HO3.out.2 bp e.symm;have h8:=HBP3.out.2;rw [h9] at h8;omega)).trans (HBP3.out.1))
   have s6:=cell_of_row _ _ 3 _ _ _ k6
   have f6:=frozen_of_row w6 g 3 _ _ k6
   simp only [List.getElem?_toArray,List.getElem?_cons_zero,List.getElem?_cons_succ] at s6
   rw [← HG.out] at hlo6
   clear k6
   apply bk hK
   · exact kp6
   intro hHeld
   clear hK K
   apply wpT 10
   apply wpT 11
   apply wpR 12
   intro K hK
   go_simp
   apply bk hK
   · exact (keeps kp6 hne)
   intro hHeld
   clear hK K
   refine wpAnyH_done (by kernel_rfl) ?_ _
   obtain ⟨ρ5,hd5,hu5⟩:=hlo6
   obtain ⟨w7,hw7⟩:∃ w7,w7=w6.setCell ⟨g,3,none⟩ (.slice a6 (ln+1) c6):=⟨_,rfl⟩
   rw [← hw7] at hd5 hu5 ⊢
   have hu7:=HU3.out.trans hu5
   have kb7:=cell0 (HBD.out.upd hu7).1
   have c27:=hd5.cells.2.2.1
   have f27:=hd5.cells.2.2.2.2.2.2.2.2.2.2.2 2
   have HD5:=hid hd5
   have HU7:=hid hu7
   have HE:=hid (show partOf i fit n d={ ((d.setF i ⟨(d.file i).now++fit.take k,(d.file i).safe,(d.file i).loose⟩).setF i ⟨(d.file i).now++fit.take k,(d.file i).safe,(d.file i).loose++[⟨fit.take k,0⟩]⟩) with used:=wrap64 (d.used+(k:Int)) } by
    unfold partOf;rw [HQ.out,Dm.set_set]
    have hne0:fit.take k ≠ []:=fun e=>by have h1:=HQL.out;rw [e] at h1;have:=HK0.out;simp at h1;omega
    simp only [hne0,if_false]
    rw [HQL.out])
   clear hd5 hu5 hu7 hw7 s6 f6 kp6 kpW ho6 hg6 hat6 hlt hHeld
   go_wp2_with fail
   go_end0
   have hlg:=HD5.out.lg
   have ho8:Only ρ5 (·=1) w7 (w7.setCell ⟨gd,2,none⟩ (.int .i64 (wrap64 (d.used+(k:Int))))):=Only.setCell w7 gd 2 _ hlg
   refine ⟨rfl,{ L with ρ:=ρ5 },?_,HU7.out.trans (Upd.of_only ho8 (by omega) (Ext.refl _ _))⟩
   rw [HE.out]
   exact HD5.out.own1 ho8 (heap_setCell_same w7 gd 2 _ _ _ HD5.out.g) rfl rfl rfl rfl rfl rfl
 · go_simp
   refine HCL.out.mono ?_
   rintro e w4 ⟨⟨a4,c4,rfl,hv⟩,hb⟩
   have hb4:Below w3.heap.size w3 w4:=((Below.refl w3.heap.size w3).drew).trans hb
   have kp4:=keepc hb4 kp3
   have l34:=keepc hb4 l3
   have HB4:=hid hb4
   have HV4:=hid hv
   clear hv hb hb4
   apply bk hK
   · exact kp4
   intro hHeld
   clear hK K
   apply wpT 7
   refine wpAnyH_ready (rs:=[4,8]) (by kernel_rfl) (by simp) ?_
   refine AllReadyH.cons (o:=_) rfl (fun K hK=>?_) (AllReadyH.cons (o:=_) rfl (fun K hK=>?_) AllReadyH.nil)
   · go_simp
     apply bk hK
     · exact kp4
     intro hHeld
     clear hK K
     apply wpR 8
     intro K hK
     go_simp
     apply bk hK
     · exact (keepc (bel1 w4 _) kp4)
     intro hHeld
     clear hK K
     refine wpAnyH_ready (rs:=[9]) (by kernel_rfl) (by simp) ?_
     have hb5:Below w3.heap.size w3 (w4.alloc (.cells #[.slice a4 k c4,.int .i64 0] 172)):=HB4.out.trans ((bel1 w4 _).mono HB4.out.size)
     obtain ⟨W,hW⟩:∃ W,W=w4.alloc (.cells #[.slice a4 k c4,.int .i64 0] 172):=⟨_,rfl⟩
     have hvW:W.ownsRow w3.heap.size 5 1 (.slice a4 k c4) k ((fit.take k).map b8):=by rw [hW];exact own_below HV4.out (bel1 w4 _)
     have HN3:=hid (fun j u hj=>show W.cell? ((⟨w4.heap.size,0,none⟩:Addr).add j)=some u by rw [hW];exact new_run w4 (.slice a4 k c4) (0:Int) (k:=w4.heap.size) rfl j u hj)
     have kpW:W.cell? ⟨bp,0,none⟩=some (.pointer (some ⟨g,0,none⟩)):=by rw [hW];exact keepc (bel1 w4 _) kp4
     rw [← hW] at hb5
     rw [← hW]
     obtain ⟨ρ3,he3,hd3,hl3⟩:=put_new (w:=w3) (w':=W) HD2.out.dom hvW hb5.size 6
     have he3:Ext w3.heap.size ρ2 ρ3:=he3
     have HD3:=hid ((HD2.out.below hb5).relab (ρ':=ρ3) (fun k h=>he3.same k h) hd3)
     have HU3:=hid (HU2.out.trans (show Upd ρ2 ρ3 w3 W from ⟨hb5.os,hb5.tape,hb5.output,hb5.size,fun k hk _=>hb5.block k hk,he3⟩))
     have HF3:=hid (HF2.out.keep (w':=W) (ρ':=ρ3) (fun k e=>hb5.block k (HD2.out.dom k (by show ρ2 k ≠ 0;omega))) (fun k h=>he3.same k h))
     have HO3:=hid (HO1.out.keep (w':=W) (ρ':=ρ3) (fun k e=>hb5.block k (HD2.out.dom k (by show ρ2 k ≠ 0;omega))) (fun k e=>(he3.same k (by omega)).trans e))
     have HA3:=hid (fun (k:Nat) (p:Value × Int) (u:Run) hp hx=>(⟨(HALL.out k p u hp hx).1,(HALL.out k p u hp hx).2.keep (fun k e=>hb5.block k (HD2.out.dom k (by show ρ2 k ≠ 0;omega))) (fun k e=>(he3.same k (by omega)).trans e)⟩:p.2=(u.cut:Int)∧RdL W ρ3 p.1 u.laid))
     have HLV:=hid (show RdL W ρ3 (.slice a4 k c4) (fit.take k) from ⟨a4,c4,by rw [HQL.out],by rw [HQL.out];exact R8.of_owns hvW (by omega),fun b off e h0=>hl3 b (by rw [e];rfl)⟩)
     have HBP3:=hid (show Cap W ρ3 bp (boxP g) from ⟨(hb5.block bp (Array.getElem?_eq_some_iff.1 HBP2.out.1).1).trans HBP2.out.1,he3.old bp (Array.getElem?_eq_some_iff.1 HBP2.out.1).1 HBP2.out.2⟩)
     have hbpl:bp < W.heap.size:=(Array.getElem?_eq_some_iff.1 HBP3.out.1).1
     have hglW:g < W.heap.size:=HF3.out.lt
     clear hb5 hvW he3 hd3 hl3 hW
     refine AllReadyH.cons (o:=_) rfl (fun K hK=>?_) AllReadyH.nil
     refine S_appendN rfl (.tmp 29) (.tmp 33) 115 (by rfl) sl82 0 (.slice la ln lc) ln (rs.flatMap runV) (by rfl) HO3.out.1 ⟨w4.heap.size,0,none⟩ 1 1 [.slice a4 k c4,.int .i64 0] (by rfl) (by rfl) HN3.out (one_run _ _ rfl) HQ3.out HQ4.out (Nat.zero_le _) (fun a6 c6 w6 ho6 hg6 hat6=>?_)
     have hlo6:=HD3.out.looseTo (i:=i) (by show i < (d.fs.set i _).length;rw [List.length_set];exact hi) (Dm.file_set hi _) (by have h9:=HF3.out;rw [HG.out] at h9;exact h9) hg6 (u:=⟨fit.take k,0⟩) (by have:=HLN.out;show ln+1=(d.file i).loose.length+1;omega) (by have h9:=HRL.out;exact h9) HA3.out HLV.out (by show OwnL _ _ 172 2 _ _ (d.file i).loose.length _;rw [← HLN.out];exact HO3.out) ho6 hat6
     have k6:w6.heap[g]?=some (boxFile i (.slice a2 (nv+k) c2) vs (.slice la ln lc)):=(hg6.block g hglW (fun e=>by have h9:=HO3.out.2 g e.symm;have h8:=HF3.out.lg;rw [h9] at h8;omega)).trans HF3.out.box
     have kp6:=cell0 ((hg6.block bp hbpl (fun e=>by have h9:=HO3.out.2 bp e.symm;have h8:=HBP3.out.2;rw [h9] at h8;omega)).trans (HBP3.out.1))
     have s6:=cell_of_row _ _ 3 _ _ _ k6
     have f6:=frozen_of_row w6 g 3 _ _ k6
     simp only [List.getElem?_toArray,List.getElem?_cons_zero,List.getElem?_cons_succ] at s6
     rw [← HG.out] at hlo6
     clear k6
     apply bk hK
     · exact kp6
     intro hHeld
     clear hK K
     apply wpT 10
     apply wpT 11
     apply wpR 12
     intro K hK
     go_simp
     apply bk hK
     · exact (keeps kp6 hne)
     intro hHeld
     clear hK K
     refine wpAnyH_done (by kernel_rfl) ?_ _
     obtain ⟨ρ5,hd5,hu5⟩:=hlo6
     obtain ⟨w7,hw7⟩:∃ w7,w7=w6.setCell ⟨g,3,none⟩ (.slice a6 (ln+1) c6):=⟨_,rfl⟩
     rw [← hw7] at hd5 hu5 ⊢
     have hu7:=HU3.out.trans hu5
     have kb7:=cell0 (HBD.out.upd hu7).1
     have c27:=hd5.cells.2.2.1
     have f27:=hd5.cells.2.2.2.2.2.2.2.2.2.2.2 2
     have HD5:=hid hd5
     have HU7:=hid hu7
     have HE:=hid (show partOf i fit n d={ ((d.setF i ⟨(d.file i).now++fit.take k,(d.file i).safe,(d.file i).loose⟩).setF i ⟨(d.file i).now++fit.take k,(d.file i).safe,(d.file i).loose++[⟨fit.take k,0⟩]⟩) with used:=wrap64 (d.used+(k:Int)) } by
      unfold partOf;rw [HQ.out,Dm.set_set]
      have hne0:fit.take k ≠ []:=fun e=>by have h1:=HQL.out;rw [e] at h1;have:=HK0.out;simp at h1;omega
      simp only [hne0,if_false]
      rw [HQL.out])
     clear hd5 hu5 hu7 hw7 s6 f6 kp6 kpW ho6 hg6 hat6 hlt hHeld
     go_wp2_with fail
     go_end0
     have hlg:=HD5.out.lg
     have ho8:Only ρ5 (·=1) w7 (w7.setCell ⟨gd,2,none⟩ (.int .i64 (wrap64 (d.used+(k:Int))))):=Only.setCell w7 gd 2 _ hlg
     refine ⟨rfl,{ L with ρ:=ρ5 },?_,HU7.out.trans (Upd.of_only ho8 (by omega) (Ext.refl _ _))⟩
     rw [HE.out]
     exact HD5.out.own1 ho8 (heap_setCell_same w7 gd 2 _ _ _ HD5.out.g) rfl rfl rfl rfl rfl rfl
   · have l35:=keepc (bel1 w4 (.cells #[.slice a4 k c4,.int .i64 0] 172)) l34
     go_simp
     apply bk hK
     · exact (keepc (bel1 w4 _) kp4)
     intro hHeld
     clear hK K
     apply wpR 4
     intro K hK
     go_simp
     apply bk hK
     · exact (keepc (bel1 w4 _) kp4)
     intro hHeld
     clear hK K
     refine wpAnyH_ready (rs:=[9]) (by kernel_rfl) (by simp) ?_
     have hb5:Below w3.heap.size w3 (w4.alloc (.cells #[.slice a4 k c4,.int .i64 0] 172)):=HB4.out.trans ((bel1 w4 _).mono HB4.out.size)
     obtain ⟨W,hW⟩:∃ W,W=w4.alloc (.cells #[.slice a4 k c4,.int .i64 0] 172):=⟨_,rfl⟩
     have hvW:W.ownsRow w3.heap.size 5 1 (.slice a4 k c4) k ((fit.take k).map b8):=by rw [hW];exact own_below HV4.out (bel1 w4 _)
     have HN3:=hid (fun j u hj=>show W.cell? ((⟨w4.heap.size,0,none⟩:Addr).add j)=some u by rw [hW];exact new_run w4 (.slice a4 k c4) (0:Int) (k:=w4.heap.size) rfl j u hj)
     have kpW:W.cell? ⟨bp,0,none⟩=some (.pointer (some ⟨g,0,none⟩)):=by rw [hW];exact keepc (bel1 w4 _) kp4
     rw [← hW] at hb5
     rw [← hW]
     obtain ⟨ρ3,he3,hd3,hl3⟩:=put_new (w:=w3) (w':=W) HD2.out.dom hvW hb5.size 6
     have he3:Ext w3.heap.size ρ2 ρ3:=he3
     have HD3:=hid ((HD2.out.below hb5).relab (ρ':=ρ3) (fun k h=>he3.same k h) hd3)
     have HU3:=hid (HU2.out.trans (show Upd ρ2 ρ3 w3 W from ⟨hb5.os,hb5.tape,hb5.output,hb5.size,fun k hk _=>hb5.block k hk,he3⟩))
     have HF3:=hid (HF2.out.keep (w':=W) (ρ':=ρ3) (fun k e=>hb5.block k (HD2.out.dom k (by show ρ2 k ≠ 0;omega))) (fun k h=>he3.same k h))
     have HO3:=hid (HO1.out.keep (w':=W) (ρ':=ρ3) (fun k e=>hb5.block k (HD2.out.dom k (by show ρ2 k ≠ 0;omega))) (fun k e=>(he3.same k (by omega)).trans e))
     have HA3:=hid (fun (k:Nat) (p:Value × Int) (u:Run) hp hx=>(⟨(HALL.out k p u hp hx).1,(HALL.out k p u hp hx).2.keep (fun k e=>hb5.block k (HD2.out.dom k (by show ρ2 k ≠ 0;omega))) (fun k e=>(he3.same k (by omega)).trans e)⟩:p.2=(u.cut:Int)∧RdL W ρ3 p.1 u.laid))
     have HLV:=hid (show RdL W ρ3 (.slice a4 k c4) (fit.take k) from ⟨a4,c4,by rw [HQL.out],by rw [HQL.out];exact R8.of_owns hvW (by omega),fun b off e h0=>hl3 b (by rw [e];rfl)⟩)
     have HBP3:=hid (show Cap W ρ3 bp (boxP g) from ⟨(hb5.block bp (Array.getElem?_eq_some_iff.1 HBP2.out.1).1).trans HBP2.out.1,he3.old bp (Array.getElem?_eq_some_iff.1 HBP2.out.1).1 HBP2.out.2⟩)
     have hbpl:bp < W.heap.size:=(Array.getElem?_eq_some_iff.1 HBP3.out.1).1
     have hglW:g < W.heap.size:=HF3.out.lt
     clear hb5 hvW he3 hd3 hl3 hW
     refine AllReadyH.cons (o:=_) rfl (fun K hK=>?_) AllReadyH.nil
     refine S_appendN rfl (.tmp 29) (.tmp 33) 115 (by rfl) sl82 0 (.slice la ln lc) ln (rs.flatMap runV) (by rfl) HO3.out.1 ⟨w4.heap.size,0,none⟩ 1 1 [.slice a4 k c4,.int .i64 0] (by rfl) (by rfl) HN3.out (one_run _ _ rfl) HQ3.out HQ4.out (Nat.zero_le _) (fun a6 c6 w6 ho6 hg6 hat6=>?_)
     have hlo6:=HD3.out.looseTo (i:=i) (by show i < (d.fs.set i _).length;rw [List.length_set];exact hi) (Dm.file_set hi _) (by have h9:=HF3.out;rw [HG.out] at h9;exact h9) hg6 (u:=⟨fit.take k,0⟩) (by have:=HLN.out;show ln+1=(d.file i).loose.length+1;omega) (by have h9:=HRL.out;exact h9) HA3.out HLV.out (by show OwnL _ _ 172 2 _ _ (d.file i).loose.length _;rw [← HLN.out];exact HO3.out) ho6 hat6
     have k6:w6.heap[g]?=some (boxFile i (.slice a2 (nv+k) c2) vs (.slice la ln lc)):=(hg6.block g hglW (fun e=>by have h9:=HO3.out.2 g e.symm;have h8:=HF3.out.lg;rw [h9] at h8;omega)).trans HF3.out.box
     have kp6:=cell0 ((hg6.block bp hbpl (fun e=>by have h9:=HO3.out.2 bp e.symm;have h8:=HBP3.out.2;rw [h9] at h8;omega)).trans (HBP3.out.1))
     have s6:=cell_of_row _ _ 3 _ _ _ k6
     have f6:=frozen_of_row w6 g 3 _ _ k6
     simp only [List.getElem?_toArray,List.getElem?_cons_zero,List.getElem?_cons_succ] at s6
     rw [← HG.out] at hlo6
     clear k6
     apply bk hK
     · exact kp6
     intro hHeld
     clear hK K
     apply wpT 10
     apply wpT 11
     apply wpR 12
     intro K hK
     go_simp
     apply bk hK
     · exact (keeps kp6 hne)
     intro hHeld
     clear hK K
     refine wpAnyH_done (by kernel_rfl) ?_ _
     obtain ⟨ρ5,hd5,hu5⟩:=hlo6
     obtain ⟨w7,hw7⟩:∃ w7,w7=w6.setCell ⟨g,3,none⟩ (.slice a6 (ln+1) c6):=⟨_,rfl⟩
     rw [← hw7] at hd5 hu5 ⊢
     have hu7:=HU3.out.trans hu5
     have kb7:=cell0 (HBD.out.upd hu7).1
     have c27:=hd5.cells.2.2.1
     have f27:=hd5.cells.2.2.2.2.2.2.2.2.2.2.2 2
     have HD5:=hid hd5
     have HU7:=hid hu7
     have HE:=hid (show partOf i fit n d={ ((d.setF i ⟨(d.file i).now++fit.take k,(d.file i).safe,(d.file i).loose⟩).setF i ⟨(d.file i).now++fit.take k,(d.file i).safe,(d.file i).loose++[⟨fit.take k,0⟩]⟩) with used:=wrap64 (d.used+(k:Int)) } by
      unfold partOf;rw [HQ.out,Dm.set_set]
      have hne0:fit.take k ≠ []:=fun e=>by have h1:=HQL.out;rw [e] at h1;have:=HK0.out;simp at h1;omega
      simp only [hne0,if_false]
      rw [HQL.out])
     clear hd5 hu5 hu7 hw7 s6 f6 kp6 kpW ho6 hg6 hat6 hlt hHeld
     go_wp2_with fail
     go_end0
     have hlg:=HD5.out.lg
     have ho8:Only ρ5 (·=1) w7 (w7.setCell ⟨gd,2,none⟩ (.int .i64 (wrap64 (d.used+(k:Int))))):=Only.setCell w7 gd 2 _ hlg
     refine ⟨rfl,{ L with ρ:=ρ5 },?_,HU7.out.trans (Upd.of_only ho8 (by omega) (Ext.refl _ _))⟩
     rw [HE.out]
     exact HD5.out.own1 ho8 (heap_setCell_same w7 gd 2 _ _ _ HD5.out.g) rfl rfl rfl rfl rfl rfl
end
end Go.Proofs.YtgkehahklccacaaGreatDoor
