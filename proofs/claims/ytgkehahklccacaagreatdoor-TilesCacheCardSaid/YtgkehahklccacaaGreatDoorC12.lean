import Derived.Test.YtgkehahklccacaaGreatDoorC10
import Derived.Test.YtgkehahklccacaaGreatDoorC11
namespace Go.Proofs.YtgkehahklccacaaGreatDoor
open Go Go.RowKit
open Go.Lib (hid)
set_option maxRecDepth 100000
set_option maxHeartbeats 1000000
set_option linter.unusedVariables false
set_option linter.unusedSimpArgs false
section
open Go.Maps Go.WideMaps
theorem begin_cut (w:World) (L:Lay) (gd:Nat) (d:Dm) (h:DAt w L gd d) (ha:d.acts < 4611686018427387904) (x0 x1 x2:Value) (Wh:Dm→Dm) (Pt:Int→Dm→Dm)
 (hW:∀ w2,Upd L.ρ L.ρ w w2→DAt w2 L gd { d with acts:=d.acts+1 }→Calls Tryz.prog 98 #[x0,x1,x2] w2 fun e w'=>e=.returned (.tuple #[])∧∃ L',DAt w' L' gd (Wh { d with acts:=d.acts+1 })∧Upd L.ρ L'.ρ w2 w')
 (hP:∀ w2 n,Upd L.ρ L.ρ w w2→DAt w2 L gd { d with acts:=d.acts+1 }→Calls Tryz.prog 97 #[.int .i64 n] w2 fun e w'=>e=.returned (.tuple #[])∧∃ L',DAt w' L' gd (Pt n { d with acts:=d.acts+1 })∧Upd L.ρ L'.ρ w2 w') :
 Calls Tryz.prog 94 #[.pointer (some ⟨gd,0,none⟩),.func (.func 98) #[] #[x0,x1,x2],.func (.func 97) #[] #[]] w fun e w'=>e=.returned (.int .i64 (d.begin Wh Pt).2)∧∃ L',DAt w' L' gd (d.begin Wh Pt).1∧Upd L.ρ L'.ρ w w':=by
 have hc0:=h.cells.1
 have hlt:=h.lt
 have HP0:=hid (planned_any w L gd d h d.acts)
 have HD:=hid h
 have HW:=hid hW
 have HP:=hid hP
 have e9:((d.acts+1:Nat):Int)=(d.acts:Int)+1:=by omega
 clear h hW hP
 go_enter Tryz.func94,Tryz.ntmps94
 go_upto_region 2 with (go_at_call 156;(refine HP0.out.mono ?_);rintro e w1 ⟨rfl,hb1⟩;have HB1:=hid hb1;clear hb1 hc0)
 obtain ⟨st,kd,pt,hf⟩:∃ st kd pt,(⟨st,kd,pt⟩:Flt)=d.planned d.acts:=⟨_,_,_,rfl⟩
 have HF:=hid hf
 rw [← hf]
 obtain ⟨w2,hw2⟩:∃ w2,w2=w1.alloc (.cells #[.int .i64 st,.int .i64 kd,.int .i64 pt] 35):=⟨_,rfl⟩
 have z1:=HB1.out.size
 have hb2:Below w.heap.size w w2:=by rw [hw2];exact HB1.out.alloc z1 _
 have g2:w2.heap[w1.heap.size]?=some (.cells #[.int .i64 st,.int .i64 kd,.int .i64 pt] 35):=by rw [hw2];exact heap_alloc_new w1 _
 dsimp only
 rw [← hw2]
 clear hw2 hf
 have hd2:=HD.out.below hb2
 have c0:=hd2.cells.1
 have f0:=hd2.cells.2.2.2.2.2.2.2.2.2.2.2 0
 have hne:w1.heap.size ≠ gd:=by omega
 have k1:∀ x,(w2.setCell ⟨gd,0,none⟩ x).cell? ⟨w1.heap.size,1,none⟩=some (.int .i64 kd):=fun x=>(World.cell?_of_block (heap_setCell_other w2 ⟨gd,0,none⟩ w1.heap.size x hne)).trans (by rw [cell_of_row _ _ _ _ _ _ g2];rfl)
 have k2:∀ x,(w2.setCell ⟨gd,0,none⟩ x).cell? ⟨w1.heap.size,2,none⟩=some (.int .i64 pt):=fun x=>(World.cell?_of_block (heap_setCell_other w2 ⟨gd,0,none⟩ w1.heap.size x hne)).trans (by rw [cell_of_row _ _ _ _ _ _ g2];rfl)
 have ho3:Only L.ρ (·=1) w (w2.setCell ⟨gd,0,none⟩ (.int .i64 ((d.acts:Int)+1))):=(Only.of_below hb2).trans (Only.setCell w2 gd 0 _ HD.out.lg)
 have hd3:DAt (w2.setCell ⟨gd,0,none⟩ (.int .i64 ((d.acts:Int)+1))) L gd { d with acts:=d.acts+1 }:=HD.out.own1 ho3 (by have h9:=heap_setCell_same w2 gd 0 _ _ (.int .i64 ((d.acts:Int)+1)) hd2.g;unfold boxDisk;rw [e9];exact h9) rfl rfl rfl rfl rfl rfl
 have hu3:Upd L.ρ L.ρ w (w2.setCell ⟨gd,0,none⟩ (.int .i64 ((d.acts:Int)+1))):=Upd.of_only ho3 (by omega) (Ext.refl _ _)
 have HWC:=hid (HW.out _ hu3 hd3)
 have HPC:=hid (HP.out _ pt hu3 hd3)
 have HU3:=hid hu3
 have HD3:=hid hd3
 clear e9 ho3 hd3 hu3 hd2 g2 hb2 HB1 HP0 HW HP HD
 have hcase:kd=1∨kd=2∨kd=3∨kd=4∨kd=5∨kd=6∨((kd == 1)=false∧(kd == 2)=false∧(kd == 3)=false∧(kd == 4)=false∧(kd == 5)=false∧(kd == 6)=false):=by simp;omega
 rcases hcase with rfl | rfl | rfl | rfl | rfl | rfl | ⟨e1,e2,e3,e4,e5,e6⟩
 · go_wp2_with fail
   go_ret
   have hE:d.begin Wh Pt=({ d with acts:=d.acts+1 },30):=by unfold Dm.begin;rw [← HF.out];simp
   exact ⟨by rw [hE];rfl,L,by rw [hE];exact HD3.out,HU3.out⟩
 · go_wp2_with (first | (go_at_call 98;refine HWC.out.mono ?_;clear k1 k2 c0 f0;rintro e w4 ⟨rfl,L4,hd4,hu4⟩;have c5:=hd4.cells.2.2.2.2.2.1;have f5:=hd4.cells.2.2.2.2.2.2.2.2.2.2.2 5;have HD4:=hid hd4;have HU4:=hid hu4;clear hd4 hu4))
   go_ret
   have hE:d.begin Wh Pt=(Wh { d with acts:=d.acts+1 },30):=by unfold Dm.begin;rw [← HF.out];simp
   exact ⟨by rw [hE];rfl,L4,by rw [hE];exact HD4.out,HU3.out.trans HU4.out⟩
 · go_wp2_with (first | (go_at_call 97;refine HPC.out.mono ?_;clear k1 k2 c0 f0;rintro e w4 ⟨rfl,L4,hd4,hu4⟩;have c5:=hd4.cells.2.2.2.2.2.1;have f5:=hd4.cells.2.2.2.2.2.2.2.2.2.2.2 5;have HD4:=hid hd4;have HU4:=hid hu4;clear hd4 hu4))
   go_ret
   have hE:d.begin Wh Pt=(Pt pt { d with acts:=d.acts+1 },30):=by unfold Dm.begin;rw [← HF.out];simp
   exact ⟨by rw [hE];rfl,L4,by rw [hE];exact HD4.out,HU3.out.trans HU4.out⟩
 · go_wp2_with (first | (go_at_call 97;refine HPC.out.mono ?_;clear k1 k2 c0 f0;rintro e w4 ⟨rfl,L4,hd4,hu4⟩;have c5:=hd4.cells.2.2.2.2.2.1;have f5:=hd4.cells.2.2.2.2.2.2.2.2.2.2.2 5;have HD4:=hid hd4;have HU4:=hid hu4;clear hd4 hu4))
   go_ret
   have hE:d.begin Wh Pt=(Pt pt { d with acts:=d.acts+1 },31):=by unfold Dm.begin;rw [← HF.out];simp
   exact ⟨by rw [hE];rfl,L4,by rw [hE];exact HD4.out,HU3.out.trans HU4.out⟩
 · go_wp2_with (first | (go_at_call 97;refine HPC.out.mono ?_;clear k1 k2 c0 f0;rintro e w4 ⟨rfl,L4,hd4,hu4⟩;have c5:=hd4.cells.2.2.2.2.2.1;have f5:=hd4.cells.2.2.2.2.2.2.2.2.2.2.2 5;have HD4:=hid hd4;have HU4:=hid hu4;clear hd4 hu4))
   go_ret
   have hE:d.begin Wh Pt=({ Pt pt { d with acts:=d.acts+1 } with power:=false },2):=by unfold Dm.begin;rw [← HF.out];simp
   have ho5:Only L4.ρ (·=1) w4 (w4.setCell ⟨gd,5,none⟩ (.bool false)):=Only.setCell w4 gd 5 _ HD4.out.lg
   exact ⟨by rw [hE];rfl,L4,by rw [hE];exact HD4.out.own1 ho5 (heap_setCell_same w4 gd 5 _ _ _ HD4.out.g) rfl rfl rfl rfl rfl rfl,(HU3.out.trans HU4.out).trans (Upd.of_only ho5 (by omega) (Ext.refl _ _))⟩
 · go_wp2_with (first | (go_at_call 98;refine HWC.out.mono ?_;clear k1 k2 c0 f0;rintro e w4 ⟨rfl,L4,hd4,hu4⟩;have c5:=hd4.cells.2.2.2.2.2.1;have f5:=hd4.cells.2.2.2.2.2.2.2.2.2.2.2 5;have HD4:=hid hd4;have HU4:=hid hu4;clear hd4 hu4))
   go_ret
   have hE:d.begin Wh Pt=({ Wh { d with acts:=d.acts+1 } with power:=false },2):=by unfold Dm.begin;rw [← HF.out];simp
   have ho5:Only L4.ρ (·=1) w4 (w4.setCell ⟨gd,5,none⟩ (.bool false)):=Only.setCell w4 gd 5 _ HD4.out.lg
   exact ⟨by rw [hE];rfl,L4,by rw [hE];exact HD4.out.own1 ho5 (heap_setCell_same w4 gd 5 _ _ _ HD4.out.g) rfl rfl rfl rfl rfl rfl,(HU3.out.trans HU4.out).trans (Upd.of_only ho5 (by omega) (Ext.refl _ _))⟩
 · go_wp2_with (first | (go_at_call 98;refine HWC.out.mono ?_;clear k1 k2 c0 f0;rintro e w4 ⟨rfl,L4,hd4,hu4⟩;have c5:=hd4.cells.2.2.2.2.2.1;have f5:=hd4.cells.2.2.2.2.2.2.2.2.2.2.2 5;have HD4:=hid hd4;have HU4:=hid hu4;clear hd4 hu4))
   go_ret
   have hE:d.begin Wh Pt=(Wh { d with acts:=d.acts+1 },0):=by unfold Dm.begin;rw [← HF.out];simp at e1 e2 e3 e4 e5 e6;simp [e1,e2,e3,e4,e5,e6]
   exact ⟨by rw [hE];rfl,L4,by rw [hE];exact HD4.out,HU3.out.trans HU4.out⟩
end
section
open Go.Maps Go.WideMaps
theorem begin_sync (w:World) (L:Lay) (gd:Nat) (d:Dm) (h:DAt w L gd d) (ha:d.acts < 4611686018427387904) (x0:Value) (Wh:Dm→Dm) (Pt:Int→Dm→Dm)
 (hW:∀ w2,Upd L.ρ L.ρ w w2→DAt w2 L gd { d with acts:=d.acts+1 }→Calls Tryz.prog 166 #[x0] w2 fun e w'=>e=.returned (.tuple #[])∧∃ L',DAt w' L' gd (Wh { d with acts:=d.acts+1 })∧Upd L.ρ L'.ρ w2 w')
 (hP:∀ w2 n,Upd L.ρ L.ρ w w2→DAt w2 L gd { d with acts:=d.acts+1 }→Calls Tryz.prog 97 #[.int .i64 n] w2 fun e w'=>e=.returned (.tuple #[])∧∃ L',DAt w' L' gd (Pt n { d with acts:=d.acts+1 })∧Upd L.ρ L'.ρ w2 w') :
 Calls Tryz.prog 94 #[.pointer (some ⟨gd,0,none⟩),.func (.func 166) #[] #[x0],.func (.func 97) #[] #[]] w fun e w'=>e=.returned (.int .i64 (d.begin Wh Pt).2)∧∃ L',DAt w' L' gd (d.begin Wh Pt).1∧Upd L.ρ L'.ρ w w':=by
 have hc0:=h.cells.1
 have hlt:=h.lt
 have HP0:=hid (planned_any w L gd d h d.acts)
 have HD:=hid h
 have HW:=hid hW
 have HP:=hid hP
 have e9:((d.acts+1:Nat):Int)=(d.acts:Int)+1:=by omega
 clear h hW hP
 go_enter Tryz.func94,Tryz.ntmps94
 go_upto_region 2 with (go_at_call 156;(refine HP0.out.mono ?_);rintro e w1 ⟨rfl,hb1⟩;have HB1:=hid hb1;clear hb1 hc0)
 obtain ⟨st,kd,pt,hf⟩:∃ st kd pt,(⟨st,kd,pt⟩:Flt)=d.planned d.acts:=⟨_,_,_,rfl⟩
 have HF:=hid hf
 rw [← hf]
 obtain ⟨w2,hw2⟩:∃ w2,w2=w1.alloc (.cells #[.int .i64 st,.int .i64 kd,.int .i64 pt] 35):=⟨_,rfl⟩
 have z1:=HB1.out.size
 have hb2:Below w.heap.size w w2:=by rw [hw2];exact HB1.out.alloc z1 _
 have g2:w2.heap[w1.heap.size]?=some (.cells #[.int .i64 st,.int .i64 kd,.int .i64 pt] 35):=by rw [hw2];exact heap_alloc_new w1 _
 dsimp only
 rw [← hw2]
 clear hw2 hf
 have hd2:=HD.out.below hb2
 have c0:=hd2.cells.1
 have f0:=hd2.cells.2.2.2.2.2.2.2.2.2.2.2 0
 have hne:w1.heap.size ≠ gd:=by omega
 have k1:∀ x,(w2.setCell ⟨gd,0,none⟩ x).cell? ⟨w1.heap.size,1,none⟩=some (.int .i64 kd):=fun x=>(World.cell?_of_block (heap_setCell_other w2 ⟨gd,0,none⟩ w1.heap.size x hne)).trans (by rw [cell_of_row _ _ _ _ _ _ g2];rfl)
 have k2:∀ x,(w2.setCell ⟨gd,0,none⟩ x).cell? ⟨w1.heap.size,2,none⟩=some (.int .i64 pt):=fun x=>(World.cell?_of_block (heap_setCell_other w2 ⟨gd,0,none⟩ w1.heap.size x hne)).trans (by rw [cell_of_row _ _ _ _ _ _ g2];rfl)
 have ho3:Only L.ρ (·=1) w (w2.setCell ⟨gd,0,none⟩ (.int .i64 ((d.acts:Int)+1))):=(Only.of_below hb2).trans (Only.setCell w2 gd 0 _ HD.out.lg)
 have hd3:DAt (w2.setCell ⟨gd,0,none⟩ (.int .i64 ((d.acts:Int)+1))) L gd { d with acts:=d.acts+1 }:=HD.out.own1 ho3 (by have h9:=heap_setCell_same w2 gd 0 _ _ (.int .i64 ((d.acts:Int)+1)) hd2.g;unfold boxDisk;rw [e9];exact h9) rfl rfl rfl rfl rfl rfl
 have hu3:Upd L.ρ L.ρ w (w2.setCell ⟨gd,0,none⟩ (.int .i64 ((d.acts:Int)+1))):=Upd.of_only ho3 (by omega) (Ext.refl _ _)
 have HWC:=hid (HW.out _ hu3 hd3)
 have HPC:=hid (HP.out _ pt hu3 hd3)
 have HU3:=hid hu3
 have HD3:=hid hd3
 clear e9 ho3 hd3 hu3 hd2 g2 hb2 HB1 HP0 HW HP HD
 have hcase:kd=1∨kd=2∨kd=3∨kd=4∨kd=5∨kd=6∨((kd == 1)=false∧(kd == 2)=false∧(kd == 3)=false∧(kd == 4)=false∧(kd == 5)=false∧(kd == 6)=false):=by simp;omega
 rcases hcase with rfl | rfl | rfl | rfl | rfl | rfl | ⟨e1,e2,e3,e4,e5,e6⟩
 · go_wp2_with fail
   go_ret
   have hE:d.begin Wh Pt=({ d with acts:=d.acts+1 },30):=by unfold Dm.begin;rw [← HF.out];simp
   exact ⟨by rw [hE];rfl,L,by rw [hE];exact HD3.out,HU3.out⟩
 · go_wp2_with (first | (go_at_call 166;refine HWC.out.mono ?_;clear k1 k2 c0 f0;rintro e w4 ⟨rfl,L4,hd4,hu4⟩;have c5:=hd4.cells.2.2.2.2.2.1;have f5:=hd4.cells.2.2.2.2.2.2.2.2.2.2.2 5;have HD4:=hid hd4;have HU4:=hid hu4;clear hd4 hu4))
   go_ret
   have hE:d.begin Wh Pt=(Wh { d with acts:=d.acts+1 },30):=by unfold Dm.begin;rw [← HF.out];simp
   exact ⟨by rw [hE];rfl,L4,by rw [hE];exact HD4.out,HU3.out.trans HU4.out⟩
 · go_wp2_with (first | (go_at_call 97;refine HPC.out.mono ?_;clear k1 k2 c0 f0;rintro e w4 ⟨rfl,L4,hd4,hu4⟩;have c5:=hd4.cells.2.2.2.2.2.1;have f5:=hd4.cells.2.2.2.2.2.2.2.2.2.2.2 5;have HD4:=hid hd4;have HU4:=hid hu4;clear hd4 hu4))
   go_ret
   have hE:d.begin Wh Pt=(Pt pt { d with acts:=d.acts+1 },30):=by unfold Dm.begin;rw [← HF.out];simp
   exact ⟨by rw [hE];rfl,L4,by rw [hE];exact HD4.out,HU3.out.trans HU4.out⟩
 · go_wp2_with (first | (go_at_call 97;refine HPC.out.mono ?_;clear k1 k2 c0 f0;rintro e w4 ⟨rfl,L4,hd4,hu4⟩;have c5:=hd4.cells.2.2.2.2.2.1;have f5:=hd4.cells.2.2.2.2.2.2.2.2.2.2.2 5;have HD4:=hid hd4;have HU4:=hid hu4;clear hd4 hu4))
   go_ret
   have hE:d.begin Wh Pt=(Pt pt { d with acts:=d.acts+1 },31):=by unfold Dm.begin;rw [← HF.out];simp
   exact ⟨by rw [hE];rfl,L4,by rw [hE];exact HD4.out,HU3.out.trans HU4.out⟩
 · go_wp2_with (first | (go_at_call 97;refine HPC.out.mono ?_;clear k1 k2 c0 f0;rintro e w4 ⟨rfl,L4,hd4,hu4⟩;have c5:=hd4.cells.2.2.2.2.2.1;have f5:=hd4.cells.2.2.2.2.2.2.2.2.2.2.2 5;have HD4:=hid hd4;have HU4:=hid hu4;clear hd4 hu4))
   go_ret
   have hE:d.begin Wh Pt=({ Pt pt { d with acts:=d.acts+1 } with power:=false },2):=by unfold Dm.begin;rw [← HF.out];simp
   have ho5:Only L4.ρ (·=1) w4 (w4.setCell ⟨gd,5,none⟩ (.bool false)):=Only.setCell w4 gd 5 _ HD4.out.lg
   exact ⟨by rw [hE];rfl,L4,by rw [hE];exact HD4.out.own1 ho5 (heap_setCell_same w4 gd 5 _ _ _ HD4.out.g) rfl rfl rfl rfl rfl rfl,(HU3.out.trans HU4.out).trans (Upd.of_only ho5 (by omega) (Ext.refl _ _))⟩
 · go_wp2_with (first | (go_at_call 166;refine HWC.out.mono ?_;clear k1 k2 c0 f0;rintro e w4 ⟨rfl,L4,hd4,hu4⟩;have c5:=hd4.cells.2.2.2.2.2.1;have f5:=hd4.cells.2.2.2.2.2.2.2.2.2.2.2 5;have HD4:=hid hd4;have HU4:=hid hu4;clear hd4 hu4))
   go_ret
   have hE:d.begin Wh Pt=({ Wh { d with acts:=d.acts+1 } with power:=false },2):=by unfold Dm.begin;rw [← HF.out];simp
   have ho5:Only L4.ρ (·=1) w4 (w4.setCell ⟨gd,5,none⟩ (.bool false)):=Only.setCell w4 gd 5 _ HD4.out.lg
   exact ⟨by rw [hE];rfl,L4,by rw [hE];exact HD4.out.own1 ho5 (heap_setCell_same w4 gd 5 _ _ _ HD4.out.g) rfl rfl rfl rfl rfl rfl,(HU3.out.trans HU4.out).trans (Upd.of_only ho5 (by omega) (Ext.refl _ _))⟩
 · go_wp2_with (first | (go_at_call 166;refine HWC.out.mono ?_;clear k1 k2 c0 f0;rintro e w4 ⟨rfl,L4,hd4,hu4⟩;have c5:=hd4.cells.2.2.2.2.2.1;have f5:=hd4.cells.2.2.2.2.2.2.2.2.2.2.2 5;have HD4:=hid hd4;have HU4:=hid hu4;clear hd4 hu4))
   go_ret
   have hE:d.begin Wh Pt=(Wh { d with acts:=d.acts+1 },0):=by unfold Dm.begin;rw [← HF.out];simp at e1 e2 e3 e4 e5 e6;simp [e1,e2,e3,e4,e5,e6]
   exact ⟨by rw [hE];rfl,L4,by rw [hE];exact HD4.out,HU3.out.trans HU4.out⟩
end
section
open Go.Maps Go.WideMaps
theorem sl50:Sl Tryz.prog 53 5 (.int .u8 0) 1 1:=⟨Tryz.underlying53,by kernel_rfl,rfl,by decide⟩
theorem eqn50 (c:Nat) (w:World):(binOp .eql 53 (.slice none 0 c) (.slice none 0 0)).run Tryz.prog w=.ok (.bool true) w:=by kernel_rfl
theorem eqs50 (ad:Addr) (n c:Nat) (w:World):(binOp .eql 53 (.slice (some ad) n c) (.slice none 0 0)).run Tryz.prog w=.ok (.bool false) w:=by kernel_rfl
theorem bclone_any (w:World) (a:Option Addr) (n c:Nat) (l:List UInt8) (h:R8 w a n c l) (hn:n≤140737488355328) :
 Calls Tryz.prog 54 #[.slice a n c] w fun e w'=>(∃ a' c',e=.returned (.slice a' n c')∧w'.ownsRow w.heap.size 5 1 (.slice a' n c') n (l.map b8))∧Below w.heap.size w w':=by
 cases a with
 | none =>
   have hl:l=[]:=by
    cases l with
    | nil=>rfl
    | cons x r=>obtain ⟨b,off,e,-⟩:=h.2.2.2 0 (by simp);cases e
   subst hl
   obtain rfl:n=0:=h.1.symm
   have hq:=eqn50 c w
   go_enter Tryz.func54,Tryz.ntmps54
   go_wp2_with fail
   go_ret
   exact ⟨⟨none,0,rfl,by simp,.inl ⟨rfl,rfl⟩⟩,Below.refl _ _⟩
 | some ad =>
   have hq:=eqs50 ad n c w
   have hb1:Below w.heap.size w (w.alloc (.cells #[] 5)):=bel1 _ _
   have HR:=hid (h.below hb1)
   have HO:=hid (show (w.alloc (.cells #[] 5)).ownsRow w.heap.size 5 1 (.slice (some ⟨w.heap.size,0,none⟩) 0 0) 0 [] from ⟨rfl,.inr ⟨w.heap.size,0,#[],rfl,Nat.le_refl _,heap_alloc_new w _,Nat.le_refl _,by simp [maxLen],rfl,rfl⟩⟩)
   have HB:=hid hb1
   clear h hb1
   go_enter Tryz.func54,Tryz.ntmps54
   go_wp2_with (at_builtin;refine L_append8 rfl (.tmp 5) (.tmp 6) 53 (by rfl) sl50 w.heap.size (.slice (some ⟨w.heap.size,0,none⟩) 0 0) 0 [] rfl HO.out (some ad) n c l rfl HR.out (by omega) (by unfold maxLen;omega) (by simp) ?_;intro a4 c4 w4 ho4 hg4 hat4)
   go_ret
   rw [Nat.zero_add] at ho4
   simp only [Nat.zero_add]
   exact ⟨⟨a4,c4,rfl,ho4⟩,HB.out.grown hg4 (by simp) (fun k hk=>by cases hk;exact Nat.le_refl _)⟩
end
section
open Go.Maps Go.WideMaps
theorem ask_fst {d:Dm} {s:Nm} {r:Option Nat} {y:Int} (h:d.ask s=(r,y)) (hy:y ≠ 0):r=none:=by
 unfold Dm.ask at h
 split at h
 · cases h;rfl
 · split at h
   · cases h;rfl
   · split at h
     · cases h;rfl
     · cases h;exact absurd rfl hy
theorem ask_zero {d:Dm} {s:Nm} {r:Option Nat} (h:d.ask s=(r,0)):∃ i,r=some i∧lk d.names s=some i∧legalB (bs s)=true:=by
 unfold Dm.ask at h
 split at h
 · simp at h
 · split at h
   · simp at h
   · rename_i h2
     split at h
     · simp at h
     · rename_i i hk
       cases h
       exact ⟨i,rfl,hk,by simpa using h2⟩
theorem DAt.new {w:World} {L:Lay} {gd:Nat} {d:Dm} (h:DAt w L gd d):∀ g,w.heap.size≤g→L.ρ g=0:=fun g hg=>by
 rcases Nat.eq_zero_or_pos (L.ρ g) with h9 | h9
 · exact h9
 · have:=h.dom g (by omega);omega
theorem keepc {w3 w4:World} (hb:Below w3.heap.size w3 w4) {b o:Nat} {v:Value} (h:w3.cell? ⟨b,o,none⟩=some v):w4.cell? ⟨b,o,none⟩=some v :=
 (World.cell?_of_block (hb.block b (World.block_lt_of_cell? w3 _ h))).trans h
theorem keeps {w:World} {b o B o':Nat} {v u:Value} (h:w.cell? ⟨b,o,none⟩=some v) (hne:b ≠ B):(w.setCell ⟨B,o',none⟩ u).cell? ⟨b,o,none⟩=some v :=
 (World.cell?_of_block (heap_setCell_other w ⟨B,o',none⟩ b u hne)).trans h
theorem put_new {w w':World} {ρ:Nat→Nat} (dom:∀ k,ρ k ≠ 0→k < w.heap.size) {v:Value} {e s n:Nat} {xs:List Value} (ho:w'.ownsRow w.heap.size e s v n xs) (hz:w.heap.size≤w'.heap.size) (r:Nat) :
 ∃ ρ',Ext w.heap.size ρ ρ'∧(∀ k,ρ' k ≠ 0→k < w'.heap.size)∧(∀ k,v.ownBlock=some k→ρ' k=r):=by
 cases hv:v.ownBlock with
 | none=>exact ⟨ρ,Ext.refl _ _,fun k hk=>Nat.lt_of_lt_of_le (dom k hk) hz,fun k hk=>by cases hk⟩
 | some b =>
   obtain ⟨h1,h2⟩:=ho.lt b hv
   have h0:ρ b=0:=by
    rcases Nat.eq_zero_or_pos (ρ b) with h | h
    · exact h
    · have:=dom b (by omega);omega
   refine ⟨put1 ρ b r,Ext.put r h0 h1,fun k hk=>?_,fun k hk=>by cases hk;simp [put1]⟩
   unfold put1 at hk
   split at hk
   · rename_i e';rw [e'];exact h2
   · exact Nat.lt_of_lt_of_le (dom k hk) hz
abbrev boxP (g:Nat):Obj:=.cells #[.pointer (some ⟨g,0,none⟩)] 109
theorem DAt.at {w:World} {L:Lay} {gd:Nat} {d:Dm} (h:DAt w L gd d) {i:Nat} (hi:i < d.fs.length):∃ vn vs vl,FAt w L.ρ i (L.fa i) (d.file i) vn vs vl:=by
 have hf:=List.getElem?_eq_getElem hi
 obtain ⟨vn,vs,vl,hx⟩:=h.fs i _ hf
 refine ⟨vn,vs,vl,?_⟩
 unfold Dm.file;rw [hf];exact hx
theorem own_base {w:World} {B e s n:Nat} {v:Value} {xs:List Value} (h:w.ownsRow B e s v n xs):w.ownsRow 0 e s v n xs:=owns_mono h (Nat.zero_le _)
theorem sync1_any (w:World) (L:Lay) (gd:Nat) (d:Dm) (h:DAt w L gd d) (i:Nat) (hi:i < d.fs.length) (hl:(d.file i).now.length≤140737488355328) (bp:Nat) (hbp:Cap w L.ρ bp (boxP (L.fa i))) :
 Calls Tryz.prog 166 #[.pointer (some ⟨bp,0,none⟩)] w fun e w'=>e=.returned (.tuple #[])∧∃ L',DAt w' L' gd (d.setF i ⟨(d.file i).now,(d.file i).now,[]⟩)∧Upd L.ρ L'.ρ w w':=by
 obtain ⟨vn,vs,vl,hf⟩:=h.at hi
 obtain ⟨av,cv,hvn,-⟩:=owns_shape hf.now.1
 obtain ⟨nv,hnv⟩:∃ nv,nv=(d.file i).now.length:=⟨_,rfl⟩
 have hr:R8 w av nv cv (d.file i).now:=by have h9:=hf.now.1;rw [hvn,← hnv] at h9;exact R8.of_owns h9 (by omega)
 rw [← hnv] at hvn hl
 subst hvn
 obtain ⟨g,hg⟩:∃ g,g=L.fa i:=⟨_,rfl⟩
 rw [← hg] at hbp hf
 have k0:=cell0 hbp.1
 have n1:w.cell? ⟨g,1,none⟩=some (.slice av nv cv):=by rw [cell_of_row _ _ _ _ _ _ hf.box];rfl
 have hgl:g < w.heap.size:=(Array.getElem?_eq_some_iff.1 hf.box).1
 have hne:bp ≠ g:=fun e=>by have h1:=hbp.2;have h2:=hf.lg;rw [e,h2] at h1;omega
 have HD:=hid h
 have HF:=hid hf
 have HBP:=hid hbp
 have HCL:=hid (bclone_any w.drew av nv cv (d.file i).now (hr.drew) hl)
 have HG:=hid hg
 have HNV:=hid hnv
 clear h hbp hf hr hg hnv hl
 go_enter Tryz.func166,Tryz.ntmps166
 go_wp2_with fail
 go_region_held3 (fun w'=>w'.cell? ⟨bp,0,none⟩=some (.pointer (some ⟨g,0,none⟩))∧w'.cell? ⟨g,1,none⟩=some (.slice av nv cv))
  (first | exact ⟨k0,n1⟩ | exact ⟨keepc hb k0,keepc hb n1⟩ | exact ⟨keeps (keepc hb k0) hne,(World.cell?_setCell_other _ _ _ _ (by simp)).trans (keepc hb n1)⟩)
  (first | (go_at_call 54;refine HCL.out.mono ?_;rintro e w4 ⟨⟨a4,c4,rfl,hv⟩,hb⟩;have hx:=(hb.block g hgl).trans HF.out.box;have s2:=cell_of_row _ _ 2 _ _ _ hx;have f2:=frozen_of_row w4 g 2 _ _ hx;have HX:=hid hx;simp only [List.getElem?_toArray,List.getElem?_cons_zero,List.getElem?_cons_succ] at s2;clear hx))
 obtain ⟨w5,hw5⟩:∃ w5,w5=w4.setCell ⟨g,2,none⟩ (.slice a4 nv c4):=⟨_,rfl⟩
 have g5:w5.heap[g]?=some (boxFile i (.slice av nv cv) (.slice a4 nv c4) vl):=by rw [hw5];exact heap_setCell_same w4 g 2 _ _ _ HX.out
 have m0:w5.cell? ⟨bp,0,none⟩=some (.pointer (some ⟨g,0,none⟩)):=by rw [hw5];exact keeps (keepc hb k0) hne
 have s3:=cell_of_row _ _ 3 _ _ _ g5
 have f3:=frozen_of_row w5 g 3 _ _ g5
 simp only [List.getElem?_toArray,List.getElem?_cons_zero,List.getElem?_cons_succ] at s3
 have HG5:=hid g5
 have HV:=hid hv
 have HB:=hid hb
 have HW5:=hid hw5
 rw [← hw5]
 clear hw5 g5 hv hb s2 f2 k0 n1 HX
 go_wp2_with fail
 go_end0
 have hb4:Below w.heap.size w w4:=((Below.refl w.heap.size w).drew).trans HB.out
 have hz4:w.heap.size≤w4.heap.size:=hb4.size
 have ho4:Only L.ρ (fun r=>7+4 * i≤r∧r≤10+4 * i) w (w5.setCell ⟨g,3,none⟩ (.slice none 0 0)):=by
  have hgr:7+4 * i≤L.ρ g∧L.ρ g≤10+4 * i:=by rw [HF.out.lg];omega
  rw [HW5.out]
  exact ((Only.of_below hb4).trans (Only.setCell w4 g 2 _ hgr)).trans (Only.setCell _ g 3 _ hgr)
 obtain ⟨ρ',he,hd,hl⟩:=put_new (w:=w) (w':=w5.setCell ⟨g,3,none⟩ (.slice none 0 0)) HD.out.dom (v:=.slice a4 nv c4) (show (w5.setCell ⟨g,3,none⟩ (.slice none 0 0)).ownsRow w.heap.size 5 1 (.slice a4 nv c4) nv ((d.file i).now.map b8) from own_same HV.out (fun k hk=>by
  have hkk:=HV.out.lt k hk
  have hkg:k ≠ g:=by have:w.drew.heap.size=w.heap.size:=rfl;omega
  rw [HW5.out]
  exact (heap_setCell_other _ ⟨g,3,none⟩ k _ hkg).trans (heap_setCell_other w4 ⟨g,2,none⟩ k _ hkg))) ho4.size (9+4 * i)
 have hO:(w5.setCell ⟨g,3,none⟩ (.slice none 0 0)).ownsRow 0 5 1 (.slice a4 nv c4) nv ((d.file i).now.map b8):=own_base (own_same HV.out (fun k hk=>by
  have hkk:=HV.out.lt k hk
  have hkg:k ≠ g:=by have:w.drew.heap.size=w.heap.size:=rfl;omega
  rw [HW5.out]
  exact (heap_setCell_other _ ⟨g,3,none⟩ k _ hkg).trans (heap_setCell_other w4 ⟨g,2,none⟩ k _ hkg)))
 refine ⟨rfl,_,HD.out.file1 hi ho4 he hd (f:=⟨(d.file i).now,(d.file i).now,[]⟩) (vn:=.slice av nv cv) (vs:=.slice a4 nv c4) (vl:=.slice none 0 0) ?_,Upd.of_only ho4 (by omega) he⟩
 rw [← HG.out]
 refine ⟨heap_setCell_same w5 g 3 _ _ _ HG5.out,(he.same g (by rw [HF.out.lg];omega)).trans HF.out.lg,?_,⟨by rw [← HNV.out];exact hO,hl⟩,RunsAt.nil _ _ _⟩
 have hnow:=HF.out.now
 refine hnow.keep (fun k hk=>?_) (fun k hk=>(he.same k (by omega)).trans hk)
 have hkl:k < w.heap.size:=HD.out.dom k (by omega)
 have hkg:k ≠ g:=fun e=>by rw [e,HF.out.lg] at hk;omega
 rw [HW5.out]
 exact ((heap_setCell_other _ ⟨g,3,none⟩ k _ hkg).trans (heap_setCell_other w4 ⟨g,2,none⟩ k _ hkg)).trans (hb4.block k hkl)
abbrev syB:ByteArray:=⟨#[83,121,110,99]⟩
theorem sync_any (w:World) (L:Lay) (gd:Nat) (d:Dm) (h:DAt w L gd d) (hp:Pre d) (s:Nm) (hs:s.length≤maxLen) :
 Calls Tryz.prog 101 #[.pointer (some ⟨gd,0,none⟩),.string (bs s)] w fun e w'=>∃ L',DAt w' L' gd (d.sync s).1∧Upd L.ρ L'.ρ w w'∧∃ v,e=.returned v∧ToldV v w' L'.ρ syB (bs s) (d.sync s).2:=by
 have HA:=hid (ask1 (w.alloc (.cells #[.string (bs s)] 9)) L gd d (h.below (bel1 _ _)) w.heap.size 0 1 s hs (cell0 (heap_alloc_new w _)))
 have HD0:=hid h
 have HP:=hid hp
 clear h hp
 go_enter Tryz.func101,Tryz.ntmps101
 go_wp2_with fail
 with_reducible refine HA.out.mono ?_
 rintro e w3 ⟨rfl,hb3⟩
 have hb13:Below w.heap.size w w3:=(bel1 w _).trans (hb3.mono (by simp))
 have HD3:=hid (HD0.out.below hb13)
 have HU3:=hid (Upd.of_below (ρ:=L.ρ) hb13)
 clear hb13 hb3 HA HD0
 obtain ⟨r,why,hask⟩:∃ r why,d.ask s=(r,why):=⟨_,_,rfl⟩
 rw [hask]
 dsimp only
 cases e0:(why == 0)
 · have hr:r=none:=ask_fst hask (by simpa using e0)
   subst hr
   have HE:=hid (show d.sync s=(d,why) by unfold Dm.sync;rw [hask])
   have HD4:=hid (HD3.out.below (bel1 w3 (.cells #[.pointer none] 109)))
   have HU4:=hid (HU3.out.trans (Upd.of_below (ρ:=L.ρ) (bel1 w3 (.cells #[.pointer none] 109))))
   rw [show madeV L.fa none=.pointer none from rfl]
   clear hask
   go_wp2_with fail
   with_reducible refine (told2 (w3.alloc (.cells #[.pointer none] 109)) L.ρ HD4.out.dom syB (bs s) why).mono ?_
   rintro e w9 ⟨⟨v,rfl,hv⟩,hb9⟩
   have HV:=hid hv
   have HB9:=hid hb9
   clear hv hb9
   go_wp2_with fail
   go_ret
   exact ⟨L,by rw [HE.out];exact HD4.out.below HB9.out,HU4.out.trans (Upd.of_below HB9.out),v,rfl,by rw [HE.out];exact HV.out⟩
 obtain rfl:why=0:=by simpa using e0
 clear e0
 obtain ⟨i,rfl,hk,hl⟩:=ask_zero hask
 have hi:i < d.fs.length:=HP.out.refs.nm s i hk
 have HE:=hid (show d.sync s=d.begin (fun e=>e.setF i ⟨(e.file i).now,(e.file i).now,[]⟩) (fun _ e=>e) by unfold Dm.sync;rw [hask])
 rw [show madeV L.fa (some i)=.pointer (some ⟨L.fa i,0,none⟩) from rfl]
 have hb4:Below w3.heap.size w3 (w3.alloc (boxP (L.fa i))):=bel1 _ _
 have HD4:=hid (HD3.out.below hb4)
 have HU4:=hid (HU3.out.trans (Upd.of_below (ρ:=L.ρ) hb4))
 have hcap:Cap (w3.alloc (boxP (L.fa i))) L.ρ w3.heap.size (boxP (L.fa i)):=⟨heap_alloc_new w3 _,HD3.out.new _ (Nat.le_refl _)⟩
 have HBG:=hid (begin_sync (w3.alloc (boxP (L.fa i))) L gd d HD4.out (by have:=HP.out.acts;omega) (.pointer (some ⟨w3.heap.size,0,none⟩)) (fun e=>e.setF i ⟨(e.file i).now,(e.file i).now,[]⟩) (fun _ e=>e)
  (fun w2 hu2 hd2=>sync1_any w2 L gd _ hd2 i hi (by have:=(HP.out.file i).1;show (d.file i).now.length≤_;omega) w3.heap.size (hcap.upd hu2))
  (fun w2 n hu2 hd2=>(nothing_any w2 n).mono fun e w' ⟨he,hw⟩=>by subst hw;exact ⟨he,L,hd2,Upd.refl _ _⟩))
 clear hask hk hl hb4 hcap
 go_wp2_with (go_at_call 94;refine HBG.out.mono ?_;rintro e w4 ⟨rfl,L4,hd4,hu4⟩;have HD5:=hid hd4;have HU5:=hid (HU4.out.trans hu4);clear hd4 hu4)
 obtain ⟨y,hy⟩:∃ y,y=(d.begin (fun e=>e.setF i ⟨(e.file i).now,(e.file i).now,[]⟩) (fun _ e=>e)).2:=⟨_,rfl⟩
 rw [← hy]
 have HY:=hid hy
 clear hy
 with_reducible refine (told2 w4 L4.ρ HD5.out.dom syB (bs s) y).mono ?_
 rintro e w9 ⟨⟨v,rfl,hv⟩,hb9⟩
 have HV:=hid hv
 have HB9:=hid hb9
 clear hv hb9
 go_wp2_with fail
 go_ret
 exact ⟨L4,by rw [HE.out];exact HD5.out.below HB9.out,HU5.out.trans (Upd.of_below HB9.out),v,rfl,by rw [HE.out,← HY.out];exact HV.out⟩
end
section
open Go.Maps Go.WideMaps
theorem DAt.relab {w:World} {L:Lay} {gd:Nat} {d:Dm} (h:DAt w L gd d) {ρ':Nat→Nat} (hs:∀ k,L.ρ k ≠ 0→ρ' k=L.ρ k) (hd:∀ k,ρ' k ≠ 0→k < w.heap.size):DAt w { L with ρ:=ρ' } gd d:=by
 have hr:∀ r,r ≠ 0→∀ k,L.ρ k=r→ρ' k=r:=fun r hr k e=>(hs k (by omega)).trans e
 refine ⟨h.g,hr 1 (by omega) gd h.lg,hd,h.nm.keep (fun _ _=>rfl) (hr 2 (by omega)) (fun _ _ _=>rfl),h.sf.keep (fun _ _=>rfl) (hr 3 (by omega)) (fun _ _ _=>rfl),h.cl.keep (fun _ _=>rfl) (hr 4 (by omega)),h.ch.keep (fun _ _=>rfl) (hr 5 (by omega)),h.pl.keep (fun _ _=>rfl) (hr 6 (by omega)),fun i f hf=>?_⟩
 obtain ⟨vn,vs,vl,hx⟩:=h.fs i f hf
 exact ⟨vn,vs,vl,hx.keep (fun _ _=>rfl) hs⟩
theorem FAt.lt {w:World} {ρ:Nat→Nat} {i g:Nat} {f:Fl} {vn vs vl:Value} (h:FAt w ρ i g f vn vs vl):g < w.heap.size:=(Array.getElem?_eq_some_iff.1 h.box).1
theorem FAt.cells {w:World} {ρ:Nat→Nat} {i g:Nat} {f:Fl} {vn vs vl:Value} (h:FAt w ρ i g f vn vs vl):w.cell? ⟨g,0,none⟩=some (.int .i64 ((i:Int)+1))∧w.cell? ⟨g,1,none⟩=some vn∧w.cell? ⟨g,2,none⟩=some vs∧w.cell? ⟨g,3,none⟩=some vl∧∀ o,w.frozen? ⟨g,o,none⟩=false:=by
 have h:=h.box
 refine ⟨?_,?_,?_,?_,fun o=>frozen_of_row w g o _ _ h⟩ <;> (rw [cell_of_row _ _ _ _ _ _ h];rfl)
theorem DAt.nowTo {w w4:World} {L:Lay} {gd i:Nat} {d:Dm} (h:DAt w L gd d) (hi:i < d.fs.length) {vn vs vl:Value} (hf:FAt w L.ρ i (L.fa i) (d.file i) vn vs vl) (hg:w.grownBy w4 vn.ownBlock) {v':Value} {l:List UInt8} (ho:w4.ownsRow 0 5 1 v' l.length (l.map b8)) (hat:v'.ownBlock=vn.ownBlock∨v'.ownBlock=some w.heap.size) :
 ∃ ρ',DAt (w4.setCell ⟨L.fa i,1,none⟩ v') { L with ρ:=ρ' } gd (d.setF i ⟨l,(d.file i).safe,(d.file i).loose⟩)∧Upd L.ρ ρ' w (w4.setCell ⟨L.fa i,1,none⟩ v')∧FAt (w4.setCell ⟨L.fa i,1,none⟩ v') ρ' i (L.fa i) ⟨l,(d.file i).safe,(d.file i).loose⟩ v' vs vl:=by
 have hlg:=hf.lg
 have hgl:=hf.lt
 have hgb:∀ k,vn.ownBlock=some k→k ≠ L.fa i:=fun k hk e=>by have:=hf.now.2 k hk;rw [e,hlg] at this;omega
 have o1:Only L.ρ (fun r=>r=8+4 * i∨r=7+4 * i) w w4:=Only.of_grown hg (fun k e=>.inl (hf.now.2 k e))
 have o2:Only L.ρ (fun r=>r=8+4 * i∨r=7+4 * i) w (w4.setCell ⟨L.fa i,1,none⟩ v'):=o1.trans (Only.setCell w4 _ 1 v' (.inr hlg))
 have ho':(w4.setCell ⟨L.fa i,1,none⟩ v').ownsRow 0 5 1 v' l.length (l.map b8):=own_same ho (fun k hk=>heap_setCell_other w4 ⟨L.fa i,1,none⟩ k _ (fun e=>by
  have e1:k=L.fa i:=e
  rcases hat with hat | hat
  · exact hgb k (by rw [← hat];exact hk) e1
  · rw [hat] at hk;have:=Option.some.inj hk;omega))
 obtain ⟨ρ',he,hd,hO⟩:=relabel hf.now h.dom ho' hat (by omega) o2.size
 have hk:∀ k,L.ρ k ≠ 0→L.ρ k ≠ 8+4 * i→L.ρ k ≠ 7+4 * i→(w4.setCell ⟨L.fa i,1,none⟩ v').heap[k]?=w.heap[k]?:=fun k h0 h1 h2=>o2.block k (h.dom k h0) (by omega)
 have hbx:w4.heap[L.fa i]?=some (boxFile i vn vs vl):=(hg.block _ hgl (fun e=>hgb _ e.symm rfl)).trans hf.box
 have hF:FAt (w4.setCell ⟨L.fa i,1,none⟩ v') ρ' i (L.fa i) ⟨l,(d.file i).safe,(d.file i).loose⟩ v' vs vl :=
  ⟨heap_setCell_same w4 _ 1 _ _ v' hbx,(he.same _ (by omega)).trans hlg,hO,hf.safe.keep (fun k e=>hk k (by omega) (by omega) (by omega)) (fun k e=>(he.same k (by omega)).trans e),hf.loose.keep (fun k e=>hk k (by omega) (by omega) (by omega)) (fun k e=>he.same k (by omega))⟩
 exact ⟨ρ',h.file1 hi (o2.mono (fun r hr=>by omega)) he hd hF,Upd.of_only o2 (by omega) he,hF⟩
theorem DAt.looseTo {w w4:World} {L:Lay} {gd i:Nat} {d:Dm} (h:DAt w L gd d) (hi:i < d.fs.length) {f:Fl} (hfile:d.file i=f) {vn vs vl:Value} (hf:FAt w L.ρ i (L.fa i) f vn vs vl) (hg:w.grownBy w4 vl.ownBlock) {v' lv:Value} {u:Run} {rs:List (Value × Int)} {n':Nat} (hn:n'=f.loose.length+1)
 (hrs:rs.length=f.loose.length) (hall:∀ (k:Nat) (p:Value × Int) (u:Run),rs[k]?=some p→f.loose[k]?=some u→p.2=(u.cut:Int)∧RdL w L.ρ p.1 u.laid) (hlv:RdL w L.ρ lv u.laid)
 (hO0:OwnL w L.ρ 172 2 (10+4 * i) vl f.loose.length (rs.flatMap runV)) (ho:w4.ownsRow 0 172 2 v' n' (rs.flatMap runV++[lv,.int .i64 u.cut])) (hat:v'.ownBlock=vl.ownBlock∨v'.ownBlock=some w.heap.size) :
 ∃ ρ',DAt (w4.setCell ⟨L.fa i,3,none⟩ v') { L with ρ:=ρ' } gd (d.setF i ⟨f.now,f.safe,f.loose++[u]⟩)∧Upd L.ρ ρ' w (w4.setCell ⟨L.fa i,3,none⟩ v'):=by
 subst hfile
 subst hn
 have hlg:=hf.lg
 have hgl:=hf.lt
 have hgb:∀ k,vl.ownBlock=some k→k ≠ L.fa i:=fun k hk e=>by have:=hO0.2 k hk;rw [e,hlg] at this;omega
 have o1:Only L.ρ (fun r=>r=10+4 * i∨r=7+4 * i) w w4:=Only.of_grown hg (fun k e=>.inl (hO0.2 k e))
 have o2:Only L.ρ (fun r=>r=10+4 * i∨r=7+4 * i) w (w4.setCell ⟨L.fa i,3,none⟩ v'):=o1.trans (Only.setCell w4 _ 3 v' (.inr hlg))
 have ho':(w4.setCell ⟨L.fa i,3,none⟩ v').ownsRow 0 172 2 v' ((d.file i).loose.length+1) (rs.flatMap runV++[lv,.int .i64 u.cut]):=own_same ho (fun k hk=>heap_setCell_other w4 ⟨L.fa i,3,none⟩ k _ (fun e=>by
  have e1:k=L.fa i:=e
  rcases hat with hat | hat
  · exact hgb k (by rw [← hat];exact hk) e1
  · rw [hat] at hk;have:=Option.some.inj hk;omega))
 obtain ⟨ρ',he,hd,hO⟩:=relabel hO0 h.dom ho' hat (by omega) o2.size
 have hk:∀ k,L.ρ k ≠ 0→L.ρ k ≠ 10+4 * i→L.ρ k ≠ 7+4 * i→(w4.setCell ⟨L.fa i,3,none⟩ v').heap[k]?=w.heap[k]?:=fun k h0 h1 h2=>o2.block k (h.dom k h0) (by omega)
 have hrd:∀ {v:Value} {l:List UInt8},RdL w L.ρ v l→RdL (w4.setCell ⟨L.fa i,3,none⟩ v') ρ' v l:=fun hx=>hx.keep (fun k e=>hk k (by omega) (by omega) (by omega)) (fun k e=>(he.same k (by omega)).trans e)
 have hbx:w4.heap[L.fa i]?=some (boxFile i vn vs vl):=(hg.block _ hgl (fun e=>hgb _ e.symm rfl)).trans hf.box
 have hF:FAt (w4.setCell ⟨L.fa i,3,none⟩ v') ρ' i (L.fa i) ⟨(d.file i).now,(d.file i).safe,(d.file i).loose++[u]⟩ vn vs v' :=
  ⟨heap_setCell_same w4 _ 3 _ _ v' hbx,(he.same _ (by omega)).trans hlg,hf.now.keep (fun k e=>hk k (by omega) (by omega) (by omega)) (fun k e=>(he.same k (by omega)).trans e),hf.safe.keep (fun k e=>hk k (by omega) (by omega) (by omega)) (fun k e=>(he.same k (by omega)).trans e),
    rs++[(lv,(u.cut:Int))],by simp [hrs],by
     show OwnL _ ρ' 172 2 (10+4 * i) v' ((d.file i).loose++[u]).length _
     rw [List.flatMap_append,List.length_append]
     exact hO,fun k p x hp hx=>by
     by_cases hkl:k < rs.length
     · rw [List.getElem?_append_left hkl] at hp
       have hx':((d.file i).loose++[u])[k]?=some x:=hx
       rw [List.getElem?_append_left (by omega)] at hx'
       exact ⟨(hall k p x hp hx').1,hrd (hall k p x hp hx').2⟩
     · rw [List.getElem?_append_right (by omega)] at hp
       have hx':((d.file i).loose++[u])[k]?=some x:=hx
       rw [List.getElem?_append_right (by omega)] at hx'
       have h1:=(List.getElem?_eq_some_iff.1 hp).1
       obtain h2:k - rs.length=0:=by simp at h1;omega
       rw [h2] at hp
       rw [show k - (d.file i).loose.length=0 by omega] at hx'
       simp at hp hx'
       subst hp;subst hx'
       exact ⟨rfl,hrd hlv⟩⟩
 exact ⟨ρ',h.file1 hi (o2.mono (fun r hr=>by omega)) he hd hF,Upd.of_only o2 (by omega) he⟩
theorem Dm.file_set {d:Dm} {i:Nat} (hi:i < d.fs.length) (f:Fl):(d.setF i f).file i=f:=by unfold Dm.setF Dm.file;simp [hi]
theorem Dm.set_set {d:Dm} {i:Nat} (f f2:Fl):(d.setF i f).setF i f2=d.setF i f2:=by unfold Dm.setF;simp
theorem RdL.nil (w:World) (ρ:Nat→Nat):RdL w ρ (.slice none 0 0) []:=⟨none,0,rfl,R8.nil w 0,fun b off e=>by cases e⟩
theorem sl82:Sl Tryz.prog 115 172 (.agg #[.slice none 0 0,.int .i64 0]) 2 32:=⟨Tryz.underlying115,by kernel_rfl,rfl,by decide⟩
theorem own_take {w:World} {e s n m:Nat} {a:Option Addr} {c:Nat} {xs:List Value} (h:w.ownsRow 0 e s (.slice a n c) n xs) (hm:m≤n):w.ownsRow 0 e s (.slice a m c) m (xs.take (m * s)):=by
 obtain ⟨h1,h2⟩:=h
 refine ⟨by rw [List.length_take];have:=Nat.mul_le_mul_right s hm;omega,?_⟩
 rcases h2 with ⟨hv,hx⟩ | ⟨g,cap,cur,hv,hb,hg,hn,hc,hs,ht⟩
 · injection hv with e1 e2 e3
   subst e1 e3
   left
   subst hx
   obtain rfl:m=0:=by omega
   exact ⟨rfl,by simp⟩
 · injection hv with e1 e2 e3
   subst e1 e3
   right
   exact ⟨g,c,cur,rfl,hb,hg,by omega,hc,hs,by rw [← ht,List.take_take];congr 1;have:=Nat.mul_le_mul_right s hm;omega⟩
end
end Go.Proofs.YtgkehahklccacaaGreatDoor
