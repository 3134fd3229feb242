import Derived.Test.YtgkehahklccacaaGreatDoorC03
import Derived.Test.YtgkehahklccacaaGreatDoorC21
namespace Go.Proofs.YtgkehahklccacaaGreatDoor
open Go Go.RowKit
open Go.Lib (hid)
set_option maxRecDepth 100000
set_option maxHeartbeats 1000000
set_option linter.unusedVariables false
set_option linter.unusedSimpArgs false
section
open Go.Maps Go.WideMaps Go.ChangeMaps
theorem own_mono {w:World} {base base' e size n:Nat} {v:Value} {xs:List Value} (h:w.ownsRow base e size v n xs) (hb:base'≤base):w.ownsRow base' e size v n xs:=by
 refine ⟨h.1,?_⟩
 rcases h.2 with h2 | ⟨g,cap,cur,q1,q2,q3⟩
 · exact .inl h2
 · exact .inr ⟨g,cap,cur,q1,Nat.le_trans hb q2,q3⟩
theorem put8_nat (w:World) (B gw:Nat) (l:List UInt8) (n:Nat) (hn:n < 256) (h:Wr w B gw l) (hb:l.length≤1000000000000) (hB:B≤w.heap.size) :
 Calls Tryz.prog 158 #[.pointer (some ⟨gw,0,none⟩),.int .u8 (n:Int)] w fun e w'=>e=.returned (.tuple #[])∧Wr w' B gw (l++be 1 n)∧Below B w w':=by
 have:=put8_any w B gw l (UInt8.ofNat n) h hb hB
 rwa [show (UInt8.ofNat n).toNat=n by simp;omega] at this
def tileH (wd j:Nat) (ds:List Dg):List UInt8:=be 1 210++be 1 wd++be 1 0++be 8 j++(ds.map (·.1)).flatten
def tileP (wd j:Nat) (ds:List Dg):List UInt8:=tileH wd j ds++be 4 (crc (tileH wd j ds)).toNat
theorem flat_dg:∀ ds:List Dg,(ds.map (·.1)).flatten.length=32 * ds.length
 | []=>rfl
 | d :: ds=>by
   rw [List.map_cons,List.flatten_cons,List.length_append,flat_dg ds,d.2,List.length_cons];omega
theorem tileH_len (wd j:Nat) (ds:List Dg):(tileH wd j ds).length=11+32 * ds.length:=by
 unfold tileH
 simp only [List.length_append,be_len,flat_dg]
theorem tileP_len (wd j:Nat) (ds:List Dg):(tileP wd j ds).length=15+32 * ds.length:=by
 unfold tileP
 rw [List.length_append,tileH_len,be_len];omega
theorem crc_lt (l:List UInt8):(crc l).toNat < 4294967296:=(crc l).toNat_lt
noncomputable def ly0:Code:=Tryz.f99.body.getD .skip
set_option maxHeartbeats 4000000
theorem lay_any (w:World) (τ:Nat→Nat) (gt gd:Nat) (T:TT) (Y:TY) (h:TS w τ gt gd T Y) (j:Nat) (hj:j < T.L.length / 256) (ht:HalfTab w) :
 Calls Tryz.prog 99 #[.pointer (some ⟨gt,0,none⟩),.agg #[.int .i64 ((0:Nat):Int),.int .i64 (j:Int)]] w fun e w'=>∃ a n c,e=.returned (.slice a n c)∧w'.ownsRow w.heap.size 5 1 (.slice a n c) n ((tileP T.wd.toNat j (chunk T.L j)).map b8)∧Below w.heap.size w w':=by
 obtain ⟨g,c,hM,hds,hlg⟩:=h.full j hj
 have hgt:=h.dom gt (by rw [h.lg];decide)
 have hfew:=h.few
 have hg:=h.dom g (by omega)
 obtain ⟨wn,hwn⟩:∃ wn:Nat,wn=T.wd.toNat:=⟨_,rfl⟩
 have hwb:=h.wdb
 have HWN:=hid (show T.wd=(wn:Int) by omega)
 have hwl:wn < 256:=by omega
 rw [← hwn]
 obtain ⟨w0,hw0⟩:∃ w0,w0=w.alloc (.cells #[.int .i64 ((0:Nat):Int),.int .i64 (j:Int)] 121):=⟨_,rfl⟩
 have hb0:Below w.heap.size w w0:=by rw [hw0];exact (Below.refl _ _).alloc (Nat.le_refl _) _
 have hz0:w0.heap.size=w.heap.size+1:=by rw [hw0,alloc_size']
 have HB0:=hid (Below.refl w0.heap.size w0)
 have HZ0:=hid (Nat.le_refl w0.heap.size)
 have HBX:=hid ((hb0.block gt hgt).trans h.box)
 have HKX:=hid (show w0.heap[w.heap.size]?=some (.cells #[.int .i64 ((0:Nat):Int),.int .i64 (j:Int)] 121 (0,0)) by rw [hw0];exact heap_alloc_new _ _)
 have HGT:=hid (show gt < w0.heap.size by omega)
 have HKB:=hid (show w.heap.size < w0.heap.size by omega)
 have HMF:=hid (h.mf.keep (hb0.block Y.fb h.mf.lt))
 have HFB:=hid (show Y.fb < w0.heap.size by have:=h.mf.lt;omega)
 have HDS:=hid (hds.same (hb0.block g hg))
 have HGL:=hid (show g < w0.heap.size by omega)
 have HHT:=hid (ht.below hb0 (by have:=h.sz;omega))
 have h2s:2 < w0.heap.size:=by have:=h.sz;omega
 have H2S:=hid h2s
 have HJL:=hid (show j < 1099511627776 by omega)
 have HM:=hid hM
 have HCL:=hid (show (chunk T.L j).length=256 from hds.1)
 have HWL:=hid hwl
 have HBW:=hid hb0
 have HZW:=hid hz0
 clear h hM hds hlg hgt hfew hg hwb hwn hwl hb0 hz0 ht hj h2s
 go_enter Tryz.func99,Tryz.ntmps99
 refine wp_two_k (c:=ly0) ⟨_,_,rfl⟩ fun K hK=>?_
 have HK1:=hid hK
 clear hK
 conv=>arg 2;whnf
 go_wp2_with fail
 refine HK1.out _ _ ?_
 clear HK1 K
 have hw0':w0=w.alloc (.cells #[.int .i64 0,.int .i64 (j:Int)] 121):=hw0
 rw [← hw0']
 clear hw0 hw0'
 refine wp_two_k (c:=dropSeq 1 ly0) ⟨_,_,rfl⟩ fun K hK=>?_
 have HK:=hid hK
 clear hK
 conv=>arg 2;whnf
 go_wp2_with (go_at_call 157;refine (new_any w0).mono ?_;rintro e w1 ⟨gw,rfl,hwr,hb1⟩)
 refine HK.out _ _ ?_
 clear HK K
 rw [dropSeq_succ]
 have HB1:=hid (HB0.out.trans (hb1.mono (Nat.le_refl _)))
 have HW1:=hid hwr
 clear hwr hb1
 have HZ1:=hid (HB1.out.size)
 refine wp_two_k (c:=dropSeq 2 ly0) ⟨_,_,rfl⟩ fun K hK=>?_
 have HK:=hid hK
 clear hK
 conv=>arg 2;whnf
 go_wp2_with (go_at_call 158;refine (put8_nat w1 w0.heap.size gw _ 210 (by decide) HW1.out (by simp) HZ1.out).mono ?_;rintro e w2 ⟨rfl,hwr,hb2⟩)
 refine HK.out _ _ ?_
 clear HK K
 rw [dropSeq_succ]
 have HB2:=hid (HB1.out.trans (hb2.mono (Nat.le_refl _)))
 have HW2:=hid hwr
 clear hwr hb2
 have HZ2:=hid (HB2.out.size)
 have hwp:IntKind.u8.wrap (wn:Int)=(wn:Int):=by
  have:=HWL.out
  simp [IntKind.wrap,IntKind.bits,IntKind.signed];omega
 have hwj:IntKind.u64.wrap (j:Int)=(j:Int):=by
  have:=HJL.out
  simp [IntKind.wrap,IntKind.bits,IntKind.signed];omega
 refine wp_two_k (c:=dropSeq 3 ly0) ⟨_,_,rfl⟩ fun K hK=>?_
 have HK:=hid hK
 clear hK
 have c3:=cell_of_row w2 gt 3 _ _ _ ((HB2.out.block gt HGT.out).trans HBX.out)
 have c5:=cell_of_row w2 gt 5 _ _ _ ((HB2.out.block gt HGT.out).trans HBX.out)
 have k0:=cell_of_row w2 w.heap.size 0 _ _ _ ((HB2.out.block w.heap.size HKB.out).trans HKX.out)
 have k1:=cell_of_row w2 w.heap.size 1 _ _ _ ((HB2.out.block w.heap.size HKB.out).trans HKX.out)
 simp only [List.getElem?_toArray,List.getElem?_cons_zero,List.getElem?_cons_succ] at c3 c5 k0 k1
 rw [HWN.out] at c3
 conv=>arg 2;whnf
 go_wp2_with (go_at_call 158;refine (put8_nat w2 w0.heap.size gw _ wn HWL.out HW2.out (by simp [be_len]) HZ2.out).mono ?_;rintro e w3 ⟨rfl,hwr,hb3⟩)
 refine HK.out _ _ ?_
 clear HK K
 rw [dropSeq_succ]
 clear c3 c5 k0 k1
 have HB3:=hid (HB2.out.trans (hb3.mono (Nat.le_refl _)))
 have HW3:=hid hwr
 clear hwr hb3
 have HZ3:=hid (HB3.out.size)
 refine wp_two_k (c:=dropSeq 4 ly0) ⟨_,_,rfl⟩ fun K hK=>?_
 have HK:=hid hK
 clear hK
 have c3:=cell_of_row w3 gt 3 _ _ _ ((HB3.out.block gt HGT.out).trans HBX.out)
 have c5:=cell_of_row w3 gt 5 _ _ _ ((HB3.out.block gt HGT.out).trans HBX.out)
 have k0:=cell_of_row w3 w.heap.size 0 _ _ _ ((HB3.out.block w.heap.size HKB.out).trans HKX.out)
 have k1:=cell_of_row w3 w.heap.size 1 _ _ _ ((HB3.out.block w.heap.size HKB.out).trans HKX.out)
 simp only [List.getElem?_toArray,List.getElem?_cons_zero,List.getElem?_cons_succ] at c3 c5 k0 k1
 rw [HWN.out] at c3
 conv=>arg 2;whnf
 go_wp2_with (go_at_call 158;refine (put8_nat w3 w0.heap.size gw _ 0 (by decide) HW3.out (by simp [be_len]) HZ3.out).mono ?_;rintro e w4 ⟨rfl,hwr,hb4⟩)
 refine HK.out _ _ ?_
 clear HK K
 rw [dropSeq_succ]
 clear c3 c5 k0 k1
 have HB4:=hid (HB3.out.trans (hb4.mono (Nat.le_refl _)))
 have HW4:=hid hwr
 clear hwr hb4
 have HZ4:=hid (HB4.out.size)
 refine wp_two_k (c:=dropSeq 5 ly0) ⟨_,_,rfl⟩ fun K hK=>?_
 have HK:=hid hK
 clear hK
 have c3:=cell_of_row w4 gt 3 _ _ _ ((HB4.out.block gt HGT.out).trans HBX.out)
 have c5:=cell_of_row w4 gt 5 _ _ _ ((HB4.out.block gt HGT.out).trans HBX.out)
 have k0:=cell_of_row w4 w.heap.size 0 _ _ _ ((HB4.out.block w.heap.size HKB.out).trans HKX.out)
 have k1:=cell_of_row w4 w.heap.size 1 _ _ _ ((HB4.out.block w.heap.size HKB.out).trans HKX.out)
 simp only [List.getElem?_toArray,List.getElem?_cons_zero,List.getElem?_cons_succ] at c3 c5 k0 k1
 rw [HWN.out] at c3
 conv=>arg 2;whnf
 go_wp2_with (go_at_call 159;refine (put64_nat w4 w0.heap.size gw _ j (by have:=HJL.out;omega) HW4.out (by simp [be_len]) HZ4.out).mono ?_;rintro e w5 ⟨rfl,hwr,hb5⟩)
 refine HK.out _ _ ?_
 clear HK K
 rw [dropSeq_succ]
 clear c3 c5 k0 k1
 have HB5:=hid (HB4.out.trans (hb5.mono (Nat.le_refl _)))
 have HW5:=hid hwr
 clear hwr hb5
 have HZ5:=hid (HB5.out.size)
 have c3:=cell_of_row w5 gt 3 _ _ _ ((HB5.out.block gt HGT.out).trans HBX.out)
 have c5:=cell_of_row w5 gt 5 _ _ _ ((HB5.out.block gt HGT.out).trans HBX.out)
 have k0:=cell_of_row w5 w.heap.size 0 _ _ _ ((HB5.out.block w.heap.size HKB.out).trans HKX.out)
 have k1:=cell_of_row w5 w.heap.size 1 _ _ _ ((HB5.out.block w.heap.size HKB.out).trans HKX.out)
 simp only [List.getElem?_toArray,List.getElem?_cons_zero,List.getElem?_cons_succ] at c3 c5 k0 k1
 rw [HWN.out] at c3
 refine wp_two_k (c:=dropSeq 6 ly0) ⟨_,_,rfl⟩ fun K6 hK6=>?_
 have HK6:=hid hK6
 clear hK6
 have hs0:w5.drew.cell? ⟨gt,5,none⟩=some (.map (some Y.fb))∧w5.drew.cell? ⟨w.heap.size,0,none⟩=some (.int .i64 ((0:Nat):Int))∧w5.drew.cell? ⟨w.heap.size,1,none⟩=some (.int .i64 (j:Int))∧(Instr.lookup 95 (.map (some Y.fb)) (keyV 0 j) false).run Tryz.prog w5.drew=.ok (.slice (some ⟨g,0,none⟩) 256 c) w5.drew:=by
  refine ⟨c5,k0,k1,?_⟩
  have:=(show MAt w5.drew Y.fb Y.nf Y.Mf from HMF.out.keep (HB5.out.block Y.fb HFB.out)).look (l:=0) (by decide) HJL.out
  rwa [HM.out] at this
 have HDG:=hid (digs_any w5.drew w0.heap.size gw _ (show Wr w5.drew w0.heap.size gw _ from HW5.out) (by simp [be_len]) HZ5.out (some ⟨g,0,none⟩) 256 c (chunk T.L j) (show DS w5.drew (some ⟨g,0,none⟩) 256 c (chunk T.L j) from HDS.out.same (HB5.out.block g HGL.out)) (by decide) (fun x e _=>by cases e;exact HGL.out))
 have HMF5:=hid (show MAt w5 Y.fb Y.nf Y.Mf from HMF.out.keep (HB5.out.block Y.fb HFB.out))
 clear c3 c5 k0 k1
 conv=>arg 2;whnf
 refine wp_region_held_drew (S:=fun x=>x.cell? ⟨gt,5,none⟩=some (.map (some Y.fb))∧x.cell? ⟨w.heap.size,0,none⟩=some (.int .i64 ((0:Nat):Int))∧x.cell? ⟨w.heap.size,1,none⟩=some (.int .i64 (j:Int))∧(Instr.lookup 95 (.map (some Y.fb)) (keyV 0 j) false).run Tryz.prog x=.ok (.slice (some ⟨g,0,none⟩) 256 c) x) (by kernel_rfl) hs0 (fun hHeld=>?_)
 apply wpT 0
 apply wpT 1
 apply wpT 2
 apply wpT 3
 apply wpT 4
 apply wpT 5
 apply wpL 6 (.slice (some ⟨g,0,none⟩) 256 c)
 · exact fun w hSw=>exec_lookup (by rfl) (hSw.2.2.2)
 apply wpR 7
 intro K hK
 go_simp
 refine HDG.out.mono ?_
 rintro e w6 ⟨rfl,hwr,hb6⟩
 have HB6:=hid (HB5.out.trans (show Below w0.heap.size w5 w6 from ⟨hb6.os,hb6.tape,hb6.output,hb6.size,hb6.block⟩))
 have HW6:=hid hwr
 clear hwr hb6
 have HZ6:=hid HB6.out.size
 have c3:=cell_of_row w6 gt 3 _ _ _ ((HB6.out.block gt HGT.out).trans HBX.out)
 have c5:=cell_of_row w6 gt 5 _ _ _ ((HB6.out.block gt HGT.out).trans HBX.out)
 have k0:=cell_of_row w6 w.heap.size 0 _ _ _ ((HB6.out.block w.heap.size HKB.out).trans HKX.out)
 have k1:=cell_of_row w6 w.heap.size 1 _ _ _ ((HB6.out.block w.heap.size HKB.out).trans HKX.out)
 simp only [List.getElem?_toArray,List.getElem?_cons_zero,List.getElem?_cons_succ] at c3 c5 k0 k1
 rw [HWN.out] at c3
 have hs6:w6.cell? ⟨gt,5,none⟩=some (.map (some Y.fb))∧w6.cell? ⟨w.heap.size,0,none⟩=some (.int .i64 ((0:Nat):Int))∧w6.cell? ⟨w.heap.size,1,none⟩=some (.int .i64 (j:Int))∧(Instr.lookup 95 (.map (some Y.fb)) (keyV 0 j) false).run Tryz.prog w6=.ok (.slice (some ⟨g,0,none⟩) 256 c) w6:=by
  refine ⟨c5,k0,k1,?_⟩
  have:=(HMF.out.keep (HB6.out.block Y.fb HFB.out)).look (l:=0) (by decide) HJL.out
  rwa [HM.out] at this
 clear c3 c5 k0 k1
 apply bk hK
 · exact hs6
 intro hHeld
 clear hK K
 refine wpAnyH_done (by kernel_rfl) ?_ _
 refine HK6.out _ _ ?_
 clear HK6 K6
 rw [dropSeq_succ]
 have HHT6:=hid (HHT.out.below HB6.out H2S.out)
 have HTL:=hid (show []++be 1 210++be 1 wn++be 1 0++be 8 j++((chunk T.L j).map (·.1)).flatten=tileH wn j (chunk T.L j) by unfold tileH;simp only [List.nil_append])
 rw [HTL.out] at HW6
 have HL6:=hid (show (tileH wn j (chunk T.L j)).length≤1000000000000 by rw [tileH_len,HCL.out];omega)
 clear HB1 HB2 HB3 HB4 HW1 HW2 HW3 HW4 HW5 HDG hs0 hs6 HMF5
 generalize hTH:tileH wn j (chunk T.L j)=H at HW6 HTL HL6
 have HTT:=hid hTH
 clear HTL hTH
 refine wp_two_k (c:=dropSeq 7 ly0) ⟨_,_,rfl⟩ fun K hK=>?_
 have HK:=hid hK
 clear hK
 conv=>arg 2;whnf
 go_wp2_with (first
  | (go_at_call 163;refine (all_any w6 w0.heap.size gw _ HW6.out HL6.out).mono ?_;rintro e w7 ⟨a1,n1,c1,rfl,ho7,hb7⟩;have HR7:=hid (R8.of_owns' ho7 (by have:=HL6.out;omega));have HW7:=hid (HW6.out.below hb7);have HB7:=hid (HB6.out.trans (hb7.mono HB6.out.size));have HHT7:=hid (HHT.out.below HB7.out H2S.out);have HZ7:=hid HB7.out.size;clear ho7 hb7)
  | (go_at_call 162;refine (crc_any _ _ _ _ _ HR7.out HHT7.out).mono ?_;rintro e wx ⟨rfl,rfl⟩)
  | (go_at_call 161;refine (put32_nat w7 w0.heap.size gw _ (crc H).toNat (crc_lt H) HW7.out HL6.out HZ7.out).mono ?_;rintro e w8 ⟨rfl,hwr,hb8⟩;have HW8:=hid hwr;have HB8:=hid (HB7.out.trans hb8);clear hwr hb8))
 refine HK.out _ _ ?_
 clear HK K
 rw [dropSeq_succ]
 have HL8:=hid (show (H++be 4 (crc H).toNat).length≤1000000000000 by rw [List.length_append,be_len,← HTT.out,tileH_len,HCL.out];omega)
 have HTP:=hid (show H++be 4 (crc H).toNat=tileP wn j (chunk T.L j) by unfold tileP;rw [HTT.out])
 conv=>arg 2;whnf
 go_wp2_with (go_at_call 163;refine (all_any w8 w0.heap.size gw _ HW8.out HL8.out).mono ?_;rintro e w9 ⟨a2,n2,c2,rfl,ho9,hb9⟩;have HO9:=hid ho9;have HB9:=hid (HB8.out.trans (hb9.mono HB8.out.size));clear ho9 hb9)
 go_ret
 have hz:=HZW.out
 have hz8:=HB8.out.size
 refine ⟨a2,n2,c2,rfl,?_,HBW.out.trans (HB9.out.mono (by omega))⟩
 rw [← HTP.out]
 exact own_mono HO9.out (by omega)
end
section
open Go.Maps Go.WideMaps Go.ChangeMaps
set_option maxHeartbeats 4000000
theorem add_any (w:World) (L:Lay) (τ:Nat→Nat) (gt gd:Nat) (d:Dm) (T:TT) (Y:TY) (h:BT w L τ gt gd d T Y) (hn:T.L.length < 60000) (x:Dg) (ht:RoundTab w) :
 Calls Tryz.prog 14 #[.pointer (some ⟨gt,0,none⟩),.agg (dgA x.1)] w fun e w'=>∃ v,e=.returned v ∧
  ((T.live d tlN=0∧v=.nilIface∧∃ τ' Y',BT w' L τ' gt gd d { T with L:=T.L++[x] } Y'∧UB L τ L τ' w w')∨(T.live d tlN ≠ 0∧TV v w' (T.live d tlN)∧BT w' L τ gt gd d T Y∧UB L τ L τ w w')):=by
 obtain ⟨E,hE⟩:∃ E,E=dgA x.1:=⟨_,rfl⟩
 have HE:=hid hE
 have HES:=hid (show E.size=32 by rw [hE,dgA_size,x.2])
 rw [← hE]
 obtain ⟨w0,hw0⟩:∃ w0,w0=w.alloc (.cells E 38):=⟨_,rfl⟩
 have hb0:Below w.heap.size w w0:=by rw [hw0];exact (Below.refl _ _).alloc (Nat.le_refl _) _
 have hx0:w0.heap[w.heap.size]?=some (.cells E 38 (0,0)):=by rw [hw0];exact heap_alloc_new _ _
 have hz0:w.heap.size < w0.heap.size:=by rw [hw0,alloc_size'];omega
 have H0:=hid (h.below hb0)
 have HB0:=hid hb0
 have HX0:=hid hx0
 have HZ0:=hid hz0
 have HT:=hid ht
 have HN:=hid hn
 have HSZ:=hid h.t.sz
 have HLV:=hid (live_any w0 L τ gt gd d T Y (h.below hb0) ⟨#[65,100,100]⟩)
 clear h hE hb0 hx0 hz0 ht hn
 by_cases hl:T.live d tlN=0
 · have HL:=hid hl
   clear hl
   go_enter Tryz.func14,Tryz.ntmps14
   go_wp2_with (first
    | (go_at_call 39;rw [← hw0];refine HLV.out.mono ?_;rintro e w1 ⟨⟨v,rfl,hv⟩,hb1⟩;rw [HL.out] at hv;obtain rfl:v=.nilIface:=(hv.resolve_right fun q=>q.1 rfl).2;have hB1:=H0.out.below hb1;have c4:=hB1.t.cells.2.2.2.2.1;have hsm:decide (1099511627776≤(T.L.length:Int))=false:=by { have:=HN.out;simp;omega };have HB1:=hid hB1;have HBB:=hid (HB0.out.trans (hb1.mono (Nat.le_of_lt HZ0.out)));have HX1:=hid ((hb1.block w.heap.size HZ0.out).trans HX0.out);have HGR:=hid (show Calls Tryz.prog 49 #[.pointer (some ⟨gt,0,none⟩),.agg E] w1 fun e w'=>e=.returned (.tuple #[])∧∃ τ' Y',TS w' τ' gt gd { T with L:=T.L++[x] } Y'∧Upd τ τ' w1 w' by { rw [HE.out];exact grow_any w1 τ gt gd T Y hB1.t HN.out x (rt_below HT.out HBB.out (by have:=HSZ.out;omega)) });clear hv hB1 hb1)
    | (refine wpList_load_row rfl 38 (.tmp 3) (by rfl) w.heap.size (by rfl) 38 E (0,0) _ HX1.out Tryz.underlying38 rfl (by rw [HES.out];exact info38) ?_)
    | (go_at_call 49;refine HGR.out.mono ?_;rintro e w2 ⟨rfl,τ2,Y2,hT2,hU2⟩;have HB2:=hid (HB1.out.tiles hT2 hU2);have HU2:=hid ((UB.of_below HBB.out).trans (UB.of_tiles hU2 (L:=L)));clear hT2 hU2))
   go_ret
   exact ⟨_,rfl,.inl ⟨HL.out,rfl,τ2,Y2,HB2.out,HU2.out⟩⟩
 · have HL:=hid hl
   clear hl
   go_enter Tryz.func14,Tryz.ntmps14
   go_wp2_with (go_at_call 39;rw [← hw0];refine HLV.out.mono ?_;rintro e w1 ⟨⟨v,rfl,hv⟩,hb1⟩;obtain ⟨g,rfl,hg1,hg2⟩:=(hv.resolve_left fun q=>HL.out q.1).2;have HB1:=hid (H0.out.below hb1);have HBB:=hid (HB0.out.trans (hb1.mono (Nat.le_of_lt HZ0.out)));have HG:=hid hg1;clear hv hb1 hg1 hg2)
   go_ret
   exact ⟨_,rfl,.inr ⟨HL.out,.inr ⟨HL.out,_,_,g,rfl,HG.out⟩,HB1.out,UB.of_below HBB.out⟩⟩
end
section
open Go.Maps Go.WideMaps Go.ChangeMaps
def drop2 (a:Option Addr) (k c:Nat):Option Addr:=if c=k then a else a.map (·.add (k * 2))
theorem slice_from2 (wx:World) (a:Option Addr) (n c k:Nat) (hk:k≤n):(Instr.slice 96 (.slice a n c) (some (.int .i64 (k:Int))) none none).run Tryz.prog wx=.ok (.slice (drop2 a k c) (n - k) (c - k)) wx:=by
 obtain ⟨i,hi,hz0,hz1,hz2⟩:=info_parts sl96.inf
 have he:Tryz.prog.elem 96=121:=by simp [Program.elem,sl96.und]
 have h1:Tryz.prog.underlying 96=some (.slice (Tryz.prog.elem 96)):=by rw [he];exact sl96.und
 have h2:(sizeOf (Tryz.prog.elem 96)).run Tryz.prog wx=.ok 2 wx:=by rw [he];simp [sizeOf,typeInfo,hi,hz1]
 rw [run_slice_l wx 96 a n c h1 .i64 k (by omega) (by omega),h2]
 simp [Result.andThen,sliced,drop2]
def tilesB (T:TT) (m k:Nat):List UInt8:=((List.range k).map fun i=>tileP T.wd.toNat (m+i) (chunk T.L (m+i))).flatten
def appD (d:Dm) (T:TT):Dm × TT × Int :=
 if T.held=T.L.length / 256 then (d,T,0) else
 let T1:={ T with l0:=true }
 let r:=d.append tlN (tilesB T T.held (T.L.length / 256 - T.held))
 if r.2 ≠ 0 then (r.1,T1,r.2) else (r.1,{ T1 with held:=T.L.length / 256 },0)
theorem tilesB_succ (T:TT) (m k:Nat):tilesB T m (k+1)=tilesB T m k++tileP T.wd.toNat (m+k) (chunk T.L (m+k)):=by
 unfold tilesB
 rw [List.range_succ,List.map_append,List.flatten_append];simp
theorem tilesB_len (T:TT) (m:Nat):∀ k,m+k≤T.L.length / 256→(tilesB T m k).length=8207 * k
 | 0,_=>rfl
 | k+1,h=>by
   rw [tilesB_succ,List.length_append,tilesB_len T m k (by omega),tileP_len]
   have:(chunk T.L (m+k)).length=256:=by unfold chunk;rw [List.length_take,List.length_drop];omega
   omega
set_option maxHeartbeats 8000000
theorem tappend_any (w:World) (L:Lay) (τ:Nat→Nat) (gt gd:Nat) (d:Dm) (T:TT) (Y:TY) (h:BT w L τ gt gd d T Y) (hp:Pre d) (hh:T.held≤T.L.length / 256) (ht:HalfTab w) :
 Calls Tryz.prog 45 #[.pointer (some ⟨gt,0,none⟩)] w (SyR L τ gt gd Y w (appD d T)):=by
 have c0:=h.t.cells.1
 have c7:=h.t.cells.2.2.2.2.2.2.1
 have c8:=h.t.cells.2.2.2.2.2.2.2.1
 obtain ⟨F,hF⟩:∃ F,F=T.L.length / 256:=⟨_,rfl⟩
 obtain ⟨H,hH⟩:∃ H,H=T.held:=⟨_,rfl⟩
 have hord:=h.t.ord.1
 rw [← hF] at hord
 rw [← hH] at c8
 have hfew:=h.t.few
 by_cases e:T.held=T.L.length / 256
 · have ea:appD d T=(d,T,0):=by unfold appD;rw [if_pos e]
   rw [ea]
   have hv:∃ a c,Y.ordV=.slice a F c:=by
    rcases hord.2 with ⟨hv,h0⟩ | ⟨g,cap,cur,hv,-⟩
    · exact ⟨none,0,by rw [hv,h0]⟩
    · exact ⟨_,_,hv⟩
   obtain ⟨a,c,hv⟩:=hv
   rw [hv] at c7
   have eH:H=F:=by rw [hH,hF,e]
   rw [eH] at c8
   have HH:=hid h
   clear h hp hh ht hord hfew e ea hv eH hH hF
   go_enter Tryz.func45,Tryz.ntmps45
   go_wp2_with fail
   go_quiet (fail)
   go_wp2
   go_ret
   exact ⟨_,rfl,.inl ⟨rfl,rfl⟩,L,HH.out.below (below_drewN (Below.refl _ _) _),UB.of_below (below_drewN (Below.refl _ _) _)⟩
 · have hlt:H < F:=by omega
   obtain ⟨g,cap,hv,-,hgl⟩:=hord.form (by omega)
   have hds:RS 2 ordE w (some ⟨g,0,none⟩) F cap (List.range F):=RS.of_owns (base:=0) (e:=121) (by rw [← hv];exact hord) (by decide) (fun _=>rfl) (by omega)
   have hcap:F≤cap:=by
    rcases hord.2 with ⟨hv2,h0⟩ | ⟨g',cap',cur,hv2,-,-,q,-⟩
    · omega
    · rw [hv] at hv2;injection hv2 with q1 q2 q3;omega
   rw [hv] at c7
   have hsl:=fun wx=>slice_from2 wx (some ⟨g,0,none⟩) F cap H (by omega)
   rw [show drop2 (some ⟨g,0,none⟩) H cap=some ((⟨g,0,none⟩:Addr).add (H * 2)) by unfold drop2;rw [if_neg (by omega)];rfl] at hsl
   have h9:((H:Int) == (F:Int))=false:=by simp;omega
   have HH:=hid h
   have HDS:=hid hds
   have HX:=hid (And.intro hp (And.intro ht (And.intro hfew (And.intro hlt (And.intro hH hF)))))
   have HE:=hid e
   have HV:=hid hv
   clear h hp hh ht hord hfew e hv hlt hds hcap hgl hH hF
   go_enter Tryz.func45,Tryz.ntmps45
   go_wp2_with fail
   go_quiet (fail)
   go_wp2_with fail
   go_quiet (fail)
   go_wp2_with fail
   obtain ⟨n,hn⟩:∃ n,n=F - H:=⟨_,rfl⟩
   have HN:=hid hn
   rw [← hn]
   clear hn hsl h9 c0 c7 c8
   (go_loopw [27,3,5] (fun v r _ wr=>∃ k:Nat,k≤n∧v=.int .i64 k∧Below w.heap.size w wr∧wr.ownsRow w.heap.size 5 1 r (8207 * k) ((tilesB T H k).map b8)) (fun v _ _ _=>n - (intOf v).toNat))
   case atStart=>exact ⟨0,by omega,rfl,below_drewN (below_drewN (Below.refl _ _) _) _,World.ownsRow_nil _ _ _ _⟩
   case round =>
    obtain ⟨k,hk,rfl,hb,ho⟩:=hrel
    by_cases hlt:k < n
    · obtain ⟨j,hj⟩:∃ j,j=H+k:=⟨_,rfl⟩
      have hjF:j < F:=by have:=HN.out;omega
      obtain ⟨-,-,-,hds⟩:=HDS.out.below hb
      obtain ⟨b',off',e1,hc⟩:=hds j j (by simp [hjF])
      cases e1
      have hc0:=hc 0 (.int .i64 ((0:Nat):Int)) rfl
      have hc1:=hc 1 (.int .i64 (j:Int)) rfl
      rw [show 0+j * 2+0=H * 2+k * 2 by omega] at hc0
      rw [show 0+j * 2+1=H * 2+k * 2+1 by omega] at hc1
      have h9:decide ((k:Int) < (n:Int))=true:=by simp;omega
      have HB:=hid hb
      have HO:=hid ho
      have HLT:=hid hlt
      have HJ:=hid hj
      have HJF:=hid hjF
      clear hk hb ho hlt hj hjF hds hc
      have hb1:Below w.heap.size w (wr.alloc (.cells #[.int .i64 ((0:Nat):Int),.int .i64 (j:Int)] 121)):=HB.out.alloc (by have:=HB.out.size;omega) _
      have HLY:=hid (lay_any (wr.alloc (.cells #[.int .i64 ((0:Nat):Int),.int .i64 (j:Int)] 121)) τ gt gd T Y (HH.out.t.below hb1) j (by have:=HJF.out;have:=HX.out.2.2.2.2.2;omega) (HX.out.2.1.below hb1 (by have:=HH.out.t.sz;omega)))
      have HB1:=hid hb1
      have HO1:=hid (HO.out.alloc (.cells #[.int .i64 ((0:Nat):Int),.int .i64 (j:Int)] 121))
      have HTL:=hid (show (tileP T.wd.toNat j (chunk T.L j)).length=8207 by
       rw [tileP_len]
       have h1:=HJF.out;have h2:=HX.out.2.2.2.2.2
       have:(chunk T.L j).length=256:=by unfold chunk;rw [List.length_take,List.length_drop];omega
       omega)
      have HKB:=hid (show k≤1000 by have h1:=HLT.out;have h2:=HN.out;have h3:=HX.out.2.2.2.2.2;have h4:=HX.out.2.2.1;omega)
      clear hb1
      go_wp2_with (first
       | (go_at_call 99;refine HLY.out.mono ?_;rintro e w3 ⟨a3,n3,c3,rfl,ho3,hb3⟩;have HR3:=hid (R8.of_owns' ho3 (by rw [HTL.out];decide));have HN3:=hid (show n3=8207 by have:=ho3.1;simp [HTL.out] at this;omega);have HB3:=hid (HB1.out.trans (hb3.mono HB1.out.size));have HO3:=hid (HO1.out.kept (row:=none) ⟨hb3.os,hb3.tape,hb3.output,hb3.size,fun k hk _=>hb3.block k hk⟩ (Classical.em _));clear ho3 hb3)
       | (at_builtin;refine L_append8 rfl _ _ _ rfl sl22 w.heap.size _ (8207 * k) _ rfl HO3.out _ _ _ _ rfl HR3.out (by have:=HKB.out;have:=HN3.out;omega) (by have:=HKB.out;have:=HN3.out;simp [maxLen];omega) HB3.out.size (fun a4 c4 w4 ho4 hg4 hat4=>?_)))
      have e1:wrap64 ((k:Int)+1)=((k+1:Nat):Int):=by rw [wrap64_small (by omega) (by have:=HKB.out;omega)];push_cast;rfl
      rw [e1]
      have hn3:=HN3.out
      have hlt:=HLT.out
      subst hn3
      refine ⟨⟨k+1,hlt,rfl,HB3.out.grown hg4 HB3.out.size (fun q hq=>(HO3.out.lt q hq).1),?_⟩,by simp [intOf];omega⟩
      rw [tilesB_succ,List.map_append,← HJ.out,show 8207 * (k+1)=8207 * k+8207 by omega]
      exact ho4
    · obtain rfl:k=n:=by omega
      have h9:decide ((k:Int) < (k:Int))=false:=by simp
      obtain ⟨ra,rc,rfl,-⟩:=owns_shape ho
      have hBT:=HH.out.below hb
      have c0:=hBT.t.cells.1
      have e9:=hBT.t.cells.2.2.2.2.2.2.2.2.1
      have f9:=hBT.t.cells.2.2.2.2.2.2.2.2.2.2 9
      have HB:=hid hb
      have HO:=hid ho
      have HBT:=hid hBT
      clear hb ho hBT hk hlt
      have hT:=HX.out.2.2.2.2.2
      have hH:=HX.out.2.2.2.2.1
      obtain ⟨hb1,hg1⟩:=row_setCell (i:=9) HBT.out.t.box (.bool true)
      obtain ⟨ht1,hu1⟩:=HBT.out.t.own1 (T':={ T with l0:=true }) hg1 hb1 rfl rfl
      have hBT1:=HBT.out.tiles ht1 hu1
      have hgw:gt < w.heap.size:=HH.out.t.dom gt (by rw [HH.out.t.lg];decide)
      have ho1:=HO.out.kept hg1 (.inr (fun q=>by have:=(HO.out.lt gt q).1;omega))
      have hrd:RdO (wr.setCell ⟨gt,9,none⟩ (.bool true)) L.ρ ra (8207 * k) rc (tilesB T H k):=⟨R8.of_owns' ho1 (by rw [tilesB_len T H k (by have:=HN.out;have:=HX.out.2.2.2.1;omega)];have:=HN.out;have:=HX.out.2.2.1;omega),fun b off q q0=>by
       have hb3:=(HO.out.lt b (by rw [q];rfl)).1
       rcases Nat.eq_zero_or_pos (L.ρ b) with h9 | h9
       · exact h9
       · have:=HH.out.d.dom b (by omega);omega⟩
      have HAP:=hid (append_any _ L gd d hBT1.d HX.out.1 tlN (by decide) ra (8207 * k) rc (tilesB T H k) hrd (by have:=HN.out;have:=HX.out.2.2.1;omega))
      have HBT1:=hid hBT1
      have HU1:=hid ((UB.of_below (L:=L) (τ:=τ) HB.out).trans (UB.of_tiles hu1))
      have HEQ:=hid (show appD d T=(let r:=d.append tlN (tilesB T H k);if r.2 ≠ 0 then (r.1,{ T with l0:=true },r.2) else (r.1,{ T with l0:=true,held:=F },0)) by unfold appD;rw [if_neg HE.out,← hH,← hT,← HN.out])
      clear hb1 hg1 ht1 hu1 hBT1 hgw ho1 hrd hT hH
      by_cases hy:(d.append tlN (tilesB T H k)).2=0
      · have HY:=hid hy
        have HEQ2:=hid (show appD d T=((d.append tlN (tilesB T H k)).1,{ T with l0:=true,held:=F },0) by rw [HEQ.out];simp [hy])
        clear hy HEQ
        go_wp2_with (go_at_call 100;refine HAP.out.mono ?_;rintro e w2 ⟨L2,hD2,hU2,v,rfl,hv⟩;rw [HY.out] at hv;obtain rfl:v=.nilIface:=(hv.resolve_right fun q=>q.1 rfl).2;have hBT2:=HBT1.out.disk hD2 hU2;have d0:=hBT2.t.cells.1;have d7:=hBT2.t.cells.2.2.2.2.2.2.1;rw [HV.out] at d7;have e8:=hBT2.t.cells.2.2.2.2.2.2.2.1;have f8:=hBT2.t.cells.2.2.2.2.2.2.2.2.2.2 8;have HBT2:=hid hBT2;have HU2:=hid (HU1.out.trans (UB.of_disk hU2));clear hv hD2 hU2 hBT2 c0 e9 f9)
        obtain ⟨hb3,hg3⟩:=row_setCell (i:=8) HBT2.out.t.box (.int .i64 (F:Int))
        obtain ⟨ht3,hu3⟩:=HBT2.out.t.own1 (T':={ T with l0:=true,held:=F }) hg3 hb3 rfl rfl
        go_ret
        rw [HEQ2.out]
        exact ⟨_,rfl,.inl ⟨rfl,rfl⟩,L2,HBT2.out.tiles ht3 hu3,HU2.out.trans (UB.of_tiles hu3)⟩
      · have HY:=hid hy
        have HEQ2:=hid (show appD d T=((d.append tlN (tilesB T H k)).1,{ T with l0:=true },(d.append tlN (tilesB T H k)).2) by rw [HEQ.out];simp [hy])
        clear hy HEQ
        go_wp2_with (go_at_call 100;refine HAP.out.mono ?_;rintro e w2 ⟨L2,hD2,hU2,v,rfl,hv⟩;obtain ⟨g2,rfl,hg1,hg2⟩:=(hv.resolve_left fun q=>HY.out q.1).2;have HBT2:=hid (HBT1.out.disk hD2 hU2);have HU2:=hid (HU1.out.trans (UB.of_disk hU2));have HG:=hid hg1;clear hv hD2 hU2 hg1 hg2 c0 e9 f9)
        go_ret
        rw [HEQ2.out]
        exact ⟨_,rfl,.inr ⟨HY.out,_,_,g2,rfl,HG.out⟩,L2,HBT2.out,HU2.out⟩
end
section
open Go.Maps Go.WideMaps Go.ChangeMaps
def pas (y:Int):Int:=if y=31 then 0 else y
def fl4 (d:Dm) (T:TT):Dm × TT × Int :=
 let r:=appD d T
 if r.2.2 ≠ 0 then (r.1,r.2.1,pas r.2.2) else syncD r.1 r.2.1
theorem passed_any (w:World) (v:Value) (y:Int) (h:TV v w y):Calls Tryz.prog 43 #[v] w fun e w'=>(∃ v',e=.returned v'∧TV v' w (pas y))∧w'=w:=by
 rcases h with ⟨rfl,rfl⟩ | ⟨h1,c,n,h2⟩
 · refine (passed_nil w).mono ?_
   rintro e w' ⟨rfl,rfl⟩
   exact ⟨⟨_,rfl,.inl ⟨by simp [pas],rfl⟩⟩,rfl⟩
 · by_cases h3:y=31
   · subst h3
     refine (passed_space w v c n h2).mono ?_
     rintro e w' ⟨rfl,rfl⟩
     exact ⟨⟨_,rfl,.inl ⟨by simp [pas],rfl⟩⟩,rfl⟩
   · refine (passed_other w v c n y h2 h3).mono ?_
     rintro e w' ⟨rfl,rfl⟩
     exact ⟨⟨_,rfl,.inr ⟨by simp [pas,h3,h1],c,n,by unfold pas;rw [if_neg h3];exact h2⟩⟩,rfl⟩
theorem UB.half {L L':Lay} {τ τ':Nat→Nat} {w w':World} (h:UB L τ L' τ' w w') (ht:HalfTab w) (h2:2 < w.heap.size) (hl:L.ρ 2=0) (hτ:τ 2=0):HalfTab w':=fun i hi=>(World.cell?_of_block (h.block 2 h2 hl hτ)).trans (ht i hi)
noncomputable def fl0:Code:=Tryz.f12.body.getD .skip
set_option maxHeartbeats 4000000
theorem flush_4 (w:World) (L:Lay) (τ:Nat→Nat) (gt gd:Nat) (d:Dm) (T:TT) (Y:TY) (h:BT w L τ gt gd d T Y) (hp:Pre d) (hh:T.held≤T.L.length / 256) (ht:HalfTab w) (hp2:Pre (appD d T).1) (hp3:Pre ((appD d T).1.sync tlN).1) (u1 u2 u3 u4 u5 u6 u7 u8 u9 u10 u11 u12 u13 u14 u15 u16 u17 u18 u19 u20 u21 u22 u23 u24 u25 u26 u27 u28 u29 u30 u31 u32 u33 u34 u35 u36 u37 u38 u39 u40 u41 u42 u43 u44 u45 u46 u47 u48 u49 u50 u51 u52 u53 u54 u55 u56 u57 u58 u59 u60 u61 u62 u63 u64 u65 u66 u67 u68 u69 u70 u71 u72 u73 u74 u75 u76 u77 u78 u79 u80 u81 u82 u83 u84 u85 u86 u87:Value) :
 Code.wp Tryz.prog (dropSeq 8 fl0) (bodyPost Tryz.prog Tryz.f12 (SyR L τ gt gd Y w (fl4 d T))) ⟨#[.pointer (some ⟨gt,0,none⟩),u1,u2,u3,u4,u5,u6,u7,u8,u9,u10,u11,u12,u13,u14,u15,u16,u17,u18,u19,u20,u21,u22,u23,u24,u25,u26,u27,u28,u29,u30,u31,u32,u33,u34,u35,u36,u37,u38,u39,u40,u41,u42,u43,u44,u45,u46,u47,u48,u49,u50,u51,u52,u53,u54,u55,u56,u57,u58,u59,u60,u61,u62,u63,u64,u65,u66,u67,u68,u69,u70,u71,u72,u73,u74,u75,u76,u77,u78,u79,u80,u81,u82,u83,u84,u85,u86,u87],[]⟩ w:=by
 have HA:=hid (tappend_any w L τ gt gd d T Y h hp hh ht)
 have HP:=hid (And.intro hp2 hp3)
 by_cases hy:(appD d T).2.2=0
 · have HQ:=hid (show fl4 d T=syncD (appD d T).1 (appD d T).2.1 by unfold fl4;simp [hy])
   have HY:=hid hy
   clear h hp hh ht hp2 hp3 hy
   conv=>arg 2;whnf
   go_wp2_with (first
    | (go_at_call 45;refine HA.out.mono ?_;rintro e w1 ⟨v,rfl,hv,L1,hB1,hU1⟩;rw [HY.out] at hv;obtain rfl:v=.nilIface:=(hv.resolve_right fun q=>q.1 rfl).2;have HS:=hid (tsync_any w1 L1 τ gt gd _ _ Y hB1 HP.out.1 (fun _=>HP.out.2));have HU1:=hid hU1;clear hv hB1 hU1)
    | (go_at_call 46;refine HS.out.mono ?_;rintro e w2 ⟨v,rfl,hv,L2,hB2,hU2⟩;have HV:=hid hv;have HB2:=hid hB2;have HU2:=hid (HU1.out.trans hU2);clear hv hB2 hU2))
   go_ret
   rw [HQ.out]
   exact ⟨_,rfl,HV.out,L2,HB2.out,HU2.out⟩
 · have HQ:=hid (show fl4 d T=((appD d T).1,(appD d T).2.1,pas (appD d T).2.2) by unfold fl4;simp [hy])
   have HY:=hid hy
   clear h hp hh ht hp2 hp3 hy
   conv=>arg 2;whnf
   go_wp2_with (first
    | (go_at_call 45;refine HA.out.mono ?_;rintro e w1 ⟨v,rfl,hv,L1,hB1,hU1⟩;obtain ⟨c1,n1,g1,rfl,hg1⟩:=(hv.resolve_left fun q=>HY.out q.1).2;have HS:=hid (passed_any w1 _ _ hv);have HU1:=hid hU1;have HB1:=hid hB1;clear hv hB1 hU1 hg1)
    | (go_at_call 43;refine HS.out.mono ?_;rintro e w2 ⟨⟨v,rfl,hv⟩,rfl⟩;have HV:=hid hv;clear hv))
   go_ret
   rw [HQ.out]
   exact ⟨_,rfl,HV.out,L1,HB1.out,HU1.out⟩
end
section
open Go.Maps Go.WideMaps Go.ChangeMaps
def fl3 (N:Int) (d:Dm) (T:TT):Dm × TT × Int :=
 if N > ((T.held * 8207:Nat):Int) then
  let T2:={ T with l0:=true }
  let c:=d.cut tlN ((T.held * 8207:Nat):Int)
  if c.2 ≠ 0 then (c.1,T2,c.2) else fl4 c.1 T2
 else fl4 d T
structure P4 (d:Dm) (T:TT):Prop where
 a:Pre d
 b:Pre (appD d T).1
 c:Pre ((appD d T).1.sync tlN).1
set_option maxHeartbeats 4000000
theorem flush_3 (w:World) (L:Lay) (τ:Nat→Nat) (gt gd:Nat) (d:Dm) (T:TT) (Y:TY) (h:BT w L τ gt gd d T Y) (N:Int) (hp:Pre d) (hh:T.held≤T.L.length / 256) (ht:HalfTab w) (hl2:L.ρ 2=0)
 (hp1:¬ N > ((T.held * 8207:Nat):Int)→P4 d T) (hp2:N > ((T.held * 8207:Nat):Int)→(d.cut tlN ((T.held * 8207:Nat):Int)).2=0→P4 (d.cut tlN ((T.held * 8207:Nat):Int)).1 { T with l0:=true }) (u1 u2 u3 u5 u6 u7 u8 u9 uA uB uC uD uE uF uG uH uI uJ uK uL uM uN uO uP uQ uR uS uT uU uV uW uX uY uZ vA vB vC vD vE vF vG vH vI vJ vK vL vM vN vO vP vQ vR vS vT vU vV vW vX vY vZ qA qB qC qD qE qF qG qH qI qJ qK qL qM qN qO qP qQ qR qS qT qU qV qW qX qY qZ:Value) :
 Code.wp Tryz.prog (dropSeq 7 fl0) (bodyPost Tryz.prog Tryz.f12 (SyR L τ gt gd Y w (fl3 N d T))) ⟨#[.pointer (some ⟨gt,0,none⟩),u1,u2,u3,.int .i64 N,u5,u6,u7,u8,u9,uA,uB,uC,uD,uE,uF,uG,uH,uI,uJ,uK,uL,uM,uN,uO,uP,uQ,uR,uS,uT,uU,uV,uW,uX,uY,uZ,vA,vB,vC,vD,vE,vF,vG,vH,vI,vJ,vK,vL,vM,vN,vO,vP,vQ,vR,vS,vT,vU,vV,vW,vX,vY,vZ,qA,qB,qC,qD,qE,qF,qG,qH,qI,qJ,qK,qL,qM,qN,qO,qP,qQ,qR,qS,qT,qU,qV,qW,qX,qY,qZ],[]⟩ w:=by
 obtain ⟨H,hH⟩:∃ H,H=T.held:=⟨_,rfl⟩
 have c0:=h.t.cells.1
 have c8:=h.t.cells.2.2.2.2.2.2.2.1
 have hfew:=h.t.few
 rw [← hH] at c8
 have hw:IntKind.i64.wrap ((H:Int) * 8207)=(H:Int) * 8207:=IntWalk.i64_in _ (by omega)
 by_cases hN:N > ((T.held * 8207:Nat):Int)
 · have h9:decide ((H:Int) * 8207 < N)=true:=decide_eq_true (by rw [hH];have:=hN;push_cast at this;exact this)
   have e9:=h.t.cells.2.2.2.2.2.2.2.2.1
   have f9:=h.t.cells.2.2.2.2.2.2.2.2.2.2 9
   have HH:=hid h
   have HT:=hid (And.intro hp (And.intro ht (And.intro hl2 (And.intro hh hH))))
   have HP2:=hid (hp2 hN)
   have HF:=hid hfew
   have HEQ:=hid (show fl3 N d T=(let c:=d.cut tlN ((T.held * 8207:Nat):Int);if c.2 ≠ 0 then (c.1,{ T with l0:=true },c.2) else fl4 c.1 { T with l0:=true }) by unfold fl3;rw [if_pos hN])
   clear h hp ht hh hl2 hp1 hp2 hN hfew hH
   refine wp_two_k (c:=dropSeq 7 fl0) ⟨_,_,rfl⟩ fun K hK=>?_
   have HK:=hid hK
   clear hK
   conv=>arg 2;whnf
   go_wp2_with fail
   obtain ⟨hb1,hg1⟩:=row_setCell (i:=9) HH.out.t.box (.bool true)
   obtain ⟨ht1,hu1⟩:=HH.out.t.own1 (T':={ T with l0:=true }) hg1 hb1 rfl rfl
   have HBT1:=hid (HH.out.tiles ht1 hu1)
   have HU1:=hid (UB.of_tiles (L:=L) hu1)
   clear hb1 hg1 ht1 hu1 c0 c8 e9 f9 h9
   generalize w.setCell ⟨gt,9,none⟩ (.bool true)=w1 at HBT1 HU1 ⊢
   have hs1:w1.cell? ⟨gt,0,none⟩=some (.pointer (some ⟨gd,0,none⟩))∧w1.cell? ⟨gt,8,none⟩=some (.int .i64 (H:Int)):=⟨HBT1.out.t.cells.1,by rw [HT.out.2.2.2.2];exact HBT1.out.t.cells.2.2.2.2.2.2.2.1⟩
   have hi:(H:Int) * 8207=((T.held * 8207:Nat):Int):=by rw [HT.out.2.2.2.2];push_cast;rfl
   have HCU:=hid (show Calls Tryz.prog 44 #[.pointer (some ⟨gd,0,none⟩),.string tlB,.int .i64 ((H:Int) * 8207)] w1.drew fun e w'=>∃ L',DAt w' L' gd (d.cut tlN ((T.held * 8207:Nat):Int)).1∧Upd L.ρ L'.ρ w1.drew w'∧∃ v,e=.returned v∧ToldV v w' L'.ρ cuB tlB (d.cut tlN ((T.held * 8207:Nat):Int)).2 by
    rw [hi]
    exact cut_any w1.drew L gd d (HBT1.out.below (below_drewN (Below.refl _ _) 1)).d HT.out.1 tlN (by decide) _ (by omega) (by have:=HT.out.2.2.2.1;have:=HF.out;omega))
   clear hi
   refine wp_region_held_drew (S:=fun x=>x.cell? ⟨gt,0,none⟩=some (.pointer (some ⟨gd,0,none⟩))∧x.cell? ⟨gt,8,none⟩=some (.int .i64 (H:Int))) (by kernel_rfl) hs1 (fun hHeld=>?_)
   apply wpT 0
   apply wpT 1
   apply wpT 2
   apply wpT 3
   apply wpT 4
   apply wpT 5
   apply wpT 6
   apply wpT 7
   apply wpT 8
   apply wpR 9
   intro K hK
   go_simp
   refine HCU.out.mono ?_
   rintro e w2 ⟨L2,hD2,hU2,v,rfl,hv⟩
   have hBT2:=HBT1.out.disk hD2 (show Upd L.ρ L2.ρ w1 w2 from ⟨hU2.os,hU2.tape,hU2.output,hU2.size,hU2.block,hU2.ext⟩)
   have hs2:w2.cell? ⟨gt,0,none⟩=some (.pointer (some ⟨gd,0,none⟩))∧w2.cell? ⟨gt,8,none⟩=some (.int .i64 (H:Int)):=⟨hBT2.t.cells.1,by rw [HT.out.2.2.2.2];exact hBT2.t.cells.2.2.2.2.2.2.2.1⟩
   have HU2:=hid (HU1.out.trans (UB.of_disk (τ:=τ) (show Upd L.ρ L2.ρ w1 w2 from ⟨hU2.os,hU2.tape,hU2.output,hU2.size,hU2.block,hU2.ext⟩)))
   have HBT2:=hid hBT2
   have HV:=hid hv
   clear hD2 hU2 hv hBT2
   apply bk hK
   · exact hs2
   intro hHeld
   clear hK K
   apply wpT 10
   refine wpAnyH_done (by kernel_rfl) ?_ _
   clear hs1 hs2 hw HCU HBT1
   by_cases hy:(d.cut tlN ((T.held * 8207:Nat):Int)).2=0
   · have hv:=HV.out
     rw [hy] at hv
     obtain rfl:v=.nilIface:=(hv.resolve_right fun q=>q.1 rfl).2
     have HQ:=hid (show fl3 N d T=fl4 (d.cut tlN ((T.held * 8207:Nat):Int)).1 { T with l0:=true } by rw [HEQ.out];exact if_neg (fun q=>q hy))
     have HP2:=hid (HP2.out hy)
     clear hv hy
     go_wp2_with fail
     refine HK.out _ _ ?_
     rw [dropSeq_succ,HQ.out]
     refine wp_mono (flush_4 w2 L2 τ gt gd _ _ Y HBT2.out HP2.out.a HT.out.2.2.2.1 (HU2.out.half HT.out.2.1 (by have:=HH.out.t.sz;omega) HT.out.2.2.1 (HH.out.t.low 2 (by decide))) HP2.out.b HP2.out.c _ _ _ _ _ _ _ _ _ _ _ _ _ _ _ _ _ _ _ _ _ _ _ _ _ _ _ _ _ _ _ _ _ _ _ _ _ _ _ _ _ _ _ _ _ _ _ _ _ _ _ _ _ _ _ _ _ _ _ _ _ _ _ _ _ _ _ _ _ _ _ _ _ _ _ _ _ _ _ _ _ _ _ _ _ _ _ ) ?_
     exact bodyPost_mono' (fun e w' ⟨v,q1,q2,L',q3,q4⟩=>⟨v,q1,q2,L',q3,HU2.out.trans q4⟩)
   · have HY:=hid hy
     obtain ⟨g2,rfl,hg2,-⟩:=(HV.out.resolve_left fun q=>hy q.1).2
     have HG:=hid hg2
     have HQ:=hid (show fl3 N d T=((d.cut tlN ((T.held * 8207:Nat):Int)).1,{ T with l0:=true },(d.cut tlN ((T.held * 8207:Nat):Int)).2) by rw [HEQ.out];exact if_pos hy)
     clear hy hg2
     go_wp2_with fail
     go_ret
     rw [HQ.out]
     exact ⟨_,rfl,.inr ⟨HY.out,_,_,g2,rfl,HG.out⟩,L2,HBT2.out,HU2.out⟩
 · have h9:decide ((H:Int) * 8207 < N)=false:=decide_eq_false (by rw [hH];have:=hN;push_cast at this;exact this)
   have HQ:=hid (show fl3 N d T=fl4 d T by unfold fl3;rw [if_neg hN])
   have q:=hp1 hN
   have HX:=hid (fun u1 u2 u3 u4 u5 u6 u7 u8 u9 uA uB uC uD uE uF uG uH uI uJ uK uL uM uN uO uP uQ uR uS uT uU uV uW uX uY uZ vA vB vC vD vE vF vG vH vI vJ vK vL vM vN vO vP vQ vR vS vT vU vV vW vX vY vZ qA qB qC qD qE qF qG qH qI qJ qK qL qM qN qO qP qQ qR qS qT qU qV qW qX qY qZ=>flush_4 w L τ gt gd d T Y h q.a hh ht q.b q.c u1 u2 u3 u4 u5 u6 u7 u8 u9 uA uB uC uD uE uF uG uH uI uJ uK uL uM uN uO uP uQ uR uS uT uU uV uW uX uY uZ vA vB vC vD vE vF vG vH vI vJ vK vL vM vN vO vP vQ vR vS vT vU vV vW vX vY vZ qA qB qC qD qE qF qG qH qI qJ qK qL qM qN qO qP qQ qR qS qT qU qV qW qX qY qZ)
   clear h hp ht hh hl2 hp1 hp2 hN hfew hH q
   refine wp_two_k (c:=dropSeq 7 fl0) ⟨_,_,rfl⟩ fun K hK=>?_
   have HK:=hid hK
   clear hK
   conv=>arg 2;whnf
   go_wp2_with fail
   refine HK.out _ _ ?_
   rw [dropSeq_succ,HQ.out]
   exact HX.out _ _ _ _ _ _ _ _ _ _ _ _ _ _ _ _ _ _ _ _ _ _ _ _ _ _ _ _ _ _ _ _ _ _ _ _ _ _ _ _ _ _ _ _ _ _ _ _ _ _ _ _ _ _ _ _ _ _ _ _ _ _ _ _ _ _ _ _ _ _ _ _ _ _ _ _ _ _ _ _ _ _ _ _ _ _ _ 
end
end Go.Proofs.YtgkehahklccacaaGreatDoor
