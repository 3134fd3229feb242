import Derived.Test.YtgkehahklccacaaGreatDoorC03
import Derived.Test.YtgkehahklccacaaGreatDoorC14
import Derived.Laws.EntriesVeiled
import Derived.Shelf.SlIter.Keys
import Derived.Shelf.SlIter.Collect
import Derived.RangeFuncNested
import Derived.RangeFuncBound
import Derived.RangeFuncCalls
import Derived.RangeFuncLeaves
import Derived.RangeFuncBox
import Derived.RangeFuncWrites
import Derived.Shelf.Abstract
import Derived.Shelf.RegionOpen
import Derived.WalkKit
import Derived.OwnWalkIn
import Derived.TacticsInMore
import Derived.LoopNIn
import Derived.LoopIn
import Derived.Maps.OwnIn
import Derived.Maps.AppendAt
import Derived.Test.YtgkehahklccacaaGreatDoorCL3
import Derived.Shelf.SlSortCmp.NoneTotal
namespace Go.Proofs.YtgkehahklccacaaGreatDoor
open Go Go.RowKit
open Go.Lib (hid)
set_option maxRecDepth 100000
set_option maxHeartbeats 1000000
set_option linter.unusedVariables false
set_option linter.unusedSimpArgs false
section
open Go.Maps Go.WideMaps
abbrev boxFn (bs_ bp bd:Nat):Obj:=.cells #[.func (.func 164) #[] #[.pointer (some ⟨bs_,0,none⟩),.pointer (some ⟨bp,0,none⟩),.pointer (some ⟨bd,0,none⟩)]] 110
theorem append2_any (w:World) (L:Lay) (gd:Nat) (d:Dm) (h:DAt w L gd d) (i:Nat) (hi:i < d.fs.length) (a:Option Addr) (m c:Nat) (fit:List UInt8) (hfit:RdO w L.ρ a m c fit) (hml:(d.file i).now.length+m≤2147483647) (hlo:(d.file i).loose.length < 1099511627776)
 (bs_ bp bd bf:Nat) (hbs:Cap w L.ρ bs_ (boxS a m c)) (hbp:Cap w L.ρ bp (boxP (L.fa i))) (hbd:Cap w L.ρ bd (boxD gd)) (hbf:Cap w L.ρ bf (boxFn bs_ bp bd)) :
 Calls Tryz.prog 165 #[.pointer (some ⟨bf,0,none⟩),.pointer (some ⟨bs_,0,none⟩)] w fun e w'=>e=.returned (.tuple #[])∧∃ L',DAt w' L' gd (partOf i fit m d)∧Upd L.ρ L'.ρ w w':=by
 have k0:=cell0 hbf.1
 have k1:=cell0 hbs.1
 have HX:=hid (append1_any w L gd d h i hi a m c fit hfit hml hlo m bs_ bp bd hbs hbp hbd)
 clear h hfit hbs hbp hbd hbf hml hlo
 go_enter Tryz.func165,Tryz.ntmps165
 go_wp2_with (go_at_call 164;refine HX.out.mono ?_;rintro e w4 ⟨rfl,hx⟩)
 go_end0
 exact ⟨rfl,hx⟩
abbrev apB:ByteArray:=⟨#[65,112,112,101,110,100]⟩
theorem append_any (w:World) (L:Lay) (gd:Nat) (d:Dm) (h:DAt w L gd d) (hp:Pre d) (s:Nm) (hs:s.length≤maxLen) (pa:Option Addr) (pn pc:Nat) (p:List UInt8) (hrd:RdO w L.ρ pa pn pc p) (hpn:pn≤140737488355328) :
 Calls Tryz.prog 100 #[.pointer (some ⟨gd,0,none⟩),.string (bs s),.slice pa pn pc] w fun e w'=>∃ L',DAt w' L' gd (d.append s p).1∧Upd L.ρ L'.ρ w w'∧∃ v,e=.returned v∧ToldV v w' L'.ρ apB (bs s) (d.append s p).2:=by
 obtain ⟨w1,hw1⟩:∃ w1,w1=w.alloc (boxD gd):=⟨_,rfl⟩
 have hb1:Below w.heap.size w w1:=by rw [hw1];exact bel1 _ _
 have g0:w1.heap[w.heap.size]?=some (boxD gd):=by rw [hw1];exact heap_alloc_new w _
 have HD1:=hid (h.below hb1)
 have HU1:=hid (Upd.of_below (ρ:=L.ρ) hb1)
 have G0:=hid (show Cap w1 L.ρ w.heap.size (boxD gd) from ⟨g0,h.new _ (Nat.le_refl _)⟩)
 have k0:=cell0 g0
 have z1:w.heap.size < w1.heap.size:=by rw [hw1];simp
 have HP:=hid hp
 have HRD:=hid hrd
 have HA:=hid (ask1 (w1.alloc (.cells #[.string (bs s)] 9)) L gd d (HD1.out.below (bel1 _ _)) w1.heap.size 0 1 s hs (cell0 (heap_alloc_new w1 _)))
 clear h hb1 g0 hp hrd
 go_enter Tryz.func100,Tryz.ntmps100
 go_upto_region 1 with (fail)
 rw [← hw1]
 clear hw1
 go_wp2_with fail
 with_reducible refine HA.out.mono ?_
 rintro e w3 ⟨rfl,hb3⟩
 have hb13:Below w1.heap.size w1 w3:=(bel1 w1 _).trans (hb3.mono (by simp))
 have HD3:=hid (HD1.out.below hb13)
 have HU3:=hid (HU1.out.trans (Upd.of_below (ρ:=L.ρ) hb13))
 have HG0:=hid (G0.out.below hb13)
 have hz3:w1.heap.size≤w3.heap.size:=hb13.size
 clear k0 hb13 hb3 HA
 obtain ⟨r,why,hask⟩:∃ r why,d.ask s=(r,why):=⟨_,_,rfl⟩
 rw [hask]
 dsimp only
 cases e0:(why == 0)
 · have hr:r=none:=ask_fst hask (by simpa using e0)
   subst hr
   have e0n:(why != 0)=true:=by rw [bne,e0];rfl
   have HE:=hid (show d.append s p=(d,why) by unfold Dm.append;rw [hask])
   have HD4:=hid (HD3.out.below (bel1 w3 (.cells #[.pointer none] 109)))
   have HU4:=hid (HU3.out.trans (Upd.of_below (ρ:=L.ρ) (bel1 w3 (.cells #[.pointer none] 109))))
   rw [show madeV L.fa none=.pointer none from rfl]
   clear hask
   go_wp2_with fail
   with_reducible refine (told2 (w3.alloc (.cells #[.pointer none] 109)) L.ρ HD4.out.dom apB (bs s) why).mono ?_
   rintro e w9 ⟨⟨v,rfl,hv⟩,hb9⟩
   have HV:=hid hv
   have HB9:=hid hb9
   clear hv hb9
   go_wp2_with fail
   go_ret
   exact ⟨L,by rw [HE.out];exact HD4.out.below HB9.out,HU4.out.trans (Upd.of_below HB9.out),v,rfl,by rw [HE.out];exact HV.out⟩
 obtain rfl:why=0:=by simpa using e0
 clear e0
 obtain ⟨i,rfl,hk,hl⟩:=ask_zero hask
 have hi:i < d.fs.length:=HP.out.refs.nm s i hk
 rw [show madeV L.fa (some i)=.pointer (some ⟨L.fa i,0,none⟩) from rfl]
 obtain ⟨w4,hw4⟩:∃ w4,w4=w3.alloc (boxP (L.fa i)):=⟨_,rfl⟩
 have hb4:Below w3.heap.size w3 w4:=by rw [hw4];exact bel1 _ _
 have hcap:Cap w4 L.ρ w3.heap.size (boxP (L.fa i)):=⟨by rw [hw4];exact heap_alloc_new w3 _,HD3.out.new _ (Nat.le_refl _)⟩
 have hd4:=HD3.out.below hb4
 have hz4:w3.heap.size < w4.heap.size:=by rw [hw4];simp
 have HCAP:=hid hcap
 have HD4:=hid hd4
 have HU4:=hid (HU3.out.trans (Upd.of_below (ρ:=L.ρ) hb4))
 have HG04:=hid (HG0.out.below hb4)
 have HRD4:=hid (HRD.out.upd HU4.out)
 obtain ⟨vn,vs,vl,hf⟩:=hd4.at hi
 obtain ⟨av,cv,hvn,-⟩:=owns_shape hf.now.1
 obtain ⟨nv,hnv⟩:∃ nv,nv=(d.file i).now.length:=⟨_,rfl⟩
 rw [← hnv] at hvn
 subst hvn
 have n1:=hf.cells.2.1
 have kp:=cell0 hcap.1
 have kd:=cell0 HG04.out.1
 have c1:=hd4.cells.2.1
 have c2:=hd4.cells.2.2.1
 have HNV:=hid hnv
 have hnl:nv≤2147483647:=by rw [hnv];exact (HP.out.file i).1
 have hpl:p.length=pn:=HRD.out.1.1
 have HPL:=hid hpl
 have HASK:=hid hask
 clear hb4 hcap hd4 hf hnv hask hpl hk hl
 go_upto_region 2 with (fail)
 rw [← hw4]
 clear hw4
 by_cases hbig:(2147483647:Int) - (nv:Int) < (pn:Int)
 · have HE:=hid (show d.append s p=(d,31) by unfold Dm.append;rw [HASK.out];dsimp only;rw [if_pos (by rw [← HNV.out,HPL.out];exact hbig)])
   go_wp2_with fail
   with_reducible refine (told2 w4 L.ρ HD4.out.dom apB (bs s) 31).mono ?_
   rintro e w9 ⟨⟨v,rfl,hv⟩,hb9⟩
   have HV:=hid hv
   have HB9:=hid hb9
   clear hv hb9
   go_wp2_with fail
   go_ret
   exact ⟨L,by rw [HE.out];exact HD4.out.below HB9.out,HU4.out.trans (Upd.of_below HB9.out),v,rfl,by rw [HE.out];exact HV.out⟩
 obtain ⟨sp,hsp⟩:∃ sp,sp=d.space:=⟨_,rfl⟩
 obtain ⟨us,hus⟩:∃ us,us=d.used:=⟨_,rfl⟩
 rw [← hsp] at c1
 rw [← hus] at c2
 have HSU:=hid (And.intro hsp hus)
 clear hsp hus
 obtain ⟨m,hm,hmp⟩:∃ m:Nat,min (pn:Int) (max (wrap64 (sp - us)) 0)=(m:Int)∧m≤pn:=⟨(min (pn:Int) (max (wrap64 (sp - us)) 0)).toNat,by omega,by omega⟩
 have hsl:=fun wx=>slice_cut wx pa pn pc m (by have:=HRD.out.1.2.1;omega)
 have hm':min (pn:Int) (max (IntKind.i64.wrap (sp - us)) 0)=(m:Int):=by rw [IntWalk.i64_left];exact hm
 go_wp2_with fail
 refine wp_region_held_drew (S:=fun w'=>w'.cell? ⟨w.heap.size,0,none⟩=some (.pointer (some ⟨gd,0,none⟩))∧w'.cell? ⟨gd,1,none⟩=some (.int .i64 sp)∧w'.cell? ⟨gd,2,none⟩=some (.int .i64 us)) (by kernel_rfl) ⟨kd,c1,c2⟩ (fun hHeld=>?_)
 apply wpT 0
 apply wpT 1
 apply wpT 2
 apply wpT 3
 apply wpT 4
 apply wpT 5
 apply wpT 6
 apply wpT 7
 apply wpT 8
 apply wpT 9
 apply wpT 10
 apply wpT 11
 apply wpT 12
 apply wpT 13
 apply wpT 14
 apply wpR 15
 intro K hK
 go_simp
 refine hK.out _ _ ⟨keepc (bel1 w4.drew _) kd,keepc (bel1 w4.drew _) c1,keepc (bel1 w4.drew _) c2⟩ (fun hHeld=>?_)
 clear hK K
 (try simp only [Act.put,List.setIfInBounds_toArray,List.set_cons_zero,List.set_cons_succ,List.getElem_toArray,List.getElem_cons_succ,List.getElem_cons_zero])
 apply wpR 16
 intro K hK
 go_simp
 refine hK.out _ _ ⟨keepc (show Below w4.heap.size w4 (w4.alloc (boxS pa m pc)).drew from (bel1 w4 _).drew) kd,keepc (show Below w4.heap.size w4 (w4.alloc (boxS pa m pc)).drew from (bel1 w4 _).drew) c1,keepc (show Below w4.heap.size w4 (w4.alloc (boxS pa m pc)).drew from (bel1 w4 _).drew) c2⟩ (fun hHeld=>?_)
 clear hK K
 (try simp only [Act.put,List.setIfInBounds_toArray,List.set_cons_zero,List.set_cons_succ,List.getElem_toArray,List.getElem_cons_succ,List.getElem_cons_zero])
 refine wpAnyH_done (by kernel_rfl) ?_ _
 obtain ⟨w5,hw5⟩:∃ w5,w5=(w4.alloc (boxS pa m pc)).drew:=⟨_,rfl⟩
 have hb5:Below w4.heap.size w4 w5:=by rw [hw5];exact (bel1 w4 _).drew
 have hs5:Cap w5 L.ρ w4.heap.size (boxS pa m pc):=⟨by rw [hw5];exact heap_alloc_new w4 _,HD4.out.new _ (Nat.le_refl _)⟩
 have hz5:w4.heap.size < w5.heap.size:=by rw [hw5];show _ < (w4.alloc (boxS pa m pc)).heap.size;simp
 rw [← hw5]
 obtain ⟨w6,hw6⟩:∃ w6,w6=w5.alloc (boxFn w4.heap.size w3.heap.size w.heap.size):=⟨_,rfl⟩
 have hb56:Below w5.heap.size w5 w6:=by rw [hw6];exact bel1 _ _
 have hb6:Below w4.heap.size w4 w6:=hb5.trans (hb56.mono hb5.size)
 have HF6:=hid (show Cap w6 L.ρ w5.heap.size (boxFn w4.heap.size w3.heap.size w.heap.size) from ⟨by rw [hw6];exact heap_alloc_new w5 _,HD4.out.new _ (by omega)⟩)
 have HS6:=hid (hs5.below hb56)
 have HD6:=hid (HD4.out.below hb6)
 have HU6:=hid (HU4.out.trans (Upd.of_below (ρ:=L.ρ) hb6))
 have HB6:=hid (HCAP.out.below hb6)
 have HG6:=hid (HG04.out.below hb6)
 have HR6:=hid (HRD4.out.upd (Upd.of_below (ρ:=L.ρ) hb6))
 have kd6:=cell0 HG6.out.1
 have c06:=HD6.out.cells.1
 have hbd6:w.heap.size < w6.heap.size:=(Array.getElem?_eq_some_iff.1 HG6.out.1).1
 have hgd6:gd < w6.heap.size:=HD6.out.lt
 clear hb5 hs5 hw5 hb56 hb6 kd kp n1 c1 c2 hsl hm' hHeld
 have HM:=hid hm
 clear hm
 go_upto_region 8 with (fail)
 rw [← hw6]
 clear hw6
 have hfld:∀ (f:Flt) (wx:World),(Instr.field 35 (fltA f) 1).run Tryz.prog wx=.ok (.int .i64 f.kind) wx:=fun f wx=>by kernel_rfl
 have HPL6:=hid (planned_any w6.drew L gd d (HD6.out.below (Below.refl _ _).drew) d.acts)
 obtain ⟨f0,hf0⟩:∃ f0,f0=d.planned d.acts:=⟨_,rfl⟩
 have HF0:=hid hf0
 rw [← hf0] at HPL6
 clear hf0
 go_wp2_with fail
 go_region_held3 (fun w'=>w'.cell? ⟨w.heap.size,0,none⟩=some (.pointer (some ⟨gd,0,none⟩))∧w'.cell? ⟨gd,0,none⟩=some (.int .i64 d.acts)) (first | exact ⟨kd6,c06⟩ | exact ⟨keepc hb7 kd6,keepc hb7 c06⟩)
  (first | (go_at_call 156;refine HPL6.out.mono ?_;rintro e w7 ⟨rfl,hb7⟩;have hfl:=hfld f0))
 have hb7':Below w6.heap.size w6 w7:=((Below.refl w6.heap.size w6).drew).trans hb7
 have HD7:=hid (HD6.out.below hb7')
 have HU7:=hid (HU6.out.trans (Upd.of_below (ρ:=L.ρ) hb7'))
 have HF7:=hid (HF6.out.below hb7')
 have HS7:=hid (HS6.out.below hb7')
 have HB7:=hid (HB6.out.below hb7')
 have HG7:=hid (HG6.out.below hb7')
 have HR7:=hid (show RdO w7 L.ρ pa m pc (p.take m) from ⟨(HR6.out.upd (Upd.of_below (ρ:=L.ρ) hb7')).1.take m hmp,fun b off e h0=>(HR6.out.upd (Upd.of_below (ρ:=L.ρ) hb7')).2 b off e (by omega)⟩)
 have kd7:=cell0 HG7.out.1
 have kf7:=cell0 HF7.out.1
 clear hb7 hb7' kd6 c06 hfl hfld
 have hml:(d.file i).now.length+m≤2147483647:=by rw [← HNV.out];omega
 have HBG:=hid (begin_append w7 L gd d HD7.out (by have:=HP.out.acts;omega) (.pointer (some ⟨w5.heap.size,0,none⟩)) (.pointer (some ⟨w4.heap.size,0,none⟩)) (.pointer (some ⟨w4.heap.size,0,none⟩)) (.pointer (some ⟨w3.heap.size,0,none⟩)) (.pointer (some ⟨w.heap.size,0,none⟩)) (partOf i (p.take m) m) (partOf i (p.take m))
  (fun w2 hu2 hd2=>append2_any w2 L gd _ hd2 i hi pa m pc (p.take m) (HR7.out.upd hu2) hml (HP.out.file i).2.2 w4.heap.size w3.heap.size w.heap.size w5.heap.size (HS7.out.upd hu2) (HB7.out.upd hu2) (HG7.out.upd hu2) (HF7.out.upd hu2))
  (fun w2 n hu2 hd2=>append1_any w2 L gd _ hd2 i hi pa m pc (p.take m) (HR7.out.upd hu2) hml (HP.out.file i).2.2 n w4.heap.size w3.heap.size w.heap.size (HS7.out.upd hu2) (HB7.out.upd hu2) (HG7.out.upd hu2)))
 obtain ⟨rr,hrr⟩:∃ rr,rr=d.begin (partOf i (p.take m) m) (partOf i (p.take m)):=⟨_,rfl⟩
 rw [← hrr] at HBG
 have hpm:p.take (max (wrap64 (d.space - d.used)) 0).toNat=p.take m:=by
  rw [← HSU.out.1,← HSU.out.2]
  have h1:=HM.out
  have h2:=HPL.out
  by_cases hc:(max (wrap64 (sp - us)) 0).toNat≤pn
  · rw [show m=(max (wrap64 (sp - us)) 0).toNat by omega]
  · rw [List.take_of_length_le (by omega),List.take_of_length_le (by omega)]
 have hpt:(p.take m).length=m:=by rw [List.length_take];have:=HPL.out;omega
 have HAP:=hid (show d.append s p=if f0.kind=0∧m < pn then (rr.1,31) else rr by
  unfold Dm.append;rw [HASK.out];dsimp only
  rw [if_neg (by rw [← HNV.out,HPL.out];omega),hpm,hpt,← HF0.out,HPL.out,hrr])
 clear hpm hpt hml hrr hnl hbig
 cases e1:(f0.kind == 0)
 · have HE:=hid (show d.append s p=rr by rw [HAP.out,if_neg (fun h=>by rw [beq_eq_false_iff_ne] at e1;exact e1 h.1)])
   have e1n:(f0.kind != 0)=true:=by rw [bne,e1];rfl
   clear HAP
   go_wp2_with (go_at_call 94;refine HBG.out.mono ?_;rintro e w8 ⟨rfl,L8,hd8,hu8⟩;have HD8:=hid hd8;have HU8:=hid (HU7.out.trans hu8);have k8:=cell0 (HS7.out.upd hu8).1;clear hd8 hu8 kd7 kf7)
   with_reducible refine (told2 w8 L8.ρ HD8.out.dom apB (bs s) rr.2).mono ?_
   rintro e w9 ⟨⟨v,rfl,hv⟩,hb9⟩
   have HV:=hid hv
   have HB9:=hid hb9
   clear hv hb9
   go_wp2_with fail
   go_ret
   exact ⟨L8,by rw [HE.out];exact HD8.out.below HB9.out,HU8.out.trans (Upd.of_below HB9.out),v,rfl,by rw [HE.out];exact HV.out⟩
 · by_cases hmq:m < pn
   · have hmqI:(m:Int) < (pn:Int):=by omega
     have HE:=hid (show d.append s p=(rr.1,31) by rw [HAP.out,if_pos ⟨by simpa using e1,hmq⟩])
     have e1n:(f0.kind != 0)=false:=by rw [bne,e1];rfl
     clear HAP
     go_wp2_with (go_at_call 94;refine HBG.out.mono ?_;rintro e w8 ⟨rfl,L8,hd8,hu8⟩;have HD8:=hid hd8;have HU8:=hid (HU7.out.trans hu8);have k8:=cell0 (HS7.out.upd hu8).1;clear hd8 hu8 kd7 kf7)
     with_reducible refine (told2 w8 L8.ρ HD8.out.dom apB (bs s) 31).mono ?_
     rintro e w9 ⟨⟨v,rfl,hv⟩,hb9⟩
     have HV:=hid hv
     have HB9:=hid hb9
     clear hv hb9
     go_wp2_with fail
     go_ret
     exact ⟨L8,by rw [HE.out];exact HD8.out.below HB9.out,HU8.out.trans (Upd.of_below HB9.out),v,rfl,by rw [HE.out];exact HV.out⟩
   · have hmqI:¬ (m:Int) < (pn:Int):=by omega
     have HE:=hid (show d.append s p=rr by rw [HAP.out,if_neg (fun h=>hmq h.2)])
     have e1n:(f0.kind != 0)=false:=by rw [bne,e1];rfl
     clear HAP
     go_wp2_with (go_at_call 94;refine HBG.out.mono ?_;rintro e w8 ⟨rfl,L8,hd8,hu8⟩;have HD8:=hid hd8;have HU8:=hid (HU7.out.trans hu8);have k8:=cell0 (HS7.out.upd hu8).1;clear hd8 hu8 kd7 kf7)
     with_reducible refine (told2 w8 L8.ρ HD8.out.dom apB (bs s) rr.2).mono ?_
     rintro e w9 ⟨⟨v,rfl,hv⟩,hb9⟩
     have HV:=hid hv
     have HB9:=hid hb9
     clear hv hb9
     go_wp2_with fail
     go_ret
     exact ⟨L8,by rw [HE.out];exact HD8.out.below HB9.out,HU8.out.trans (Upd.of_below HB9.out),v,rfl,by rw [HE.out];exact HV.out⟩
end
section
open Go Go.RowKit Go.Shelf Go.Maps Go.Sort
set_option maxHeartbeats 2000000
attribute [local go_sem] Oper.semAt_some
def encP (o:Option Nat):Value:=.pointer (o.map fun g=>⟨g,0,none⟩)
def valD:Option Nat→DataW Unit
 | none=>.nil
 | some g=>.lit (.int .i64 (g:Nat))
theorem encP_of {v:Value} {y:DataW Unit × List MemPlace} (h:ptrR v=some y):∃ c,v=encP c:=by
 obtain ⟨x,ps⟩:=y
 obtain ⟨rfl,hx⟩:=ptrR_inv h
 rcases hx with rfl | ⟨g,rfl⟩
 · exact ⟨none,rfl⟩
 · exact ⟨some g,by simp [ptrOf,encP]⟩
theorem ptrR_enc {c:Option Nat} {yd:DataW Unit} {yp:List MemPlace} (h:ptrR (encP c)=some (yd,yp)):yd=valD c:=by
 cases c <;> (simp [encP,ptrR] at h;exact h.1.symm)
def ValsOf (D0:DataW Unit) (xs:List (Option Nat)):Prop:=∃ ps:List (List UInt8 × Option Nat),(ps.map (·.1)).Perm (strKeys D0)∧(∀ p ∈ ps,∀ zd,D0.atKey (.string p.1) zd=valD p.2)∧xs=ps.map (·.2)
theorem vals_in (n:Nat) (hn:1≤n) (l Bm b nn:Nat) (D0:DataW Unit) (J Jx:List (Option Nat)→World→Prop)
 (hY:∀ pre x W,J pre W→pre.length < Maps.size D0→YieldAt Fence.wide (n - 1) Tryz.prog l #[encP x] W fun e W' =>
   (e=.returned (.bool true)∧J (pre++[x]) W'∧KeepsWalks W W')∨(e=.returned (.bool false)∧Jx (pre++[x]) W'))
 (W:World) (hJ:AbidesFrom W.heap.size J) (hm:W.cell? ⟨Bm,0,none⟩=some (.map (some b))) (hown:W.ownsMap Tryz.prog 9 ptrR b nn D0) (h0:J [] W) :
 CallsIn Fence.wide n Tryz.prog 169 #[.func (.yield l) #[] #[],.pointer (some ⟨Bm,0,none⟩)] W fun e W'=>(∃ v,e=.returned v) ∧
  ((∃ xs,ValsOf D0 xs∧J xs W')∨(∃ pre,Jx pre W')):=by
 refine callsIn_of_wp Tryz.func169 rfl trivial ?_ rfl
 simp only [Tryz.ntmps169,List.size_toArray,List.length_cons,List.length_nil,Nat.reduceAdd,Nat.reduceSub,Array.replicate_succ,Array.replicate_zero,List.push_toArray,List.append_toArray,List.nil_append,List.cons_append]
 gi_wp2_with (first
  | (gi_at_range;refine wpListIn_range_own _ rfl _ 47 rfl 9 109 (string_keyed Tryz.underlying9) Tryz.underlying47 _ b nn _ rfl hown ?_;intro w0 hrg0 hg0 hs0)
  | gi_in)
 go_frame
 gi_loopw [4] (fun _ wr=>∃ (left:Lit→Bool) (cnt:Nat) (ps:List (List UInt8 × Option Nat)),wr.ranges Tryz.prog 9 ptrR b W.heap.size nn D0 left cnt∧ps.length+cnt≤Maps.size D0∧Collected D0 left (ps.map (·.1))∧(∀ p ∈ ps,∀ zd,D0.atKey (.string p.1) zd=valD p.2)∧J (ps.map (·.2)) wr)
  (fun _ wr=>wr.rangeLeft b W.heap.size)
 case atStart =>
  exact ⟨_,_,[],hrg0,by simp,Collected.start D0,by simp,hJ [] W w0 none h0 hg0 (fun r e=>by cases e)⟩
 case round =>
  obtain ⟨left,cnt,ps,hrg,hcs,hC,hV,hJs⟩:=hrel
  gi_wp2_with (first
   | (gi_at_next;refine wpListIn_next_ranges _ rfl _ rfl 9 (string_keyed Tryz.underlying9) ptrR encStr encP (fun key kl hk=>by obtain ⟨x,hx,_⟩:=Maps.keyOf_str Tryz.underlying9 hk;exact ⟨x,hx⟩) (fun v y hv=>encP_of hv) b W.heap.size nn _ _ _ rfl hrg ?_ ?_)
   | gi_in)
  · intro hc0 hl0
    gi_wp2
    go_end0
    exact ⟨⟨_,rfl⟩,.inl ⟨_,⟨ps,hC.perm hown (string_keyed Tryz.underlying9) Tryz.underlying9 hl0,hV,rfl⟩,hJs⟩⟩
  · intro x c kl yd yp w2 cnt2 hkey hlk hv hat hrg2 hlt hg2 hs2 hen
    obtain ⟨x',ex,rfl,_⟩:=Maps.keyOf_str Tryz.underlying9 hkey
    obtain rfl:x=x':=encStr_inj ex
    obtain rfl:=ptrR_enc hv
    have hJ2:J (ps.map (·.2)) w2:=hJ _ wr w2 (some W.heap.size) hJs hg2 (fun r e=>by cases e;exact ⟨Nat.le_refl _,hrg.iter_walk⟩)
    obtain ⟨fn,tmps,assign,body,hy,hR⟩:=hY (ps.map (·.2)) c w2 hJ2 (by simp;omega)
    clear hs2
    gi_wp2
    refine hR.mono ?_
    have hC2:Collected D0 (fun z=>left z && !z.sameKey (.string x)) ((ps++[(x,c)]).map (·.1)):=by simpa using hC.step hlk hat
    have hV2:∀ p ∈ ps++[(x,c)],∀ zd,D0.atKey (.string p.1) zd=valD p.2:=fun p hp=>(List.mem_append.1 hp).elim (hV p) (fun e=>by simp at e;subst e;exact hat)
    rintro e W3 (⟨rfl,hJ3,hk3⟩ | ⟨rfl,hJx3⟩)
    · gi_wp2
      have hrg3:=hrg2.of_walks hk3
      go_roundw
      case rel=>exact ⟨_,cnt2,ps++[(x,c)],hrg3,by simp;omega,hC2,hV2,by simpa using hJ3⟩
      case measure=>rw [hrg3.left_eq,hrg.left_eq];exact hlt
    · gi_wp2
      refine bodyPost_ret (results_none rfl _ _ _) rfl ?_
      exact ⟨⟨_,rfl⟩,.inr ⟨_,hJx3⟩⟩
theorem values_any (mb:Option Nat) (w:World):CallsIn Fence.wide 5 Tryz.prog 104 #[.map mb] w fun e w'=>e=.returned (.func (.func 169) #[] #[.pointer (some ⟨w.heap.size,0,none⟩)])∧w'=w.alloc (.cells #[.map mb] 47):=by
 refine callsIn_of_wp Tryz.func104 rfl trivial ?_ rfl
 simp only [Tryz.ntmps104,List.size_toArray,List.length_cons,List.length_nil,Nat.reduceAdd,Nat.reduceSub,Array.replicate_succ,Array.replicate_zero,List.push_toArray,List.append_toArray,List.nil_append,List.cons_append]
 gi_wp2
 go_ret
 exact ⟨rfl,rfl⟩
theorem vals_stops (Bm b nn:Nat) (D0:DataW Unit) (w:World) (hBm:Bm < w.heap.size) (hm:w.cell? ⟨Bm,0,none⟩=some (.map (some b))) (hown:w.ownsMap Tryz.prog 9 ptrR b nn D0) :
 SeqStopsK Fence.wide 2 Tryz.prog 169 #[.pointer (some ⟨Bm,0,none⟩)] (fun o=>#[encP o]) KeepsWalks (ValsOf D0) (fun _=>True) (Maps.size D0) w:=fun l J Jx W hW hJ _ hY h0=>by
 have hown':W.ownsMap Tryz.prog 9 ptrR b nn D0:=by
  have hbl:=hown.lt
  obtain ⟨es,clock,hb,Ft,hs,hD⟩:=hown
  exact ⟨es,clock,(hW.block b hbl).trans hb,Ft,hs,hD⟩
 refine (vals_in 2 (by omega) l Bm b nn D0 J Jx hY W hJ ((hW.cell (p:=⟨Bm,0,none⟩) hBm).trans hm) hown' h0).mono ?_
 rintro e W' ⟨h1,⟨xs,h2,h3⟩ | ⟨pre,h2⟩⟩
 · exact ⟨h1,.inl ⟨xs,h2,h3⟩⟩
 · exact ⟨h1,.inr ⟨pre,trivial,h2⟩⟩
theorem info76:(Tryz.prog.info? 109).map (fun i=>(i.zero,i.size,i.bytes))=some (some (.pointer none),1,8):=by kernel_rfl
end
section
open Go Go.RowKit Go.Shelf Go.Maps Go.Sort
set_option maxHeartbeats 2000000
attribute [local go_sem] Oper.semAt_some
set_option maxRecDepth 100000 in
theorem collect1_in (w:World) (Bm b nn:Nat) (D0:DataW Unit) (hBm:Bm < w.heap.size) (hm:w.cell? ⟨Bm,0,none⟩=some (.map (some b))) (hown:w.ownsMap Tryz.prog 9 ptrR b nn D0) (hN:Maps.size D0≤1099511627776) :
 CallsIn Fence.wide 3 Tryz.prog 168 #[.slice none 0 0,.func (.func 169) #[] #[.pointer (some ⟨Bm,0,none⟩)]] w fun e W'=>∃ v xs,e=.returned v∧ValsOf D0 xs∧W'.ownsRow w.heap.size 109 1 v xs.length (xs.map encP)∧Below w.heap.size w W':=by
 obtain ⟨i0,hi,hz0,hz1,hz2⟩:=info_parts info76
 refine callsIn_of_wp_marks Tryz.func168 rfl trivial ?_ rfl
 simp only [Tryz.ntmps168,List.size_toArray,List.length_cons,List.length_nil,Nat.reduceAdd,Nat.reduceSub,Array.replicate_succ,Array.replicate_zero,List.push_toArray,List.append_toArray,List.nil_append,List.cons_append]
 gi_wp2
 have bO:=Boxed.new w 107 (.slice none 0 0)
 have hB0:Below w.heap.size w (w.alloc (.cells #[.slice none 0 0] 107)):=(Below.refl _ w).alloc (Nat.le_refl _) _
 have hm0:=(hB0.cell (p:=⟨Bm,0,none⟩) hBm).trans hm
 refine wpIn_rangeFunc_ownF (n:=3) (F:=Fence.wide) rfl (by omega) (gf:=169) (lb:=#[.pointer (some ⟨Bm,0,none⟩)]) rfl trivial (enters_of Tryz.func169 (by kernel_rfl) rfl)
  (vals_stops Bm b nn D0 _ (by simp;omega) hm0 (hown.alloc _)) walksK_t walksK_b (Below.refl _ _) (fun _=>rfl)
  (fun (pre:List (Option Nat)) W=>(∃ v,Boxed W w.heap.size 107 v∧W.ownsRow w.heap.size 109 1 v pre.length (pre.map encP)∧True)∧Below w.heap.size w W)
  (fun _ _ _=>False)
  (OwnFrom.and (Own.from (holdsRow_own w.heap.size w.heap.size 107 109 1 (fun (pre:List (Option Nat))=>pre.length) (fun pre=>pre.map encP) (fun pre v=>True)) _) (ownFrom_below (Nat.le_refl _) (by simp)))
  (fun _ _ _ _ _ hs _ _=>hs)
  ⟨⟨_,bO,World.ownsRow_nil _ _ _ _,trivial⟩,hB0⟩ ?a1 ?assign ?body ?done ?stop
 case assign =>
  intro l x W K hK
  gi_wp2
  exact hK
 case body =>
  rintro l pre x W ⟨⟨v,hv,hrow,-⟩,hB⟩ hlt
  have hc:=hv.cell
  obtain ⟨px,he⟩:∃ px:Option Addr,encP x=.pointer px:=⟨_,rfl⟩
  have HE:=hid he
  rw [he]
  clear he
  gi_wp2_with (gi_at_builtin;refine wpListIn_append_own _ rfl _ _ 107 rfl w.heap.size 109 i0 (.pointer none) 1 8 Tryz.underlying107 hi hz0 hz1 hz2 rfl (by decide) _ _ _ rfl (hrow.alloc _) ⟨W.heap.size,0,none⟩ 1 1 [.pointer px] rfl rfl (cell_one_new _ _ _) (by simp [Value.oneCell']) (by unfold maxLen;omega) (by omega) (by have:=hB.size;simp;omega) ?_;intro v' w1 hown' hgrow _;obtain ⟨g',cap',rfl⟩:=ownsRow_succ hown';obtain ⟨hv1,hv2,hr2,hk2,hb2⟩:=hv.appended (by decide) hrow hB.size (Nat.le_refl _) hown' hgrow;have hc1:=hv1.cell;have hf1:=hv1.frozen)
  exact ⟨hk2,hk2.walks,⟨_,hv2,by rw [List.map_append,List.map_cons,List.map_nil,HE.out,List.length_append];exact hr2,trivial⟩,hB.trans hb2⟩
 case done =>
  rintro D ys W hD hys ⟨⟨v,hv,hrow,-⟩,hB⟩ hK
  have hc:=hv.cell
  gi_wp2
  refine ⟨by simp,.inl ⟨_,_,rfl,run_takeDeferred hK,?_⟩⟩
  exact ⟨_,results_tmp rfl _ _ _,v,ys,rfl,hys,ownsRow_putObj hrow _ hK rfl,hB.trans (belowK_b (w:=w) (Nat.le_refl _) W D _ _ (by simp at hD;omega) hK rfl rfl)⟩
 case stop =>
  rintro D c pre W _ _ h _
  exact h.elim
theorem collect_any (w:World) (Bm b nn:Nat) (D0:DataW Unit) (hBm:Bm < w.heap.size) (hm:w.cell? ⟨Bm,0,none⟩=some (.map (some b))) (hown:w.ownsMap Tryz.prog 9 ptrR b nn D0) (hN:Maps.size D0≤1099511627776) :
 CallsIn Fence.wide 4 Tryz.prog 103 #[.func (.func 169) #[] #[.pointer (some ⟨Bm,0,none⟩)]] w fun e W'=>∃ v xs,e=.returned v∧ValsOf D0 xs∧W'.ownsRow w.heap.size 109 1 v xs.length (xs.map encP)∧Below w.heap.size w W':=by
 refine callsIn_of_wp Tryz.func103 rfl trivial ?_ rfl
 simp only [Tryz.ntmps103,List.size_toArray,List.length_cons,List.length_nil,Nat.reduceAdd,Nat.reduceSub,Array.replicate_succ,Array.replicate_zero,List.push_toArray,List.append_toArray,List.nil_append,List.cons_append]
 have hf:Fence.wide.fn 168:=trivial
 gi_wp2_with (gi_at_call 168;refine (collect1_in w Bm b nn D0 hBm hm hown hN).mono ?_;rintro e w' ⟨v,xs,rfl,hx⟩)
 go_ret
 exact ⟨_,xs,rfl,hx⟩
end
section
open Go Go.RowKit Go.Shelf Go.Lib Go.Sort
open Go.Maps Go.WideMaps
def cmpI (x y:Int):Int:=if x < y then -1 else if y < x then 1 else 0
theorem isnan_any (w:World) (x:Int):Calls Tryz.prog 171 #[.int .i64 x] w fun e w'=>e=.returned (.bool false)∧w'=w:=by
 have h:(x != x)=false:=by simp
 go_enter Tryz.func171,Tryz.ntmps171
 go_wp2
 go_ret
 exact ⟨by simp,rfl⟩
theorem compare_any (w:World) (x y:Int):Calls Tryz.prog 107 #[.int .i64 x,.int .i64 y] w fun e w'=>e=.returned (.int .i64 (cmpI x y))∧w'=w:=by
 by_cases h1:x < y
 · have HE:=hid (show cmpI x y=-1 by unfold cmpI;rw [if_pos h1])
   go_enter Tryz.func107,Tryz.ntmps107
   go_wp2_with (go_at_call 171;refine (isnan_any _ _).mono ?_;rintro e w' ⟨rfl,rfl⟩)
   go_ret
   exact ⟨by rw [HE.out];rfl,rfl⟩
 · by_cases h2:y < x
   · have HE:=hid (show cmpI x y=1 by unfold cmpI;rw [if_neg h1,if_pos h2])
     go_enter Tryz.func107,Tryz.ntmps107
     go_wp2_with (go_at_call 171;refine (isnan_any _ _).mono ?_;rintro e w' ⟨rfl,rfl⟩)
     go_ret
     exact ⟨by rw [HE.out];rfl,rfl⟩
   · have HE:=hid (show cmpI x y=0 by unfold cmpI;rw [if_neg h1,if_neg h2])
     go_enter Tryz.func107,Tryz.ntmps107
     go_wp2_with (go_at_call 171;refine (isnan_any _ _).mono ?_;rintro e w' ⟨rfl,rfl⟩)
     go_ret
     exact ⟨by rw [HE.out];rfl,rfl⟩
theorem bynum_any (w:World) (p q:Nat) (x y:Int) (hp:w.cell? ⟨p,0,none⟩=some (.int .i64 x)) (hq:w.cell? ⟨q,0,none⟩=some (.int .i64 y)) :
 Calls Tryz.prog 106 #[.pointer (some ⟨p,0,none⟩),.pointer (some ⟨q,0,none⟩)] w fun e w'=>e=.returned (.int .i64 (cmpI x y))∧∃ n,w'=w.drewN n:=by
 go_enter Tryz.func106,Tryz.ntmps106
 go_wp2_with fail
 go_region_held3 (fun w'=>w'.cell? ⟨p,0,none⟩=some (.int .i64 x)∧w'.cell? ⟨q,0,none⟩=some (.int .i64 y)) (exact ⟨hp,hq⟩) (first | (go_at_call 107;refine (compare_any _ _ _).mono ?_;rintro e w' ⟨rfl,rfl⟩))
 go_wp2_with fail
 go_ret
 exact ⟨rfl,1,rfl⟩
def numC (N:Nat) (x y:{ i:Nat // i < N }):Int:=cmpI ((x.1:Int)+1) ((y.1:Int)+1)
theorem num_lt (N:Nat) (x y:{ i:Nat // i < N }):ltOf (numC N) x y=decide (x.1 < y.1):=by
 unfold ltOf numC cmpI
 by_cases h1:x.1 < y.1
 · rw [if_pos (by omega)];simp [h1]
 · rw [if_neg (by omega)]
   by_cases h2:y.1 < x.1
   · rw [if_pos (by omega)];simp [h1]
   · rw [if_neg (by omega)];simp [h1]
theorem num_swo (N:Nat):SWO (ltOf (numC N)) where
 irrefl x:=by rw [num_lt];simp
 trans x y z h1 h2:=by rw [num_lt] at *;simp at *;omega
 ntrans x y z h1 h2:=by rw [num_lt] at *;simp at *;omega
def ptrE (fa:Nat→Nat) (N:Nat) (x:{ i:Nat // i < N }):Value:=.pointer (some ⟨fa x.1,0,none⟩)
theorem sort_cell {α:Type} [Inhabited α] (enc:α→Value) (w:World) (blk off m:Nat) (dk:Array α) (os:Array Obj) (a:Addr) (h:a.block ≠ blk) (hl:a.block < w.heap.size):(sortWorld enc w blk off m dk os).cell? a=w.cell? a:=by
 unfold sortWorld
 rw [cell?_grow _ _ _ (by simpa [putRow,mapBlock,Sort.ahead] using hl),cell?_putRow_other _ _ _ _ _ _ (.inl h)]
 rfl
theorem sort_block {α:Type} [Inhabited α] (enc:α→Value) (w:World) (blk off m:Nat) (dk:Array α) (os:Array Obj) (k:Nat) (h:k ≠ blk) (hl:k < w.heap.size):(sortWorld enc w blk off m dk os).heap[k]?=w.heap[k]?:=by
 unfold sortWorld
 rw [heap_grow_old _ _ (by simpa [putRow,mapBlock,Sort.ahead] using hl)]
 unfold putRow mapBlock Sort.ahead
 simp [Array.getElem?_modify,Ne.symm h]
end
section
open Go Go.RowKit Go.Shelf Go.Lib Go.Sort
open Go.Maps Go.WideMaps
section
variable {α : Type} [Inhabited α]
theorem holds_blk (enc:α→Value) {w:World} {g:Nat} {cur:Array Value} {e:TypeId} {ss:List α} (hb:w.heap[g]?=some (.cells cur e (0,0))) (ht:cur.toList.take ss.length=ss.map enc):Holds enc w g 0 ss.toArray:=by
 intro j hj
 have hj':j < ss.length:=by simpa using hj
 refine ⟨?_,by simp [World.frozen?,hb]⟩
 have h1:(cur.toList.take ss.length)[j]?=(ss.map enc)[j]?:=by rw [ht]
 rw [List.getElem?_take_of_lt hj'] at h1
 simp only [World.cell?,hb,Nat.zero_add]
 simp only [Option.isSome_none,Bool.false_eq_true,if_false]
 rw [← Array.getElem?_toList,h1]
 simp [hj']
theorem heap_srt (enc:α→Value) {w:World} {g n:Nat} {os:Array Obj} {cur:Array Value} {e:TypeId} {fr:Nat × Nat} (d:Array α) (hb:w.heap[g]?=some (.cells cur e fr)) :
 (sortWorld enc w g 0 n d os).heap[g]?=some (.cells (putCells enc 0 d cur) e fr):=by
 have hg:g < w.heap.size:=(Array.getElem?_eq_some_iff.1 hb).1
 unfold sortWorld
 rw [heap_grow_old _ _ (by simpa [putRow,mapBlock,Sort.ahead] using hg)]
 simp [putRow,mapBlock,Sort.ahead,Array.getElem?_modify,hb,onCells]
theorem grownBy_srt (enc:α→Value) {w:World} {g n:Nat} {os:Array Obj} (d:Array α):w.grownBy (sortWorld enc w g 0 n d os) (some g):=by
 refine ⟨rfl,rfl,rfl,by simp [sortWorld,putRow,mapBlock,Sort.ahead],fun k hk hne=>?_⟩
 exact sort_block enc w g 0 n d os k (fun e=>hne (by rw [e])) hk
theorem take_put (enc:α→Value) (cur:Array Value) (ts:List α) (h:ts.length≤cur.size):(putCells enc 0 ts.toArray cur).toList.take ts.length=ts.map enc:=by
 apply List.ext_getElem?
 intro j
 by_cases hj:j < ts.length
 · rw [List.getElem?_take_of_lt hj,Array.getElem?_toList]
   simp [putCells,hj,show j < cur.size by omega]
 · rw [List.getElem?_take_eq_none (by omega),List.getElem?_eq_none (by simp;omega)]
theorem own_srt (enc:α→Value) {w:World} {base g cap n:Nat} {e:TypeId} {os:Array Obj} {cur:Array Value} {m:Nat} {ts:List α} (hl:ts.length=m) (hbase:base≤g) (hb:w.heap[g]?=some (.cells cur e (0,0)))
 (h1:m≤cap) (h2:cap≤maxLen) (h3:cur.size=cap * 1) :
 (sortWorld enc w g 0 n ts.toArray os).ownsRow base e 1 (.slice (some ⟨g,0,none⟩) m cap) m (ts.map enc) :=
 ⟨by simp [hl],.inr ⟨g,cap,_,rfl,hbase,heap_srt enc _ hb,h1,h2,by simp [putCells,h3],by rw [Nat.mul_one,← hl];exact take_put enc cur ts (by omega)⟩⟩
end
theorem sort_ids (w:World) (fa:Nat→Nat) (N B:Nat) (hnum:∀ i,i < N→w.cell? ⟨fa i,0,none⟩=some (.int .i64 ((i:Int)+1))) (v:Value) (ids:List Nat) (hids:∀ i ∈ ids,i < N) (hlen:ids.length < 4611686018427387904)
 (ho:w.ownsRow B 109 1 v ids.length (ids.map fun i=>.pointer (some ⟨fa i,0,none⟩))) (hB:∀ i,i < N→fa i < B) :
 Calls Tryz.prog 105 #[v,.func (.func 106) #[] #[]] w fun e w'=>e=.returned (.tuple #[])∧w'.ownsRow B 109 1 v ids.length ((ids.mergeSort fun x y=>decide (x≤y)).map fun i=>.pointer (some ⟨fa i,0,none⟩))∧w.grownBy w' v.ownBlock:=by
 by_cases h0:ids=[]
 · subst h0
   have key:∀ p c,Calls Tryz.prog 105 #[.slice p 0 c,.func (.func 106) #[] #[]] w fun e w'=>e=.returned (.tuple #[])∧w'=w:=fun p c=>AnyF.slices_SortFunc_none (ρ:=Tryz.sortf58_ren) { Tryz.sortf58 with } p c _ w
   have hw:w.grownBy w v.ownBlock:=⟨rfl,rfl,rfl,Nat.le_refl _,fun _ _ _=>rfl⟩
   obtain ⟨a,c,hv,-⟩:=owns_shape ho
   rw [List.length_nil] at hv
   subst hv
   refine (key a c).mono ?_
   rintro e w' ⟨he,rfl⟩
   exact ⟨he,by simpa using ho,hw⟩
 · have hpos:0 < ids.length:=List.length_pos_iff.2 h0
   have hN:0 < N:=by
    obtain ⟨x,hx⟩:=List.exists_mem_of_ne_nil ids h0
    have:=hids x hx;omega
   have:Inhabited { i:Nat // i < N }:=⟨⟨0,hN⟩⟩
   rcases ho.2 with ⟨-,e⟩ | ⟨g,cap,cur,rfl,hb,hg,h1,h2,h3,h4⟩
   · omega
   obtain ⟨dl,hdl⟩:∃ dl:List { i:Nat // i < N },dl.map (·.1)=ids:=⟨ids.pmap (fun i h=>⟨i,h⟩) hids,by simp [List.map_pmap]⟩
   have hdlen:dl.length=ids.length:=by rw [← hdl];simp
   have henc:ids.map (fun i=>Value.pointer (some ⟨fa i,0,none⟩))=dl.map (ptrE fa N):=by rw [← hdl,List.map_map];rfl
   rw [henc] at h4
   have hH:Holds (ptrE fa N) w g 0 dl.toArray:=holds_blk (ptrE fa N) hg (by rw [hdlen];simpa using h4)
   have hgl:g < w.heap.size:=(Array.getElem?_eq_some_iff.1 hg).1
   have hcmp:CmpReads Tryz.prog 106 #[] (ptrE fa N) (numC N) g 0 dl.toArray.size w:=fun m os dk hs x y=>by
    have c1:=(sort_cell (ptrE fa N) w g 0 m dk os ⟨fa x.1,0,none⟩ (by have:=hB x.1 x.2;show fa x.1 ≠ g;omega) (World.block_lt_of_cell? w _ (hnum x.1 x.2))).trans (hnum x.1 x.2)
    have c2:=(sort_cell (ptrE fa N) w g 0 m dk os ⟨fa y.1,0,none⟩ (by have:=hB y.1 y.2;show fa y.1 ≠ g;omega) (World.block_lt_of_cell? w _ (hnum y.1 y.2))).trans (hnum y.1 y.2)
    exact bynum_any _ (fa x.1) (fa y.1) _ _ c1 c2
   have hT:∀ x y:{ i:Nat // i < N },ltOf (numC N) x y=false→ltOf (numC N) y x=false→x=y:=fun x y h1 h2=>by
    rw [num_lt] at h1 h2
    simp at h1 h2
    exact Subtype.ext (by omega)
   have hcon:=Any.slices_SortFunc_total Tryz.sortf58 (ptrE fa N) (fun x=>rfl) (numC N) (num_swo N) 106 #[] g 0 cap dl.toArray w (enters_of Tryz.func106 (by kernel_rfl) rfl) hcmp.lays hH hgl (by simp [hdlen];omega) hT
   have hcon':Calls Tryz.prog 105 #[.slice (some ⟨g,0,none⟩) ids.length cap,.func (.func 106) #[] #[]] w fun e w'=>e=.returned (.tuple #[])∧∃ n os,w'=sortWorld (ptrE fa N) w g 0 n (dl.mergeSort fun x y=>!(ltOf (numC N)) y x).toArray os:=by
    have e1:dl.toArray.size=ids.length:=by simp [hdlen]
    rw [e1] at hcon
    exact hcon
   refine hcon'.mono ?_
   rintro e w' ⟨he,n,os,rfl⟩
   have hms:(dl.mergeSort fun x y=>!(ltOf (numC N)) y x).map (·.1)=ids.mergeSort fun x y=>decide (x≤y):=by
    rw [← hdl]
    exact List.map_mergeSort (fun a _ b _=>by rw [num_lt];by_cases h:b.1 < a.1 <;> simp [h] <;> omega)
   refine ⟨he,?_,grownBy_srt _ _⟩
   have:=own_srt (ptrE fa N) (n:=n) (os:=os) (m:=ids.length) (ts:=dl.mergeSort fun x y=>!(ltOf (numC N)) y x) (by rw [List.length_mergeSort,hdlen]) hb hg h1 h2 h3
   rw [← hms,List.map_map]
   exact this
end
end Go.Proofs.YtgkehahklccacaaGreatDoor
