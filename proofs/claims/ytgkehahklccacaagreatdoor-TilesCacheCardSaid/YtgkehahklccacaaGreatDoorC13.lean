import Derived.Test.YtgkehahklccacaaGreatDoorC12
import Derived.Test.YtgkehahklccacaaGreatDoorC10
import Derived.Test.YtgkehahklccacaaGreatDoorCL2
namespace Go.Proofs.YtgkehahklccacaaGreatDoor
open Go Go.RowKit
open Go.Lib (hid)
set_option maxRecDepth 100000
set_option maxHeartbeats 1000000
set_option linter.unusedVariables false
set_option linter.unusedSimpArgs false
section
open Go.Maps Go.WideMaps
theorem new_run (w:World) (v:Value) (m:Int) {k:Nat} (hk:w.heap.size=k) (j:Nat) (u:Value) (h:[v,.int .i64 m][j]?=some u):(w.alloc (.cells #[v,.int .i64 m] 172)).cell? ((⟨k,0,none⟩:Addr).add j)=some u:=by
 subst hk
 rw [Addr.add_lit,cell_of_row _ _ _ _ _ _ (heap_alloc_new w _),Nat.zero_add]
 simpa using h
theorem one_run (v:Value) (m:Int) (hv:v.oneCell'=true):∀ u ∈ [v,.int .i64 m],u.oneCell'=true:=by
 intro u hu
 simp only [List.mem_cons,List.not_mem_nil,or_false] at hu
 rcases hu with rfl | rfl
 · exact hv
 · rfl
abbrev boxI (n:Int):Obj:=.cells #[.int .i64 n] 3
theorem slice_cut (w:World) (a:Option Addr) (n c k:Nat) (hk:k≤c):(Instr.slice 53 (.slice a n c) none (some (.int .i64 (k:Int))) none).run Tryz.prog w=.ok (.slice a k c) w:=by
 obtain ⟨h1,h2⟩:=sl50.elem w
 rw [run_slice_h w 53 a n c h1 .i64 k (by omega) (by omega),h2]
 have e:a.map (·.add 0)=a:=by cases a with | none=>rfl | some x=>cases x;simp [Addr.add]
 simp [Result.andThen,sliced,e]
theorem cut1_any (w:World) (L:Lay) (gd:Nat) (d:Dm) (h:DAt w L gd d) (i:Nat) (hi:i < d.fs.length) (n:Nat) (hn:n≤(d.file i).now.length) (hl:(d.file i).now.length≤2147483647) (hlo:(d.file i).loose.length < 1099511627776) (bd bp bn:Nat) (hbd:Cap w L.ρ bd (boxD gd)) (hbp:Cap w L.ρ bp (boxP (L.fa i))) (hbn:Cap w L.ρ bn (boxI n)) :
 Calls Tryz.prog 98 #[.pointer (some ⟨bd,0,none⟩),.pointer (some ⟨bp,0,none⟩),.pointer (some ⟨bn,0,none⟩)] w fun e w'=>e=.returned (.tuple #[])∧∃ L',DAt w' L' gd { (d.setF i ⟨(d.file i).now.take n,(d.file i).safe,(d.file i).loose++[⟨[],n⟩]⟩) with used:=wrap64 (d.used - wrap64 (((d.file i).now.length:Int) - n)) }∧Upd L.ρ L'.ρ w w':=by
 obtain ⟨vn,vs,vl,hf⟩:=h.at hi
 obtain ⟨av,cv,hvn,-⟩:=owns_shape hf.now.1
 obtain ⟨nv,hnv⟩:∃ nv,nv=(d.file i).now.length:=⟨_,rfl⟩
 rw [← hnv] at hvn hl hn
 subst hvn
 obtain ⟨g,hg⟩:∃ g,g=L.fa i:=⟨_,rfl⟩
 rw [← hg] at hbp
 have hgl:=hf.lt
 have hgd:=h.lt
 have HF:=hid hf
 have HD:=hid h
 have HBD:=hid hbd
 have HBP:=hid hbp
 have HBN:=hid hbn
 have HNV:=hid hnv
 have HG:=hid hg
 have kd:=cell0 hbd.1
 have kp:=cell0 hbp.1
 have kn:=cell0 hbn.1
 have c2:=h.cells.2.2.1
 have f2:=h.cells.2.2.2.2.2.2.2.2.2.2.2 2
 have n1:=hf.cells.2.1
 rw [← hg] at n1
 clear h hf hbd hbp hbn hnv hg
 go_enter Tryz.func98,Tryz.ntmps98
 go_wp2_with fail
 go_still_tail 12,(by kernel_rfl)
 change wpList _ _ _ _ _ w.drew
 obtain ⟨wz,hwz⟩:∃ wz,wz=w.drew:=⟨_,rfl⟩
 have hbz:Below w.heap.size w wz:=by rw [hwz];exact (Below.refl _ _).drew
 have c2z:=keepc hbz c2
 have f2z:wz.frozen? ⟨gd,2,none⟩=false:=by rw [hwz];exact f2
 rw [← hwz]
 clear hwz kd kp kn c2 f2 n1
 have HBZ:=hid hbz
 clear hbz
 go_upto_region 1 with (fail)
 obtain ⟨u',hu'⟩:∃ u',u'=wrap64 (d.used - ((nv:Int) - (n:Int))):=⟨_,rfl⟩
 rw [← hu']
 have hdz:=HD.out.below HBZ.out
 have hoz:Only L.ρ (·=1) wz (wz.setCell ⟨gd,2,none⟩ (.int .i64 u')):=Only.setCell wz gd 2 _ hdz.lg
 have hd1:=hdz.own1 hoz (d':={ d with used:=u' }) (heap_setCell_same wz gd 2 _ _ _ hdz.g) rfl rfl rfl rfl rfl rfl
 have hu1:Upd L.ρ L.ρ w (wz.setCell ⟨gd,2,none⟩ (.int .i64 u')):=(Upd.of_below (ρ:=L.ρ) HBZ.out).trans (Upd.of_only hoz (by omega) (Ext.refl _ _))
 obtain ⟨w1,hw1⟩:∃ w1,w1=wz.setCell ⟨gd,2,none⟩ (.int .i64 u'):=⟨_,rfl⟩
 rw [← hw1] at hoz hd1 hu1 ⊢
 have hf1:FAt w1 L.ρ i (L.fa i) (d.file i) (.slice av nv cv) vs vl:=(HF.out.keep (w':=wz) (ρ':=L.ρ) (fun k e=>HBZ.out.block k (HD.out.dom k (by omega))) (fun _ _=>rfl)).keep (fun k e=>hoz.block k (Nat.lt_of_lt_of_le (HD.out.dom k (by omega)) HBZ.out.size) (by omega)) (fun _ _=>rfl)
 have HD1:=hid hd1
 have HU1:=hid hu1
 have HF1:=hid hf1
 have HBP1:=hid (HBP.out.upd hu1)
 have HBN1:=hid (HBN.out.upd hu1)
 have HUU:=hid hu'
 have kp:=cell0 HBP1.out.1
 have kn:=cell0 HBN1.out.1
 have n1:=hf1.cells.2.1
 have f1:=hf1.cells.2.2.2.2 1
 rw [← HG.out] at n1 f1
 have hcap:(n:Int)≤(cv:Int):=by
  rcases hf1.now.1.2 with ⟨hv,h0⟩ | ⟨b,cap,cur,hv,-,-,hc,-⟩
  · have h1:nv=0:=by injection hv
    omega
  · have h1:nv=(d.file i).now.length:=HNV.out
    injection hv with e1 e2 e3;omega
 have hsl:=fun wx=>slice_cut wx av nv cv n (by omega)
 clear hw1 hdz hoz hd1 hu1 hf1 c2z f2z hu' HBZ HD HF
 go_wp2_with fail
 go_still_tail 7,(by kernel_rfl)
 change wpList _ _ _ _ _ w1.drew
 obtain ⟨wy,hwy⟩:∃ wy,wy=w1.drew:=⟨_,rfl⟩
 have hby:Below w1.heap.size w1 wy:=by rw [hwy];exact (Below.refl _ _).drew
 have n1z:=keepc hby n1
 have f1z:wy.frozen? ⟨g,1,none⟩=false:=by rw [hwy];exact f1
 have HBY:=hid hby
 rw [← hwy]
 clear hwy kp kn n1 f1 hsl hby
 go_upto_region 2 with (fail)
 have hlt:((d.file i).now.take n).length=n:=by rw [List.length_take];have:=HNV.out;omega
 have hto:=HD1.out.nowTo (i:=i) hi HF1.out (w4:=wy) ⟨HBY.out.os,HBY.out.tape,HBY.out.output,HBY.out.size,fun k hk _=>HBY.out.block k hk⟩ (v':=.slice av n cv) (l:=(d.file i).now.take n) (by
  have h9:=own_below HF1.out.now.1 HBY.out
  have h8:wy.ownsRow 0 5 1 (.slice av nv cv) nv ((d.file i).now.map b8):=by rw [HNV.out];rw [HNV.out] at h9;exact h9
  have h7:=own_take h8 (by omega:n≤nv)
  rw [Nat.mul_one,← List.map_take] at h7
  rw [hlt];exact h7) (.inl (by cases av <;> rfl))
 rw [← HG.out] at hto
 obtain ⟨w2,hw2⟩:∃ w2,w2=wy.setCell ⟨g,1,none⟩ (.slice av n cv):=⟨_,rfl⟩
 rw [← hw2] at hto ⊢
 obtain ⟨ρ2,hd2,hu2,hf2⟩:=hto
 have HU2:=hid (HU1.out.trans hu2)
 have HBP2:=hid (HBP1.out.upd hu2)
 have HBN2:=hid (HBN1.out.upd hu2)
 have hgl2:g < w2.heap.size:=hf2.lt
 clear hw2 hu2 n1z f1z HBY hlt HD1 HF1 HU1 HBP1 HBN1 hcap
 obtain ⟨rs,hrl,hO,hall⟩:=hf2.loose
 obtain ⟨la,lc,hvl,-⟩:=owns_shape hO.1
 obtain ⟨ln,hln⟩:∃ ln,ln=(d.file i).loose.length:=⟨_,rfl⟩
 have hO1:OwnL w2 ρ2 172 2 (10+4 * i) vl ln (rs.flatMap runV):=by rw [hln];exact hO
 have hvl1:vl=.slice la ln lc:=by rw [hln];exact hvl
 subst hvl1
 have kp:=cell0 HBP2.out.1
 have hbpl:=(Array.getElem?_eq_some_iff.1 HBP2.out.1).1
 have kn:=cell0 HBN2.out.1
 have hbnl:=(Array.getElem?_eq_some_iff.1 HBN2.out.1).1
 have l3:=hf2.cells.2.2.2.1
 have HD2:=hid hd2
 have HF2:=hid hf2
 have HO1:=hid hO1
 have HRL:=hid hrl
 have HALL:=hid hall
 have HLN:=hid hln
 have HUE:=hid (show (({ d with used:=u' }:Dm).setF i ⟨(d.file i).now.take n,(d.file i).safe,(d.file i).loose⟩).setF i ⟨(d.file i).now.take n,(d.file i).safe,(d.file i).loose++[⟨[],n⟩]⟩={ (d.setF i ⟨(d.file i).now.take n,(d.file i).safe,(d.file i).loose++[⟨[],n⟩]⟩) with used:=wrap64 (d.used - wrap64 (((d.file i).now.length:Int) - n)) } by rw [HUU.out,Dm.set_set,← HNV.out,wrap64_small (x:=(nv:Int) - n) (by omega) (by omega)];rfl)
 clear hd2 hf2 hO hO1 hrl hall hvl hln
 go_wp2_with fail
 have hb3:Below w2.heap.size w2 (w2.drew.alloc (.cells #[(.slice none 0 0),.int .i64 n] 172)):=(show Below w2.heap.size w2 w2.drew from (Below.refl _ _).drew).alloc (Nat.le_refl _) _
 have HD3:=hid (HD2.out.below hb3)
 have HBP3:=hid (HBP2.out.below hb3)
 have HF3:=hid (HF2.out.keep (w':=w2.drew.alloc (.cells #[(.slice none 0 0),.int .i64 n] 172)) (ρ':=ρ2) (fun k e=>hb3.block k (HD2.out.dom k (by show ρ2 k ≠ 0;omega))) (fun _ _=>rfl))
 have HU3:=hid (HU2.out.trans (Upd.of_below (ρ:=ρ2) hb3))
 have HO3:=hid (HO1.out.keep (w':=w2.drew.alloc (.cells #[(.slice none 0 0),.int .i64 n] 172)) (ρ':=ρ2) (fun k e=>hb3.block k (HD2.out.dom k (by show ρ2 k ≠ 0;omega))) (fun _ e=>e))
 have HA3:=hid (fun (k:Nat) (p:Value × Int) (u:Run) hp hx=>(⟨(HALL.out k p u hp hx).1,(HALL.out k p u hp hx).2.keep (fun k e=>hb3.block k (HD2.out.dom k (by show ρ2 k ≠ 0;omega))) (fun _ e=>e)⟩:p.2=(u.cut:Int)∧RdL (w2.drew.alloc (.cells #[(.slice none 0 0),.int .i64 n] 172)) ρ2 p.1 u.laid))
 have HN3:=hid (fun j u=>new_run w2.drew (.slice none 0 0) (n:Int) (k:=w2.heap.size) rfl j u)
 have HQ1:=hid (show (ln+1) * 32≤140737488355328 by have:=HLN.out;omega)
 have HQ2:=hid (show ln+1≤maxLen by have:=HLN.out;simp [maxLen];omega)
 have hgl3:g < w2.heap.size:=hgl2
 clear hb3
 go_region_law (first
  | (refine S_appendN rfl (.tmp 30) (.tmp 33) 115 (by rfl) sl82 0 (.slice la ln lc) ln (rs.flatMap runV) (by rfl) HO3.out.1 ⟨w2.heap.size,0,none⟩ 1 1 [(.slice none 0 0),.int .i64 n] (by rfl) (by rfl) HN3.out (one_run _ _ rfl) HQ1.out HQ2.out (Nat.zero_le _) (fun a4 c4 w4 ho4 hg4 hat4=>?_)
     have hlo4:=HD3.out.looseTo (i:=i) (by show i < (d.fs.set i _).length;rw [List.length_set];exact hi) (Dm.file_set hi _) (by have h9:=HF3.out;rw [HG.out] at h9;exact h9) hg4 (u:=⟨[],n⟩) (by have:=HLN.out;show ln+1=(d.file i).loose.length+1;omega) (by have h9:=HRL.out;exact h9) HA3.out (RdL.nil _ _) (by show OwnL _ _ 172 2 _ _ (d.file i).loose.length _;rw [← HLN.out];exact HO3.out) ho4 hat4
     have k4:w4.heap[g]?=some (boxFile i (.slice av n cv) vs (.slice la ln lc)):=(hg4.block g (by have:=hgl3;simp;omega) (fun e=>by have h9:=HO3.out.2 g e.symm;have h8:=HF3.out.lg;rw [h9] at h8;omega)).trans HF3.out.box
     have kp4:=cell0 ((hg4.block bp (by have:=hbpl;simp;omega) (fun e=>by have h9:=HO3.out.2 bp e.symm;have h8:=HBP2.out.2;rw [h9] at h8;omega)).trans (HBP3.out.1))
     have e8':=cell_of_row _ _ 3 _ _ _ k4
     have f8':=frozen_of_row w4 g 3 _ _ k4
     simp only [List.getElem?_toArray,List.getElem?_cons_zero,List.getElem?_cons_succ] at e8'
     rw [← HG.out] at hlo4
     clear k4))
 all_goals
  have HE4:=hid hlo4
  clear hlo4 ho4 hg4 hat4
  go_wp2_with fail
  go_end0
  obtain ⟨ρ5,hd5,hu5⟩:=HE4.out
  refine ⟨rfl,{ L with ρ:=ρ5 },?_,HU3.out.trans hu5⟩
  rw [← HUE.out]
  exact hd5
end
section
open Go.Maps Go.WideMaps
abbrev cuB:ByteArray:=⟨#[67,117,116]⟩
def cutW (i n:Nat) (e:Dm):Dm:={ (e.setF i ⟨(e.file i).now.take n,(e.file i).safe,(e.file i).loose++[⟨[],n⟩]⟩) with used:=wrap64 (e.used - wrap64 (((e.file i).now.length:Int) - (n:Int))) }
theorem cut_any (w:World) (L:Lay) (gd:Nat) (d:Dm) (h:DAt w L gd d) (hp:Pre d) (s:Nm) (hs:s.length≤maxLen) (n:Int) (hn0:-9223372036854775808≤n) (hn1:n≤9223372036854775807) :
 Calls Tryz.prog 44 #[.pointer (some ⟨gd,0,none⟩),.string (bs s),.int .i64 n] w fun e w'=>∃ L',DAt w' L' gd (d.cut s n).1∧Upd L.ρ L'.ρ w w'∧∃ v,e=.returned v∧ToldV v w' L'.ρ cuB (bs s) (d.cut s n).2:=by
 obtain ⟨w1,hw1⟩:∃ w1,w1=(w.alloc (boxD gd)).alloc (boxI n):=⟨_,rfl⟩
 have hb1:Below w.heap.size w w1:=by rw [hw1];exact ((Below.refl _ _).alloc (Nat.le_refl _) _).alloc (by simp) _
 have g0:w1.heap[w.heap.size]?=some (boxD gd):=by rw [hw1];exact heap_alloc2_old w _ _
 have g1:w1.heap[w.heap.size+1]?=some (boxI n):=by rw [hw1];exact heap_alloc2_new w _ _
 have z1:w.heap.size+1 < w1.heap.size:=by rw [hw1];simp
 have h0:∀ g,w.heap.size≤g→L.ρ g=0:=h.new
 have HD1:=hid (h.below hb1)
 have HU1:=hid (Upd.of_below (ρ:=L.ρ) hb1)
 have G0:=hid (show Cap w1 L.ρ w.heap.size (boxD gd) from ⟨g0,h0 _ (Nat.le_refl _)⟩)
 have G1:=hid (show Cap w1 L.ρ (w.heap.size+1) (boxI n) from ⟨g1,h0 _ (by omega)⟩)
 have k0:=cell0 g0
 have HP:=hid hp
 have HA:=hid (ask1 (w1.alloc (.cells #[.string (bs s)] 9)) L gd d (HD1.out.below (bel1 _ _)) w1.heap.size 0 1 s hs (cell0 (heap_alloc_new w1 _)))
 clear h hb1 g0 g1 hp h0
 go_enter Tryz.func44,Tryz.ntmps44
 go_upto_region 1 with (fail)
 rw [← hw1]
 clear hw1
 go_wp2_with fail
 with_reducible refine HA.out.mono ?_
 rintro e w3 ⟨rfl,hb3⟩
 have hb13:Below w1.heap.size w1 w3:=(bel1 w1 _).trans (hb3.mono (by simp))
 have HD3:=hid (HD1.out.below hb13)
 have HU3:=hid (HU1.out.trans (Upd.of_below (ρ:=L.ρ) hb13))
 have HG0:=hid (G0.out.below hb13)
 have HG1:=hid (G1.out.below hb13)
 have hz3:w1.heap.size≤w3.heap.size:=hb13.size
 clear k0 hb13 hb3 HA
 obtain ⟨r,why,hask⟩:∃ r why,d.ask s=(r,why):=⟨_,_,rfl⟩
 rw [hask]
 dsimp only
 cases e0:(why == 0)
 · have hr:r=none:=ask_fst hask (by simpa using e0)
   subst hr
   have HE:=hid (show d.cut s n=(d,why) by unfold Dm.cut;rw [hask])
   obtain ⟨w4,hw4⟩:∃ w4,w4=w3.alloc (.cells #[.pointer none] 109):=⟨_,rfl⟩
   have hb4:Below w3.heap.size w3 w4:=by rw [hw4];exact bel1 _ _
   have HD4:=hid (HD3.out.below hb4)
   have HU4:=hid (HU3.out.trans (Upd.of_below (ρ:=L.ρ) hb4))
   rw [show madeV L.fa none=.pointer none from rfl]
   clear hask hb4
   go_upto_region 2 with (fail)
   rw [← hw4]
   clear hw4
   go_wp2_with fail
   go_quiet (fail)
   have HD5:=hid (HD4.out.below (below_drewN (Below.refl _ _) nq))
   have HU5:=hid (HU4.out.trans (Upd.of_below (ρ:=L.ρ) (below_drewN (Below.refl _ _) nq)))
   go_wp2_with fail
   with_reducible refine (told2 (w4.drewN nq) L.ρ HD5.out.dom cuB (bs s) why).mono ?_
   rintro e w9 ⟨⟨v,rfl,hv⟩,hb9⟩
   have HV:=hid hv
   have HB9:=hid hb9
   clear hv hb9
   go_wp2_with fail
   go_ret
   exact ⟨L,by rw [HE.out];exact HD5.out.below HB9.out,HU5.out.trans (Upd.of_below HB9.out),v,rfl,by rw [HE.out];exact HV.out⟩
 obtain rfl:why=0:=by simpa using e0
 clear e0
 obtain ⟨i,rfl,hk,hl⟩:=ask_zero hask
 have hi:i < d.fs.length:=HP.out.refs.nm s i hk
 rw [show madeV L.fa (some i)=.pointer (some ⟨L.fa i,0,none⟩) from rfl]
 obtain ⟨w4,hw4⟩:∃ w4,w4=w3.alloc (boxP (L.fa i)):=⟨_,rfl⟩
 have hb4:Below w3.heap.size w3 w4:=by rw [hw4];exact bel1 _ _
 have hcap:Cap w4 L.ρ w3.heap.size (boxP (L.fa i)):=⟨by rw [hw4];exact heap_alloc_new w3 _,HD3.out.new _ (Nat.le_refl _)⟩
 have hd4:=HD3.out.below hb4
 have HCAP:=hid hcap
 have HD4:=hid hd4
 have HU4:=hid (HU3.out.trans (Upd.of_below (ρ:=L.ρ) hb4))
 have HG04:=hid (HG0.out.below hb4)
 have HG14:=hid (HG1.out.below hb4)
 obtain ⟨vn,vs,vl,hf⟩:=hd4.at hi
 obtain ⟨av,cv,hvn,-⟩:=owns_shape hf.now.1
 obtain ⟨nv,hnv⟩:∃ nv,nv=(d.file i).now.length:=⟨_,rfl⟩
 rw [← hnv] at hvn
 subst hvn
 have n1:=hf.cells.2.1
 have kp:=cell0 hcap.1
 have kn:=cell0 HG14.out.1
 have kd:=cell0 HG04.out.1
 have HNV:=hid hnv
 have hnl:nv≤2147483647:=by rw [hnv];exact (HP.out.file i).1
 have HASK:=hid hask
 clear hb4 hcap hd4 hf hnv hask
 go_upto_region 2 with (fail)
 rw [← hw4]
 clear hw4
 have hbq:∀ nq:Nat,Below w4.heap.size w4 (w4.drewN nq):=fun nq=>below_drewN (Below.refl _ _) nq
 by_cases hneg:n < 0
 · have HE:=hid (show d.cut s n=(d,1) by unfold Dm.cut;rw [HASK.out];dsimp only;rw [if_pos (.inl hneg)])
   go_wp2_with fail
   go_quiet (fail)
   have HD5:=hid (HD4.out.below (hbq nq))
   have HU5:=hid (HU4.out.trans (Upd.of_below (ρ:=L.ρ) (hbq nq)))
   go_wp2_with fail
   with_reducible refine (told2 (w4.drewN nq) L.ρ HD5.out.dom cuB (bs s) 1).mono ?_
   rintro e w9 ⟨⟨v,rfl,hv⟩,hb9⟩
   have HV:=hid hv
   have HB9:=hid hb9
   clear hv hb9
   go_wp2_with fail
   go_ret
   exact ⟨L,by rw [HE.out];exact HD5.out.below HB9.out,HU5.out.trans (Upd.of_below HB9.out),v,rfl,by rw [HE.out];exact HV.out⟩
 by_cases hbig:(nv:Int) < n
 · have HE:=hid (show d.cut s n=(d,1) by unfold Dm.cut;rw [HASK.out];dsimp only;rw [if_pos (.inr (by rw [← HNV.out];exact hbig))])
   go_wp2_with fail
   go_quiet (fail)
   have HD5:=hid (HD4.out.below (hbq nq))
   have HU5:=hid (HU4.out.trans (Upd.of_below (ρ:=L.ρ) (hbq nq)))
   go_wp2_with fail
   with_reducible refine (told2 (w4.drewN nq) L.ρ HD5.out.dom cuB (bs s) 1).mono ?_
   rintro e w9 ⟨⟨v,rfl,hv⟩,hb9⟩
   have HV:=hid hv
   have HB9:=hid hb9
   clear hv hb9
   go_wp2_with fail
   go_ret
   exact ⟨L,by rw [HE.out];exact HD5.out.below HB9.out,HU5.out.trans (Upd.of_below HB9.out),v,rfl,by rw [HE.out];exact HV.out⟩
 obtain ⟨m,rfl⟩:∃ m:Nat,n=m:=⟨n.toNat,by omega⟩
 have HE:=hid (show d.cut s m=d.begin (cutW i m) (fun _ e=>e) by
  unfold Dm.cut;rw [HASK.out];dsimp only;rw [if_neg (by rw [← HNV.out];omega)];simp only [Int.toNat_natCast];rfl)
 go_wp2_with fail
 go_quiet (fail)
 have hb5:=hbq nq
 have HD5:=hid (HD4.out.below hb5)
 have HU5:=hid (HU4.out.trans (Upd.of_below (ρ:=L.ρ) hb5))
 have HCAP5:=hid (HCAP.out.below hb5)
 have HG05:=hid (HG04.out.below hb5)
 have HG15:=hid (HG14.out.below hb5)
 have kd5:=cell0 HG05.out.1
 have HBG:=hid (begin_cut (w4.drewN nq) L gd d HD5.out (by have:=HP.out.acts;omega) (.pointer (some ⟨w.heap.size,0,none⟩)) (.pointer (some ⟨w3.heap.size,0,none⟩)) (.pointer (some ⟨w.heap.size+1,0,none⟩)) (cutW i m) (fun _ e=>e)
  (fun w2 hu2 hd2=>cut1_any w2 L gd _ hd2 i hi m (by show m≤(d.file i).now.length;rw [← HNV.out];omega) (HP.out.file i).1 (HP.out.file i).2.2 w.heap.size w3.heap.size (w.heap.size+1) (HG05.out.upd hu2) (HCAP5.out.upd hu2) (HG15.out.upd hu2))
  (fun w2 n hu2 hd2=>(nothing_any w2 n).mono fun e w' ⟨he,hw⟩=>by subst hw;exact ⟨he,L,hd2,Upd.refl _ _⟩))
 clear kd kp kn n1 hb5 hbq hk hl
 go_wp2_with (go_at_call 94;refine HBG.out.mono ?_;rintro e w6 ⟨rfl,L4,hd6,hu6⟩;have HD6:=hid hd6;have HU6:=hid (HU5.out.trans hu6);clear hd6 hu6 kd5)
 obtain ⟨y,hy⟩:∃ y,y=(d.begin (cutW i m) (fun _ e=>e)).2:=⟨_,rfl⟩
 rw [← hy]
 have HY:=hid hy
 clear hy
 with_reducible refine (told2 w6 L4.ρ HD6.out.dom cuB (bs s) y).mono ?_
 rintro e w9 ⟨⟨v,rfl,hv⟩,hb9⟩
 have HV:=hid hv
 have HB9:=hid hb9
 clear hv hb9
 go_wp2_with fail
 go_ret
 exact ⟨L4,by rw [HE.out];exact HD6.out.below HB9.out,HU6.out.trans (Upd.of_below HB9.out),v,rfl,by rw [HE.out,← HY.out];exact HV.out⟩
end
section
open Go.Maps Go.WideMaps
abbrev lnB:ByteArray:=⟨#[76,101,110,103,116,104]⟩
theorem length_any (w:World) (L:Lay) (gd:Nat) (d:Dm) (h:DAt w L gd d) (hp:Pre d) (s:Nm) (hs:s.length≤maxLen) :
 Calls Tryz.prog 40 #[.pointer (some ⟨gd,0,none⟩),.string (bs s)] w fun e w'=>Below w.heap.size w w'∧∃ v,e=.returned (.tuple #[.int .i64 (d.length s).1,v])∧ToldV v w' L.ρ lnB (bs s) (d.length s).2:=by
 have HA:=hid (ask1 (w.alloc (.cells #[.string (bs s)] 9)) L gd d (h.below (bel1 _ _)) w.heap.size 0 1 s hs (cell0 (heap_alloc_new w _)))
 have HD0:=hid h
 have HP:=hid hp
 clear h hp
 go_enter Tryz.func40,Tryz.ntmps40
 go_wp2_with fail
 with_reducible refine HA.out.mono ?_
 rintro e w3 ⟨rfl,hb3⟩
 have hb13:Below w.heap.size w w3:=(bel1 w _).trans (hb3.mono (by simp))
 have HD3:=hid (HD0.out.below hb13)
 have HB3:=hid hb13
 clear hb13 hb3 HA HD0
 obtain ⟨r,why,hask⟩:∃ r why,d.ask s=(r,why):=⟨_,_,rfl⟩
 rw [hask]
 dsimp only
 cases e0:(why == 0)
 · have hr:r=none:=ask_fst hask (by simpa using e0)
   subst hr
   have HE:=hid (show d.length s=(0,why) by unfold Dm.length;rw [hask])
   rw [show madeV L.fa none=.pointer none from rfl]
   clear hask
   go_wp2_with fail
   with_reducible refine (told2 w3 L.ρ HD3.out.dom lnB (bs s) why).mono ?_
   rintro e w9 ⟨⟨v,rfl,hv⟩,hb9⟩
   have HV:=hid hv
   have HB9:=hid hb9
   clear hv hb9
   go_wp2_with fail
   go_ret2
   exact ⟨HB3.out.trans (HB9.out.mono HB3.out.size),v,by rw [HE.out];rfl,by rw [HE.out];exact HV.out⟩
 obtain rfl:why=0:=by simpa using e0
 clear e0
 obtain ⟨i,rfl,hk,hl⟩:=ask_zero hask
 have hi:i < d.fs.length:=HP.out.refs.nm s i hk
 have HE:=hid (show d.length s=(((d.file i).now.length:Int),(0:Int)) by unfold Dm.length;rw [hask])
 rw [show madeV L.fa (some i)=.pointer (some ⟨L.fa i,0,none⟩) from rfl]
 obtain ⟨vn,vs,vl,hf⟩:=HD3.out.at hi
 obtain ⟨av,cv,hvn,-⟩:=owns_shape hf.now.1
 subst hvn
 have n1:=hf.cells.2.1
 clear hask hf hk hl
 go_wp2_with fail
 go_ret2
 exact ⟨HB3.out,.nilIface,by rw [HE.out];rfl,.inl ⟨by rw [HE.out],rfl⟩⟩
abbrev rdB:ByteArray:=⟨#[82,101,97,100]⟩
theorem read_any (w:World) (L:Lay) (gd:Nat) (d:Dm) (h:DAt w L gd d) (hp:Pre d) (s:Nm) (hs:s.length≤maxLen) (at_ n:Int) (ha0:-9223372036854775808≤at_) (ha1:at_≤9223372036854775807) (hn0:-9223372036854775808≤n) (hn1:n≤9223372036854775807) :
 Calls Tryz.prog 69 #[.pointer (some ⟨gd,0,none⟩),.string (bs s),.int .i64 at_,.int .i64 n] w fun e w'=>Below w.heap.size w w'∧∃ a m c v,e=.returned (.tuple #[.slice a m c,v])∧w'.ownsRow w.heap.size 5 1 (.slice a m c) m ((d.read s at_ n).1.map b8)∧m=(d.read s at_ n).1.length∧ToldV v w' L.ρ rdB (bs s) (d.read s at_ n).2:=by
 have HA:=hid (ask1 (w.alloc (.cells #[.string (bs s)] 9)) L gd d (h.below (bel1 _ _)) w.heap.size 0 1 s hs (cell0 (heap_alloc_new w _)))
 have HD0:=hid h
 have HP:=hid hp
 clear h hp
 go_enter Tryz.func69,Tryz.ntmps69
 go_wp2_with fail
 with_reducible refine HA.out.mono ?_
 rintro e w3 ⟨rfl,hb3⟩
 have hb13:Below w.heap.size w w3:=(bel1 w _).trans (hb3.mono (by simp))
 have HD3:=hid (HD0.out.below hb13)
 have HB3:=hid hb13
 clear hb13 hb3 HA HD0
 obtain ⟨r,why,hask⟩:∃ r why,d.ask s=(r,why):=⟨_,_,rfl⟩
 rw [hask]
 dsimp only
 cases e0:(why == 0)
 · have hr:r=none:=ask_fst hask (by simpa using e0)
   subst hr
   have HE:=hid (show d.read s at_ n=([],why) by unfold Dm.read;rw [hask])
   rw [show madeV L.fa none=.pointer none from rfl]
   clear hask
   go_wp2_with fail
   with_reducible refine (told2 w3 L.ρ HD3.out.dom rdB (bs s) why).mono ?_
   rintro e w9 ⟨⟨v,rfl,hv⟩,hb9⟩
   have HV:=hid hv
   have HB9:=hid hb9
   clear hv hb9
   go_wp2_with fail
   go_ret2
   exact ⟨HB3.out.trans (HB9.out.mono HB3.out.size),none,0,0,v,rfl,by rw [HE.out];exact ⟨by simp,.inl ⟨rfl,rfl⟩⟩,by rw [HE.out];rfl,by rw [HE.out];exact HV.out⟩
 obtain rfl:why=0:=by simpa using e0
 clear e0
 obtain ⟨i,rfl,hk,hl⟩:=ask_zero hask
 have hi:i < d.fs.length:=HP.out.refs.nm s i hk
 rw [show madeV L.fa (some i)=.pointer (some ⟨L.fa i,0,none⟩) from rfl]
 obtain ⟨vn,vs,vl,hf⟩:=HD3.out.at hi
 obtain ⟨av,cv,hvn,-⟩:=owns_shape hf.now.1
 obtain ⟨nv,hnv⟩:∃ nv,nv=(d.file i).now.length:=⟨_,rfl⟩
 rw [← hnv] at hvn
 subst hvn
 have n1:=hf.cells.2.1
 have hnl:nv≤2147483647:=by rw [hnv];exact (HP.out.file i).1
 have HR8:=hid (show R8 w3 av nv cv (d.file i).now by have h9:=hf.now.1;rw [← hnv] at h9;exact R8.of_owns h9 (by omega))
 have HNV:=hid hnv
 clear hf hk hl hnv
 by_cases q1:at_ < 0
 · have HE:=hid (show d.read s at_ n=([],1) by unfold Dm.read;rw [hask];dsimp only;rw [if_pos (.inl q1)])
   clear hask
   go_wp2_with fail
   with_reducible refine (told2 w3 L.ρ HD3.out.dom rdB (bs s) 1).mono ?_
   rintro e w9 ⟨⟨v,rfl,hv⟩,hb9⟩
   have HV:=hid hv
   have HB9:=hid hb9
   clear hv hb9
   go_wp2_with fail
   go_ret2
   exact ⟨HB3.out.trans (HB9.out.mono HB3.out.size),none,0,0,v,rfl,by rw [HE.out];exact ⟨by simp,.inl ⟨rfl,rfl⟩⟩,by rw [HE.out];rfl,by rw [HE.out];exact HV.out⟩
 by_cases q2:n < 0
 · have HE:=hid (show d.read s at_ n=([],1) by unfold Dm.read;rw [hask];dsimp only;rw [if_pos (.inr (.inl q2))])
   clear hask
   go_wp2_with fail
   with_reducible refine (told2 w3 L.ρ HD3.out.dom rdB (bs s) 1).mono ?_
   rintro e w9 ⟨⟨v,rfl,hv⟩,hb9⟩
   have HV:=hid hv
   have HB9:=hid hb9
   clear hv hb9
   go_wp2_with fail
   go_ret2
   exact ⟨HB3.out.trans (HB9.out.mono HB3.out.size),none,0,0,v,rfl,by rw [HE.out];exact ⟨by simp,.inl ⟨rfl,rfl⟩⟩,by rw [HE.out];rfl,by rw [HE.out];exact HV.out⟩
 by_cases q3:(nv:Int) < at_
 · have HE:=hid (show d.read s at_ n=([],1) by unfold Dm.read;rw [hask];dsimp only;rw [if_pos (.inr (.inr (.inl (by rw [← HNV.out];exact q3))))])
   clear hask
   go_wp2_with fail
   with_reducible refine (told2 w3 L.ρ HD3.out.dom rdB (bs s) 1).mono ?_
   rintro e w9 ⟨⟨v,rfl,hv⟩,hb9⟩
   have HV:=hid hv
   have HB9:=hid hb9
   clear hv hb9
   go_wp2_with fail
   go_ret2
   exact ⟨HB3.out.trans (HB9.out.mono HB3.out.size),none,0,0,v,rfl,by rw [HE.out];exact ⟨by simp,.inl ⟨rfl,rfl⟩⟩,by rw [HE.out];rfl,by rw [HE.out];exact HV.out⟩
 by_cases q4:(nv:Int) - at_ < n
 · have HE:=hid (show d.read s at_ n=([],1) by unfold Dm.read;rw [hask];dsimp only;rw [if_pos (.inr (.inr (.inr (by rw [← HNV.out,wrap64_small (by omega) (by omega)];exact q4))))])
   clear hask
   go_wp2_with fail
   with_reducible refine (told2 w3 L.ρ HD3.out.dom rdB (bs s) 1).mono ?_
   rintro e w9 ⟨⟨v,rfl,hv⟩,hb9⟩
   have HV:=hid hv
   have HB9:=hid hb9
   clear hv hb9
   go_wp2_with fail
   go_ret2
   exact ⟨HB3.out.trans (HB9.out.mono HB3.out.size),none,0,0,v,rfl,by rw [HE.out];exact ⟨by simp,.inl ⟨rfl,rfl⟩⟩,by rw [HE.out];rfl,by rw [HE.out];exact HV.out⟩
 obtain ⟨p,rfl⟩:∃ p:Nat,at_=p:=⟨at_.toNat,by omega⟩
 obtain ⟨m,rfl⟩:∃ m:Nat,n=m:=⟨n.toNat,by omega⟩
 have HE:=hid (show d.read s p m=(((d.file i).now.drop p).take m,0) by
  unfold Dm.read;rw [hask];dsimp only;rw [if_neg (by rw [← HNV.out,wrap64_small (by omega) (by omega)];omega)];simp only [Int.toNat_natCast])
 have hsl:=slice_mid sl50 w3 av nv cv p (p+m) (p:Int) ((p:Int)+(m:Int)) rfl (by push_cast;rfl) (by omega) (by have:=HR8.out.2.1;omega)
 rw [show p+m - p=m by omega] at hsl
 have hr9:=HR8.out.mid p (p+m) (by omega) (by omega)
 rw [show p+m - p=m by omega] at hr9
 obtain ⟨da,hda⟩:∃ da,da=dropA av p cv:=⟨_,rfl⟩
 rw [← hda] at hsl hr9
 have HCL:=hid (bclone_any w3 da m (cv - p) _ hr9 (by omega))
 have HLEN:=hid hr9.1
 clear hask hda hr9
 go_wp2_with (go_at_call 54;refine HCL.out.mono ?_;rintro e w4 ⟨⟨a4,c4,rfl,hv⟩,hb⟩;have HV4:=hid hv;have HB4:=hid hb;clear hv hb)
 go_ret2
 refine ⟨HB3.out.trans (HB4.out.mono HB3.out.size),a4,m,c4,.nilIface,rfl,?_,?_,.inl ⟨by rw [HE.out],rfl⟩⟩
 · rw [HE.out];exact owns_mono HV4.out HB3.out.size
 · rw [HE.out];exact HLEN.out.symm
end
section
open Go.Maps Go.WideMaps
theorem begin_syncnames (w:World) (L:Lay) (gd:Nat) (d:Dm) (h:DAt w L gd d) (ha:d.acts < 4611686018427387904) (x0:Value) (Wh:Dm→Dm) (Pt:Int→Dm→Dm)
 (hW:∀ w2,Upd L.ρ L.ρ w w2→DAt w2 L gd { d with acts:=d.acts+1 }→Calls Tryz.prog 167 #[x0] w2 fun e w'=>e=.returned (.tuple #[])∧∃ L',DAt w' L' gd (Wh { d with acts:=d.acts+1 })∧Upd L.ρ L'.ρ w2 w')
 (hP:∀ w2 n,Upd L.ρ L.ρ w w2→DAt w2 L gd { d with acts:=d.acts+1 }→Calls Tryz.prog 97 #[.int .i64 n] w2 fun e w'=>e=.returned (.tuple #[])∧∃ L',DAt w' L' gd (Pt n { d with acts:=d.acts+1 })∧Upd L.ρ L'.ρ w2 w') :
 Calls Tryz.prog 94 #[.pointer (some ⟨gd,0,none⟩),.func (.func 167) #[] #[x0],.func (.func 97) #[] #[]] w fun e w'=>e=.returned (.int .i64 (d.begin Wh Pt).2)∧∃ L',DAt w' L' gd (d.begin Wh Pt).1∧Upd L.ρ L'.ρ w w':=by
 have hc0:=h.cells.1
 have hlt:=h.lt
 have HP0:=hid (planned_any w L gd d h d.acts)
 have HD:=hid h
 have HW:=hid hW
 have HP:=hid hP
 have e9:((d.acts+1:Nat):Int)=(d.acts:Int)+1:=by omega
 clear h hW hP
 go_enter Tryz.func94,Tryz.ntmps94
 go_upto_region 2 with (go_at_call 156;(refine HP0.out.mono ?_);rintro e w1 ⟨rfl,hb1⟩;have HB1:=hid hb1;clear hb1 hc0)
 obtain ⟨st,kd,pt,hf⟩:∃ st kd pt,(⟨st,kd,pt⟩:Flt)=d.planned d.acts:=⟨_,_,_,rfl⟩
 have HF:=hid hf
 rw [← hf]
 obtain ⟨w2,hw2⟩:∃ w2,w2=w1.alloc (.cells #[.int .i64 st,.int .i64 kd,.int .i64 pt] 35):=⟨_,rfl⟩
 have z1:=HB1.out.size
 have hb2:Below w.heap.size w w2:=by rw [hw2];exact HB1.out.alloc z1 _
 have g2:w2.heap[w1.heap.size]?=some (.cells #[.int .i64 st,.int .i64 kd,.int .i64 pt] 35):=by rw [hw2];exact heap_alloc_new w1 _
 dsimp only
 rw [← hw2]
 clear hw2 hf
 have hd2:=HD.out.below hb2
 have c0:=hd2.cells.1
 have f0:=hd2.cells.2.2.2.2.2.2.2.2.2.2.2 0
 have hne:w1.heap.size ≠ gd:=by omega
 have k1:∀ x,(w2.setCell ⟨gd,0,none⟩ x).cell? ⟨w1.heap.size,1,none⟩=some (.int .i64 kd):=fun x=>(World.cell?_of_block (heap_setCell_other w2 ⟨gd,0,none⟩ w1.heap.size x hne)).trans (by rw [cell_of_row _ _ _ _ _ _ g2];rfl)
 have k2:∀ x,(w2.setCell ⟨gd,0,none⟩ x).cell? ⟨w1.heap.size,2,none⟩=some (.int .i64 pt):=fun x=>(World.cell?_of_block (heap_setCell_other w2 ⟨gd,0,none⟩ w1.heap.size x hne)).trans (by rw [cell_of_row _ _ _ _ _ _ g2];rfl)
 have ho3:Only L.ρ (·=1) w (w2.setCell ⟨gd,0,none⟩ (.int .i64 ((d.acts:Int)+1))):=(Only.of_below hb2).trans (Only.setCell w2 gd 0 _ HD.out.lg)
 have hd3:DAt (w2.setCell ⟨gd,0,none⟩ (.int .i64 ((d.acts:Int)+1))) L gd { d with acts:=d.acts+1 }:=HD.out.own1 ho3 (by have h9:=heap_setCell_same w2 gd 0 _ _ (.int .i64 ((d.acts:Int)+1)) hd2.g;unfold boxDisk;rw [e9];exact h9) rfl rfl rfl rfl rfl rfl
 have hu3:Upd L.ρ L.ρ w (w2.setCell ⟨gd,0,none⟩ (.int .i64 ((d.acts:Int)+1))):=Upd.of_only ho3 (by omega) (Ext.refl _ _)
 have HWC:=hid (HW.out _ hu3 hd3)
 have HPC:=hid (HP.out _ pt hu3 hd3)
 have HU3:=hid hu3
 have HD3:=hid hd3
 clear e9 ho3 hd3 hu3 hd2 g2 hb2 HB1 HP0 HW HP HD
 have hcase:kd=1∨kd=2∨kd=3∨kd=4∨kd=5∨kd=6∨((kd == 1)=false∧(kd == 2)=false∧(kd == 3)=false∧(kd == 4)=false∧(kd == 5)=false∧(kd == 6)=false):=by simp;omega
 rcases hcase with rfl | rfl | rfl | rfl | rfl | rfl | ⟨e1,e2,e3,e4,e5,e6⟩
 · go_wp2_with fail
   go_ret
   have hE:d.begin Wh Pt=({ d with acts:=d.acts+1 },30):=by unfold Dm.begin;rw [← HF.out];simp
   exact ⟨by rw [hE];rfl,L,by rw [hE];exact HD3.out,HU3.out⟩
 · go_wp2_with (first | (go_at_call 167;refine HWC.out.mono ?_;clear k1 k2 c0 f0;rintro e w4 ⟨rfl,L4,hd4,hu4⟩;have c5:=hd4.cells.2.2.2.2.2.1;have f5:=hd4.cells.2.2.2.2.2.2.2.2.2.2.2 5;have HD4:=hid hd4;have HU4:=hid hu4;clear hd4 hu4))
   go_ret
   have hE:d.begin Wh Pt=(Wh { d with acts:=d.acts+1 },30):=by unfold Dm.begin;rw [← HF.out];simp
   exact ⟨by rw [hE];rfl,L4,by rw [hE];exact HD4.out,HU3.out.trans HU4.out⟩
 · go_wp2_with (first | (go_at_call 97;refine HPC.out.mono ?_;clear k1 k2 c0 f0;rintro e w4 ⟨rfl,L4,hd4,hu4⟩;have c5:=hd4.cells.2.2.2.2.2.1;have f5:=hd4.cells.2.2.2.2.2.2.2.2.2.2.2 5;have HD4:=hid hd4;have HU4:=hid hu4;clear hd4 hu4))
   go_ret
   have hE:d.begin Wh Pt=(Pt pt { d with acts:=d.acts+1 },30):=by unfold Dm.begin;rw [← HF.out];simp
   exact ⟨by rw [hE];rfl,L4,by rw [hE];exact HD4.out,HU3.out.trans HU4.out⟩
 · go_wp2_with (first | (go_at_call 97;refine HPC.out.mono ?_;clear k1 k2 c0 f0;rintro e w4 ⟨rfl,L4,hd4,hu4⟩;have c5:=hd4.cells.2.2.2.2.2.1;have f5:=hd4.cells.2.2.2.2.2.2.2.2.2.2.2 5;have HD4:=hid hd4;have HU4:=hid hu4;clear hd4 hu4))
   go_ret
   have hE:d.begin Wh Pt=(Pt pt { d with acts:=d.acts+1 },31):=by unfold Dm.begin;rw [← HF.out];simp
   exact ⟨by rw [hE];rfl,L4,by rw [hE];exact HD4.out,HU3.out.trans HU4.out⟩
 · go_wp2_with (first | (go_at_call 97;refine HPC.out.mono ?_;clear k1 k2 c0 f0;rintro e w4 ⟨rfl,L4,hd4,hu4⟩;have c5:=hd4.cells.2.2.2.2.2.1;have f5:=hd4.cells.2.2.2.2.2.2.2.2.2.2.2 5;have HD4:=hid hd4;have HU4:=hid hu4;clear hd4 hu4))
   go_ret
   have hE:d.begin Wh Pt=({ Pt pt { d with acts:=d.acts+1 } with power:=false },2):=by unfold Dm.begin;rw [← HF.out];simp
   have ho5:Only L4.ρ (·=1) w4 (w4.setCell ⟨gd,5,none⟩ (.bool false)):=Only.setCell w4 gd 5 _ HD4.out.lg
   exact ⟨by rw [hE];rfl,L4,by rw [hE];exact HD4.out.own1 ho5 (heap_setCell_same w4 gd 5 _ _ _ HD4.out.g) rfl rfl rfl rfl rfl rfl,(HU3.out.trans HU4.out).trans (Upd.of_only ho5 (by omega) (Ext.refl _ _))⟩
 · go_wp2_with (first | (go_at_call 167;refine HWC.out.mono ?_;clear k1 k2 c0 f0;rintro e w4 ⟨rfl,L4,hd4,hu4⟩;have c5:=hd4.cells.2.2.2.2.2.1;have f5:=hd4.cells.2.2.2.2.2.2.2.2.2.2.2 5;have HD4:=hid hd4;have HU4:=hid hu4;clear hd4 hu4))
   go_ret
   have hE:d.begin Wh Pt=({ Wh { d with acts:=d.acts+1 } with power:=false },2):=by unfold Dm.begin;rw [← HF.out];simp
   have ho5:Only L4.ρ (·=1) w4 (w4.setCell ⟨gd,5,none⟩ (.bool false)):=Only.setCell w4 gd 5 _ HD4.out.lg
   exact ⟨by rw [hE];rfl,L4,by rw [hE];exact HD4.out.own1 ho5 (heap_setCell_same w4 gd 5 _ _ _ HD4.out.g) rfl rfl rfl rfl rfl rfl,(HU3.out.trans HU4.out).trans (Upd.of_only ho5 (by omega) (Ext.refl _ _))⟩
 · go_wp2_with (first | (go_at_call 167;refine HWC.out.mono ?_;clear k1 k2 c0 f0;rintro e w4 ⟨rfl,L4,hd4,hu4⟩;have c5:=hd4.cells.2.2.2.2.2.1;have f5:=hd4.cells.2.2.2.2.2.2.2.2.2.2.2 5;have HD4:=hid hd4;have HU4:=hid hu4;clear hd4 hu4))
   go_ret
   have hE:d.begin Wh Pt=(Wh { d with acts:=d.acts+1 },0):=by unfold Dm.begin;rw [← HF.out];simp at e1 e2 e3 e4 e5 e6;simp [e1,e2,e3,e4,e5,e6]
   exact ⟨by rw [hE];rfl,L4,by rw [hE];exact HD4.out,HU3.out.trans HU4.out⟩
end
section
open Go.Maps Go.WideMaps
theorem names_clone (w:World) {ρ:Nat→Nat} {r:Nat} {fa:Nat→Nat} {b:Nat} {m:List (Nm × Nat)} (h:NAt w ρ r fa b m) :
 Calls Tryz.prog 53 #[.map (some b)] w fun e w'=>e=.returned (.map (some w.heap.size))∧(∀ (ρ':Nat→Nat) (r':Nat),ρ' w.heap.size=r'→NAt w' ρ' r' fa w.heap.size m)∧Below w.heap.size w w'∧w.heap.size < w'.heap.size:=by
 obtain ⟨D,hm,-,hz,hl⟩:=h
 refine (AnyW.maps_Clone_owns Tryz.clone31 9 ptrR b m.length D w hm).mono ?_
 rintro e w' ⟨he,h1,-,hb⟩
 exact ⟨he,fun ρ' r' hr=>⟨D,h1,hr,hz,hl⟩,hb,h1.lt⟩
theorem syncnames1_any (w:World) (L:Lay) (gd:Nat) (d:Dm) (h:DAt w L gd d) (bd:Nat) (hbd:Cap w L.ρ bd (boxD gd)) :
 Calls Tryz.prog 167 #[.pointer (some ⟨bd,0,none⟩)] w fun e w'=>e=.returned (.tuple #[])∧∃ L',DAt w' L' gd { d with safe:=d.names,changes:=[] }∧Upd L.ρ L'.ρ w w':=by
 have k0:=cell0 hbd.1
 have c6:=h.cells.2.2.2.2.2.2.1
 have hgl:=h.lt
 have hbl:=(Array.getElem?_eq_some_iff.1 hbd.1).1
 have hne:bd ≠ gd:=fun e=>by have h1:=hbd.2;have h2:=h.lg;rw [e,h2] at h1;omega
 have HD:=hid h
 have HCL:=hid (names_clone w.drew (h.below (Below.refl _ _).drew).nm)
 have HBD:=hid hbd
 clear h hbd
 go_enter Tryz.func167,Tryz.ntmps167
 go_wp2_with fail
 go_region_held3 (fun w'=>w'.cell? ⟨bd,0,none⟩=some (.pointer (some ⟨gd,0,none⟩))∧w'.cell? ⟨gd,6,none⟩=some (.map (some L.nb)))
  (first | exact ⟨k0,c6⟩ | exact ⟨keepc hb k0,keepc hb c6⟩ | exact ⟨keeps (keepc hb k0) hne,(World.cell?_setCell_other _ _ _ _ (by simp)).trans (keepc hb c6)⟩)
  (first | (go_at_call 53;refine HCL.out.mono ?_;rintro e w4 ⟨rfl,hN,hb,hz⟩;have hx:=(hb.block gd hgl).trans HD.out.g;have s2:=cell_of_row _ _ 7 _ _ _ hx;have f2:=frozen_of_row w4 gd 7 _ _ hx;have HX:=hid hx;simp only [List.getElem?_toArray,List.getElem?_cons_zero,List.getElem?_cons_succ] at s2;clear hx))
 obtain ⟨nb',hnb'⟩:∃ nb',nb'=w.heap.size:=⟨_,rfl⟩
 have hN:∀ (ρ':Nat→Nat) (r':Nat),ρ' nb'=r'→NAt w4 ρ' r' L.fa nb' d.names:=by rw [hnb'];exact hN
 have hz:nb' < w4.heap.size:=by rw [hnb'];exact hz
 rw [← hnb']
 have hnb1:=hnb'
 obtain ⟨w5,hw5⟩:∃ w5,w5=w4.setCell ⟨gd,7,none⟩ (.map (some nb')):=⟨_,rfl⟩
 have g5:=heap_setCell_same w4 gd 7 _ _ (.map (some nb')) HX.out
 have m0:w5.cell? ⟨bd,0,none⟩=some (.pointer (some ⟨gd,0,none⟩)):=by rw [hw5];exact keeps (keepc hb k0) hne
 rw [← hw5] at g5
 have s3:=cell_of_row _ _ 8 _ _ _ g5
 have f3:=frozen_of_row w5 gd 8 _ _ g5
 simp only [List.getElem?_toArray,List.getElem?_cons_zero,List.getElem?_cons_succ,List.setIfInBounds_toArray,List.set_cons_succ,List.set_cons_zero] at s3
 have HG5:=hid g5
 have HN:=hid hN
 have HB:=hid hb
 have HW5:=hid hw5
 rw [← hw5]
 clear hw5 g5 hN hb s2 f2 k0 c6 HX hnb'
 go_wp2_with fail
 go_end0
 have hb4:Below w.heap.size w w4:=((Below.refl w.heap.size w).drew).trans HB.out
 have hlg:=HD.out.lg
 have ho:Only L.ρ (·=1) w (w5.setCell ⟨gd,8,none⟩ (.slice none 0 0)):=by
  rw [HW5.out]
  exact ((Only.of_below hb4).trans (Only.setCell w4 gd 7 _ hlg)).trans (Only.setCell _ gd 8 _ hlg)
 have h0:L.ρ nb'=0:=HD.out.new _ (by omega)
 have he:Ext w.heap.size L.ρ (put1 L.ρ nb' 3):=Ext.put 3 h0 (by omega)
 have hk:∀ k,L.ρ k ≠ 0→L.ρ k ≠ 1→(w5.setCell ⟨gd,8,none⟩ (.slice none 0 0)).heap[k]?=w.heap[k]?:=fun k h0 h1=>ho.block k (HD.out.dom k h0) h1
 have hs:∀ r,r ≠ 0→∀ k,L.ρ k=r→put1 L.ρ nb' 3 k=r:=fun r hr k e=>(he.same k (by omega)).trans e
 have hsz:w4.heap.size=(w5.setCell ⟨gd,8,none⟩ (.slice none 0 0)).heap.size:=by rw [HW5.out];simp
 refine ⟨rfl,{ L with ρ:=put1 L.ρ nb' 3,sb:=nb',ch:=.slice none 0 0 },⟨?_,hs 1 (by omega) gd hlg,fun k e=>?_,HD.out.nm.keep (fun k e=>hk k (by omega) (by omega)) (hs 2 (by omega)) (fun _ _ _=>rfl),?_,HD.out.cl.keep (fun k e=>hk k (by omega) (by omega)) (hs 4 (by omega)),
  OwnL.nil _ _ _ _ _,HD.out.pl.keep (fun k e=>hk k (by omega) (by omega)) (hs 6 (by omega)),fun i f hf=>?_⟩,Upd.of_only ho (by omega) he⟩
 · have h9:=heap_setCell_same w5 gd 8 _ _ (.slice none 0 0) HG5.out
   exact h9
 · by_cases e':k=nb'
   · rw [← hsz];omega
   · have e8:put1 L.ρ nb' 3 k ≠ 0:=e
     unfold put1 at e8
     rw [if_neg e'] at e8
     have:=HD.out.dom k e8
     have:=ho.size;omega
 · exact (HN.out (put1 L.ρ nb' 3) 3 (by simp [put1])).keep (fun k e=>by
    have hkg:k ≠ gd:=fun e2=>by rw [e2,hs 1 (by omega) gd hlg] at e;omega
    rw [HW5.out]
    exact (heap_setCell_other _ ⟨gd,8,none⟩ k _ hkg).trans (heap_setCell_other w4 ⟨gd,7,none⟩ k _ hkg)) (fun _ e=>e) (fun _ _ _=>rfl)
 · obtain ⟨vn,vs,vl,hx⟩:=HD.out.fs i f hf
   exact ⟨vn,vs,vl,hx.keep (fun k e=>hk k (by omega) (by omega)) (fun k e=>he.same k e)⟩
abbrev snB:ByteArray:=⟨#[83,121,110,99,78,97,109,101,115]⟩
theorem syncNames_any (w:World) (L:Lay) (gd:Nat) (d:Dm) (h:DAt w L gd d) (hp:Pre d) :
 Calls Tryz.prog 102 #[.pointer (some ⟨gd,0,none⟩)] w fun e w'=>∃ L',DAt w' L' gd d.syncNames.1∧Upd L.ρ L'.ρ w w'∧∃ v,e=.returned v∧ToldV v w' L'.ρ snB ⟨#[]⟩ d.syncNames.2:=by
 obtain ⟨w1,hw1⟩:∃ w1,w1=w.alloc (boxD gd):=⟨_,rfl⟩
 have hb1:Below w.heap.size w w1:=by rw [hw1];exact bel1 _ _
 have g0:w1.heap[w.heap.size]?=some (boxD gd):=by rw [hw1];exact heap_alloc_new w _
 have HD1:=hid (h.below hb1)
 have HU1:=hid (Upd.of_below (ρ:=L.ρ) hb1)
 have G0:=hid (show Cap w1 L.ρ w.heap.size (boxD gd) from ⟨g0,h.new _ (Nat.le_refl _)⟩)
 have k0:=cell0 g0
 have HP:=hid hp
 have HA:=hid (ask0 w1 L gd d HD1.out)
 clear h hb1 g0 hp
 go_enter Tryz.func102,Tryz.ntmps102
 go_upto_region 1 with (fail)
 rw [← hw1]
 clear hw1
 by_cases hpw:d.power=false
 · rw [if_pos hpw] at HA
   have HE:=hid (show d.syncNames=(d,2) by unfold Dm.syncNames;rw [if_pos hpw])
   clear hpw
   go_wp2_with (go_at_call 90;refine HA.out.mono ?_;rintro e w3 ⟨rfl,rfl⟩)
   with_reducible refine (told2 _ L.ρ HD1.out.dom snB ⟨#[]⟩ 2).mono ?_
   rintro e w9 ⟨⟨v,rfl,hv⟩,hb9⟩
   have HV:=hid hv
   have HB9:=hid hb9
   clear hv hb9
   go_wp2_with fail
   go_ret
   exact ⟨L,by rw [HE.out];exact HD1.out.below HB9.out,HU1.out.trans (Upd.of_below HB9.out),v,rfl,by rw [HE.out];exact HV.out⟩
 rw [if_neg hpw] at HA
 have HE:=hid (show d.syncNames=d.begin (fun e=>{ e with safe:=e.names,changes:=[] }) (fun _ e=>e) by unfold Dm.syncNames;rw [if_neg hpw])
 have HBG:=hid (begin_syncnames w1 L gd d HD1.out (by have:=HP.out.acts;omega) (.pointer (some ⟨w.heap.size,0,none⟩)) (fun e=>{ e with safe:=e.names,changes:=[] }) (fun _ e=>e)
  (fun w2 hu2 hd2=>syncnames1_any w2 L gd _ hd2 w.heap.size (G0.out.upd hu2))
  (fun w2 n hu2 hd2=>(nothing_any w2 n).mono fun e w' ⟨he,hw⟩=>by subst hw;exact ⟨he,L,hd2,Upd.refl _ _⟩))
 clear hpw
 go_wp2_with (first | (go_at_call 90;refine HA.out.mono ?_;rintro e w3 ⟨rfl,rfl⟩) | (go_at_call 94;refine HBG.out.mono ?_;rintro e w4 ⟨rfl,L4,hd4,hu4⟩;have HD4:=hid hd4;have HU4:=hid (HU1.out.trans hu4);clear hd4 hu4))
 obtain ⟨y,hy⟩:∃ y,y=(d.begin (fun e=>{ e with safe:=e.names,changes:=[] }) (fun _ e=>e)).2:=⟨_,rfl⟩
 rw [← hy]
 have HY:=hid hy
 clear hy
 with_reducible refine (told2 w4 L4.ρ HD4.out.dom snB ⟨#[]⟩ y).mono ?_
 rintro e w9 ⟨⟨v,rfl,hv⟩,hb9⟩
 have HV:=hid hv
 have HB9:=hid hb9
 clear hv hb9
 go_wp2_with fail
 go_ret
 exact ⟨L4,by rw [HE.out];exact HD4.out.below HB9.out,HU4.out.trans (Upd.of_below HB9.out),v,rfl,by rw [HE.out,← HY.out];exact HV.out⟩
end
end Go.Proofs.YtgkehahklccacaaGreatDoor
