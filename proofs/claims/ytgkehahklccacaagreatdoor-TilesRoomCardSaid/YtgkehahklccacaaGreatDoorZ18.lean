import Derived.Test.YtgkehahklccacaaGreatDoorZ17
import Derived.Test.YtgkehahklccacaaGreatDoorZ14
import Derived.Test.YtgkehahklccacaaGreatDoorZ12
namespace Go.Proofs.YtgkehahklccacaaGreatDoor
open Go Go.RowKit
open Go.Lib (hid)
set_option maxRecDepth 100000
set_option maxHeartbeats 1000000
set_option linter.unusedVariables false
set_option linter.unusedSimpArgs false
section
open Go.Maps Go.WideMaps
theorem sl30:Sl Tryz.prog 41 3 (.int .i64 0) 1 8:=⟨Tryz.underlying41,by kernel_rfl,rfl,by decide⟩
theorem new_int (w:World) (v:Value) {k:Nat} (hk:k=w.heap.size) (j:Nat) (u:Value) (h:[v][j]?=some u):(w.alloc (.cells #[v] 3)).cell? ((⟨k,0,none⟩:Addr).add j)=some u:=by
 subst hk
 rw [Addr.add_lit,cell_of_row _ _ _ _ _ _ (heap_alloc_new w _),Nat.zero_add]
 simpa using h
def nV (k:Nat):Value:=.int .i64 (k:Int)
abbrev boxCut (a:Option Addr) (n c:Nat) (m:Int):Obj:=.cells #[.slice a n c,.int .i64 m] 43
theorem ptrs_at {w:World} {B e n c:Nat} {a:Option Addr} {fa:Nat→Nat} {is:List Nat} (h:w.ownsRow B e 1 (.slice a n c) n (ptrs fa is)) {j i:Nat} (hj:is[j]?=some i):∃ g,a=some ⟨g,0,none⟩∧B≤g∧g < w.heap.size∧w.cell? ⟨g,j,none⟩=some (.pointer (some ⟨fa i,0,none⟩)):=by
 have hl:=h.1
 have hjl:=(List.getElem?_eq_some_iff.1 hj).1
 have hn:n=is.length:=by unfold ptrs at hl;rw [List.length_map] at hl;omega
 have hlt:0 < n:=by omega
 obtain ⟨a0,c0,hv,hg⟩:=owns_shape h
 obtain ⟨g,h1,-,-⟩:=hg hlt
 injection hv with h2 _ h3
 subst h2 h3 h1
 have h4:=h.lt g rfl
 have hp:(ptrs fa is)=is.flatMap fun i=>[.pointer (some ⟨fa i,0,none⟩)]:=by unfold ptrs;exact List.map_eq_flatMap
 rw [hp] at h
 have:=own_at (enc:=fun i=>[.pointer (some ⟨fa i,0,none⟩)]) (s:=1) (fun _=>rfl) h hj 0 _ rfl
 exact ⟨g,rfl,h4.1,h4.2,by simpa using this⟩
theorem grow_step {wR wo wr wx w4:World} {b3:Nat} {ob:Option Nat} (hg:wR.grownBy wo (some b3)) (hbi:Below wo.heap.size wo wr) (hx:Below wr.heap.size wr wx) (h4:wx.grownBy w4 ob) (hob:∀ k,ob=some k→wR.heap.size≤k) (o:Nat) (v:Value):wR.grownBy (w4.setCell ⟨b3,o,none⟩ v) (some b3) :=
 ⟨h4.os.trans (hx.os.trans (hbi.os.trans hg.os)),h4.tape.trans (hx.tape.trans (hbi.tape.trans hg.tape)),h4.output.trans (hx.output.trans (hbi.output.trans hg.output)),by have:=hg.size;have:=hbi.size;have:=hx.size;have:=h4.size;simp;omega,fun k hk hn=>by
   have:=hg.size;have:=hbi.size;have:=hx.size
   refine (heap_setCell_other w4 ⟨b3,o,none⟩ k v (fun e=>hn (by rw [e]))).trans ?_
   exact (h4.block k (by omega) (fun e=>by have:=hob k e.symm;omega)).trans ((hx.block k (by omega)).trans ((hbi.block k (by omega)).trans (hg.block k hk hn)))⟩
theorem units_take {l:List Run} {k:Nat} {u:Run} (h:l[k]?=some u):((l.take (k+1)).map Run.units).sum=((l.take k).map Run.units).sum+u.units:=by
 rw [List.take_add_one,h,List.map_append,List.sum_append];simp
theorem units_le (l:List Run) (k:Nat):((l.take k).map Run.units).sum≤(l.map Run.units).sum:=by
 conv=>rhs;rw [← List.take_append_drop k l,List.map_append,List.sum_append]
 exact Nat.le_add_right _ _
theorem reach_lt {d:Dm} (hp:Pre d):∀ i ∈ d.reach,i < d.fs.length:=fun i hi=>by
 have h1:=(List.mergeSort_perm _ _).mem_iff.1 hi
 rcases List.mem_append.1 h1 with h1 | h1
 · obtain ⟨p,h2,rfl⟩:=List.mem_map.1 h1
   exact hp.refs.sf p.1 p.2 (lk_of_mem hp.ns h2)
 · obtain ⟨c,h2,h3⟩:=List.mem_filterMap.1 h1
   exact hp.refs.ch c h2 i h3
theorem reach_len {d:Dm} (hp:Pre d):d.reach.length < 1099511631873:=by
 have h1:d.reach.length=d.safe.length+(d.changes.filterMap (·.made)).length:=by
  unfold Dm.reach;rw [List.length_mergeSort,List.length_append,List.length_map]
 have h2:=List.length_filterMap_le (·.made) d.changes
 have h3:=hp.chl
 have h4:=hp.fewS
 rw [h1];omega
theorem loose_any (w:World) (L:Lay) (gd:Nat) (d:Dm) (h:DAt w L gd d) (hp:Pre d) (hun:∀ i,i < d.fs.length→(d.file i).units≤9223372036854775806) :
 Calls Tryz.prog 35 #[.pointer (some ⟨gd,0,none⟩)] w fun e w'=>Below w.heap.size w w'∧∃ a c,e=.returned (.agg #[.slice a d.reach.length c,.int .i64 d.changes.length])∧w'.ownsRow w.heap.size 3 1 (.slice a d.reach.length c) d.reach.length (d.loose.2.map nV):=by
 obtain ⟨cv,cc,hch,-⟩:=owns_shape h.ch.1
 obtain ⟨cn,hcn⟩:∃ cn,cn=d.changes.length:=⟨_,rfl⟩
 have c8:=h.cells.2.2.2.2.2.2.2.2.1
 rw [hch,← hcn] at c8
 have hgl:=h.lt
 rw [← hcn]
 obtain ⟨w1,hw1⟩:∃ w1,w1=w.alloc (boxCut none 0 0 0):=⟨_,rfl⟩
 obtain ⟨w2,hw2⟩:∃ w2,w2=w1.alloc (boxCut none 0 0 cn):=⟨_,rfl⟩
 have hb1:Below w.heap.size w w1:=by rw [hw1];exact bel1 _ _
 have hb2:Below w1.heap.size w1 w2:=by rw [hw2];exact bel1 _ _
 have g1:w1.heap[w.heap.size]?=some (boxCut none 0 0 0):=by rw [hw1];exact heap_alloc_new w _
 have g2:w2.heap[w1.heap.size]?=some (boxCut none 0 0 cn):=by rw [hw2];exact heap_alloc_new w1 _
 have hb12:=hb1.trans (hb2.mono hb1.size)
 have HB2:=hid hb12
 have HR:=hid (reach_any w2 L gd d (h.below hb12) hp)
 have HG2:=hid g2
 have HG1:=hid ((hb2.block w.heap.size (by rw [hw1];simp)).trans g1)
 have HD:=hid h
 have HP:=hid hp
 have HUN:=hid hun
 have HCN:=hid hcn
 clear h hp hun hcn hch hb1 hb2 hb12 g1 g2
 obtain ⟨rn,hrn⟩:∃ rn,rn=d.reach.length:=⟨_,rfl⟩
 have hrn0:rn < 1099511631873:=by rw [hrn];exact reach_len HP.out
 rw [← hrn]
 go_enter Tryz.func35,Tryz.ntmps35
 go_upto_region 2 with (fail)
 rw [← hw1,← hw2]
 obtain ⟨b3,hb3⟩:∃ b3,b3=w.heap.size+1:=⟨_,rfl⟩
 have hb31:b3=w1.heap.size:=by rw [hb3,hw1];simp
 have hz2:w2.heap.size=b3+1:=by rw [hw2,hb31];simp
 rw [← hb31] at HG2
 rw [← hb3]
 have HB3:=hid hb3
 have hb3z:b3 < w2.heap.size:=by omega
 have hb3w:w.heap.size < b3:=by omega
 clear hw1 hw2 hb31 hb3 hz2
 rw [← hrn] at HR
 have HRN:=hid hrn
 clear hrn c8
 go_wp2_with (go_at_call 50;refine HR.out.mono ?_;rintro e wR ⟨⟨ra,rc,rfl,hrow⟩,hbR⟩
              have HROW:=hid hrow
              have HBR:=hid hbR
              have hbx:b3 < wR.heap.size:=Nat.lt_of_lt_of_le hb3z hbR.size
              have hgx:=(hbR.block b3 hb3z).trans HG2.out
              have HGX:=hid hgx
              clear hrow hbR hgx)
 go_loopw [18] (fun iv wr=>∃ (k:Nat) (va:Option Addr) (vc:Nat),k≤rn∧iv=.int .i64 k∧wR.grownBy wr (some b3)∧wr.heap[b3]?=some (boxCut va k vc cn)∧wr.ownsRow wR.heap.size 3 1 (.slice va k vc) k ((d.loose.2.take k).map nV)) (fun iv _=>rn - (intOf iv).toNat)
 case atStart=>exact ⟨0,none,0,Nat.zero_le _,rfl,World.grownBy.refl _ _,HGX.out,by simp,.inl ⟨rfl,rfl⟩⟩
 case round =>
  rename World=>wo
  obtain ⟨k,va,vc,hk,rfl,hg,hx,ho⟩:=hrel
  have HG:=hid hg
  have HX:=hid hx
  have HO:=hid ho
  clear hg hx ho
  by_cases hkl:k < rn
  · obtain ⟨i,hi⟩:∃ i,d.reach[k]?=some i:=⟨_,List.getElem?_eq_getElem (by rw [← HRN.out];exact hkl)⟩
    have hil:=reach_lt HP.out i (List.mem_of_getElem? hi)
    obtain ⟨gq,rfl,hq0,hq1,hq⟩:=ptrs_at HROW.out hi
    have hq':wo.cell? ⟨gq,k,none⟩=some (.pointer (some ⟨L.fa i,0,none⟩)):=(World.cell?_of_block (a:=⟨gq,k,none⟩) (HG.out.block gq hq1 (by simp;omega))).trans hq
    obtain ⟨vn,vs,vl,hf⟩:=HD.out.at hil
    have hbr:Below w.heap.size w wo:=HB2.out.trans ((HBR.out.mono HB2.out.size).trans ⟨HG.out.os,HG.out.tape,HG.out.output,HG.out.size,fun j hj=>HG.out.block j (by have:=HB2.out.size;have:=HBR.out.size;omega) (by simp;omega)⟩)
    have hfr:FAt wo L.ρ i (L.fa i) (d.file i) vn vs vl:=hf.keep (fun k hk=>hbr.block k (HD.out.dom k (by omega))) (fun _ _=>rfl)
    obtain ⟨la,lc,hvl,-⟩:=owns_shape (show wo.ownsRow 0 172 2 vl (d.file i).loose.length _ from hfr.loose.choose_spec.2.1.1)
    obtain ⟨ln,hln⟩:∃ ln,ln=(d.file i).loose.length:=⟨_,rfl⟩
    rw [← hln] at hvl
    subst hvl
    have n3:=hfr.cells.2.2.2.1
    have hgf:L.fa i < wo.heap.size:=(Array.getElem?_eq_some_iff.1 hfr.box).1
    obtain ⟨g,hg⟩:∃ g,g=L.fa i:=⟨_,rfl⟩
    rw [← hg] at n3 hq' hgf
    have hunl:=HUN.out i hil
    have HF:=hid hfr
    have HBW:=hid hbr
    have HLN:=hid hln
    have HGE:=hid hg
    have HI:=hid hi
    have HUL:=hid hunl
    have hll:ln < 1099511627776:=by rw [hln];exact (HP.out.file i).2.2
    clear hf hfr hln hg hbr hi hq hunl
    go_wp2_with fail
    go_loopw [6,27] (fun nv jv wr=>∃ (j s:Nat),j≤ln∧jv=.int .i64 j∧nv=.int .i64 s∧s=(((d.file i).loose.take j).map Run.units).sum∧Below wo.heap.size wo wr) (fun _ jv _=>ln - (intOf jv).toNat)
    case atStart=>exact ⟨0,0,Nat.zero_le _,rfl,rfl,by simp,Below.refl _ _⟩
    case round =>
     obtain ⟨j,s,hj,rfl,rfl,hs,hbi⟩:=hrel
     have HS:=hid hs
     have HBI:=hid hbi
     clear hs hbi
     by_cases hjl:j < ln
     · obtain ⟨u,hu⟩:∃ u,(d.file i).loose[j]?=some u:=⟨_,List.getElem?_eq_getElem (by rw [← HLN.out];exact hjl)⟩
       have hfi:FAt wr L.ρ i (L.fa i) (d.file i) vn vs (.slice la ln lc):=HF.out.keep (fun k hk=>HBI.out.block k (Nat.lt_of_lt_of_le (HD.out.dom k (by omega)) HBW.out.size)) (fun _ _=>rfl)
       obtain ⟨gr,cc',ua,uc,hv,d0,d1,hrr⟩:=run_at hfi.loose hu
       rw [← HLN.out] at hv
       obtain rfl:la=some ⟨gr,0,none⟩:=by injection hv
       have hle:u.laid.length≤281474976710656:=hrr.2.2.1
       obtain ⟨rm,hrm⟩:∃ rm,rm=u.laid.length:=⟨_,rfl⟩
       rw [← hrm] at d0 hle
       have hst:=units_take hu
       have hun1:u.units=max rm 1:=by unfold Run.units;rw [hrm]
       rw [hun1,← HS.out] at hst
       have hsu:s+max rm 1≤9223372036854775806:=by
        have h1:=units_le (d.file i).loose (j+1)
        have h2:=HUL.out
        unfold Fl.units at h2
        omega
       have HST:=hid hst
       obtain ⟨wb,hwb⟩:∃ wb,wb=wr.alloc (.cells #[.slice ua rm uc,.int .i64 u.cut] 172):=⟨_,rfl⟩
       have hbb:Below wr.heap.size wr wb:=by rw [hwb];exact bel1 _ _
       have gb:wb.heap[wr.heap.size]?=some (.cells #[.slice ua rm uc,.int .i64 u.cut] 172):=by rw [hwb];exact heap_alloc_new wr _
       have b0:wb.cell? ⟨wr.heap.size,0,none⟩=some (.slice ua rm uc):=by rw [cell_of_row _ _ _ _ _ _ gb];rfl
       have b1:wb.cell? ⟨wr.heap.size,1,none⟩=some (.int .i64 u.cut):=by rw [cell_of_row _ _ _ _ _ _ gb];rfl
       have HBB:=hid (HBI.out.trans (hbb.mono HBI.out.size))
       clear hv hfi hrr hu hrm hst hun1 hbb gb
       go_upto_region 9 with (fail)
       rw [← hwb]
       clear hwb d0 d1
       go_wp2_with (go_at_call 89;refine (units_any _ _ _ _ _).mono ?_;rintro e w5 ⟨rfl,hb5⟩
                    have HB5:=hid (HBB.out.trans (hb5.mono HBB.out.size))
                    clear hb5)
       go_roundw
       case rel=>exact ⟨j+1,s+max rm 1,by omega,by push_cast;rfl,congrArg (Value.int .i64) (by omega),HST.out.symm,HB5.out⟩
       case measure=>simp [intOf];omega
     · obtain rfl:j=ln:=by omega
       have HS9:=hid (show s=(d.file i).units by unfold Fl.units;rw [HS.out,List.take_of_length_le (by rw [← HLN.out];exact Nat.le_refl _)])
       have hxi:=(HBI.out.block b3 (Array.getElem?_eq_some_iff.1 HX.out).1).trans HX.out
       have x0:=cell_of_row _ _ 0 _ _ _ hxi
       simp only [List.getElem?_toArray,List.getElem?_cons_zero,List.getElem?_cons_succ] at x0
       have hoi:=own_below HO.out HBI.out
       obtain ⟨wx,hwx⟩:∃ wx,wx=wr.alloc (.cells #[.int .i64 s] 3):=⟨_,rfl⟩
       have hbx1:Below wr.heap.size wr wx:=by rw [hwx];exact bel1 _ _
       have HNX:=hid (fun jj u h=>by have h9:=new_int wr (.int .i64 s) (k:=wr.heap.size) rfl jj u h;rw [← hwx] at h9;exact h9)
       have HOX:=hid (own_below hoi hbx1)
       have HXX:=hid ((hbx1.block b3 (Array.getElem?_eq_some_iff.1 hxi).1).trans hxi)
       have hbz:b3 < wx.heap.size:=(Array.getElem?_eq_some_iff.1 HXX.out).1
       have hRx:wR.heap.size≤wx.heap.size:=by have:=HG.out.size;have:=HBI.out.size;have:=hbx1.size;omega
       have HBX1:=hid hbx1
       have HQ1:=hid (show (k+1) * 8≤140737488355328 by omega)
       have HQ2:=hid (show k+1≤maxLen by unfold maxLen;omega)
       have HOB:=hid (fun kk e=>(HOX.out.lt kk e).1)
       clear hxi hoi hbx1
       go_wp2_with (first
        | (at_builtin;rw [← hwx];refine L_appendN rfl (.tmp 37) (.tmp 39) 41 (by rfl) sl30 wR.heap.size (.slice va k vc) k _ (by rfl) HOX.out ⟨wr.heap.size,0,none⟩ 1 1 [.int .i64 s] (by rfl) (by rfl) HNX.out (by simp [Value.oneCell']) HQ1.out HQ2.out hRx (fun a4 c4 w4 ho4 hg4 hat4=>?_)
           have hx4:=(hg4.block b3 hbz (fun e=>by have:=HOB.out b3 e.symm;omega)).trans HXX.out
           have x4:=cell_of_row _ _ 0 _ _ _ hx4
           have f4:=frozen_of_row w4 b3 0 _ _ hx4
           simp only [List.getElem?_toArray,List.getElem?_cons_zero,List.getElem?_cons_succ] at x4
           have HX4:=hid hx4
           have HO4:=hid ho4
           have HG4:=hid hg4
           clear hx4 ho4 hg4 hat4))
       go_roundw
       case rel =>
        refine ⟨k+1,a4,c4,by omega,by push_cast;rfl,grow_step HG.out HBI.out HBX1.out HG4.out HOB.out 0 _,heap_setCell_same _ b3 0 _ _ _ HX4.out,?_⟩
        have h9:=own_same (w':=w4.setCell ⟨b3,0,none⟩ (.slice a4 (k+1) c4)) HO4.out (fun kk e=>heap_setCell_other w4 ⟨b3,0,none⟩ kk _ (fun e'=>by have:=(HO4.out.lt kk e).1;simp at e';omega))
        have h8:d.loose.2[k]?=some s:=by unfold Dm.loose;rw [List.getElem?_map,HI.out,HS9.out];rfl
        rw [List.take_add_one,h8,List.map_append]
        exact h9
       case measure=>simp [intOf];omega
  · obtain rfl:k=rn:=by omega
    have hbr:Below w.heap.size w wo:=HB2.out.trans ((HBR.out.mono HB2.out.size).trans ⟨HG.out.os,HG.out.tape,HG.out.output,HG.out.size,fun j hj=>HG.out.block j (by have:=HB2.out.size;have:=HBR.out.size;omega) (by simp;omega)⟩)
    have hg1:=(HG.out.block w.heap.size (by omega) (by simp;omega)).trans ((HBR.out.block w.heap.size (by omega)).trans HG1.out)
    have x0:=cell_of_row _ _ 0 _ _ _ HX.out
    have x1:=cell_of_row _ _ 1 _ _ _ HX.out
    have y0:=cell_of_row _ _ 0 _ _ _ hg1
    have y1:=cell_of_row _ _ 1 _ _ _ hg1
    have f0:=frozen_of_row wo w.heap.size 0 _ _ hg1
    have f1:=frozen_of_row wo w.heap.size 1 _ _ hg1
    simp only [List.getElem?_toArray,List.getElem?_cons_zero,List.getElem?_cons_succ] at x0 x1 y0 y1
    have HBW:=hid hbr
    have HY:=hid hg1
    clear hbr hg1
    go_wp2_with fail
    (try simp only [Exit.inBlock,Exit.then])
    have g9:((wo.setCell ⟨w.heap.size,0,none⟩ (.slice va k vc)).setCell ⟨w.heap.size,1,none⟩ (.int .i64 cn)).heap[w.heap.size]?=some (boxCut va k vc cn):=heap_setCell_same _ w.heap.size 1 _ _ _ (heap_setCell_same wo w.heap.size 0 _ _ _ HY.out)
    refine bodyPost_ret (results_cell_row rfl _ _ w.heap.size 43 #[.slice va k vc,.int .i64 cn] (0,0) _ rfl g9 Tryz.underlying43 rfl (by kernel_rfl)) rfl ?_
    have h9:=own_same (w':=(wo.setCell ⟨w.heap.size,0,none⟩ (.slice va k vc)).setCell ⟨w.heap.size,1,none⟩ (.int .i64 cn)) HO.out (fun kk e=>by
     have h1:=(HO.out.lt kk e).1
     exact (heap_setCell_other _ ⟨w.heap.size,1,none⟩ kk _ (fun e'=>by simp at e';omega)).trans (heap_setCell_other wo ⟨w.heap.size,0,none⟩ kk _ (fun e'=>by simp at e';omega)))
    rw [List.take_of_length_le (by unfold Dm.loose;rw [List.length_map,← HRN.out];exact Nat.le_refl _)] at h9
    exact ⟨⟨HBW.out.os,HBW.out.tape,HBW.out.output,by simp;exact HBW.out.size,fun kk hk=>((heap_setCell_other _ ⟨w.heap.size,1,none⟩ kk _ (by simp;omega)).trans (heap_setCell_other wo ⟨w.heap.size,0,none⟩ kk _ (by simp;omega))).trans (HBW.out.block kk hk)⟩,va,vc,rfl,owns_mono h9 (by have:=HB2.out.size;have:=HBR.out.size;omega)⟩
end
section
open Go.Maps Go.WideMaps
def NsAt (w:World) (ρ:Nat→Nat) (a:Option Addr) (n:Nat) (ns:List Int):Prop:=ns.length=n∧∀ j x,ns[j]?=some x→∃ b off,a=some ⟨b,off,none⟩∧w.cell? ⟨b,off+j,none⟩=some (.int .i64 x)∧ρ b=0∧-9223372036854775808≤x∧x≤9223372036854775807
theorem NsAt.upd {w w':World} {ρ ρ':Nat→Nat} {a:Option Addr} {n:Nat} {ns:List Int} (h:NsAt w ρ a n ns) (hu:Upd ρ ρ' w w'):NsAt w' ρ' a n ns:=⟨h.1,fun j x hx=>by
 obtain ⟨b,off,e,hc,hr,hx0⟩:=h.2 j x hx
 have hb:=World.block_lt_of_cell? w _ hc
 exact ⟨b,off,e,(World.cell?_of_block (a:=⟨b,off+j,none⟩) (hu.block b hb hr)).trans hc,hu.ext.old b hb hr,hx0⟩⟩
def Fine (fs:List Fl):Prop:=∀ f ∈ fs,okR f.loose f.safe.length∧f.loose.length < 1099511627776
theorem playN_neg (l:List Run) (n:Int) (b:List UInt8) (hn:n≤0):playN l n b=b:=by
 cases l with
 | nil=>rfl
 | cons u r=>rw [playN,if_pos hn]
theorem playN_len {l:List Run}:∀ {n:Int} {b:List UInt8},okR l b.length→(playN l n b).length≤2147483647:=by
 induction l with
 | nil=>intro n b h;exact h
 | cons u r ih =>
   intro n b h
   rw [playN]
   split
   · exact h.1
   · rename_i hn
     obtain ⟨h1,h2,h3⟩:=h
     by_cases hl:u.laid=[]
     · have hp:u.play n.toNat b=b.take u.cut:=by unfold Run.play;rw [if_pos hl,hl];simp
       rw [hp]
       refine ih ?_
       rw [List.length_take,Nat.min_eq_left (h2 hl)]
       rw [if_pos hl,hl] at h3;exact h3
     · have hp:u.play n.toNat b=b++u.laid.take n.toNat:=by unfold Run.play;rw [if_neg hl]
       rw [hp]
       rw [if_neg hl] at h3
       have hle:=h3.le
       by_cases hn2:n - (u.units:Int)≤0
       · rw [playN_neg _ _ _ hn2,List.length_append,List.length_take];omega
       · have hun:u.laid.length≤u.units:=by unfold Run.units;omega
         rw [List.take_of_length_le (by omega)]
         exact ih (by rw [List.length_append];exact h3)
theorem Fl.keep_fine {f:Fl} (h:okR f.loose f.safe.length) (n:Int):okR (f.keep n).loose (f.keep n).safe.length∧(f.keep n).loose.length < 1099511627776:=⟨playN_len h,by unfold Fl.keep;simp⟩
theorem Fine.set {fs:List Fl} (h:Fine fs) (i:Nat) {f:Fl} (hf:okR f.loose f.safe.length∧f.loose.length < 1099511627776):Fine (fs.set i f):=fun g hg=>by
 rcases List.mem_or_eq_of_mem_set hg with h1 | h1
 · exact h g h1
 · rw [h1];exact hf
theorem okR_nil:okR [] 0:=Nat.zero_le _
theorem Fine.at {fs:List Fl} (h:Fine fs) (i:Nat):okR (fs[i]?.getD ⟨[],[],[]⟩).loose (fs[i]?.getD ⟨[],[],[]⟩).safe.length∧(fs[i]?.getD ⟨[],[],[]⟩).loose.length < 1099511627776:=by
 cases e:fs[i]? with
 | none=>exact ⟨okR_nil,by simp⟩
 | some f=>exact h f (List.mem_of_getElem? e)
theorem keepAll_snoc (l:List Nat) (i:Nat):∀ (ns:List Int) (fs:List Fl),keepAll (l++[i]) ns fs=(keepAll l ns fs).set i (((keepAll l ns fs)[i]?.getD ⟨[],[],[]⟩).keep (ns[l.length]?.getD 0)):=by
 induction l with
 | nil=>intro ns fs;cases ns <;> rfl
 | cons x r ih =>
   intro ns fs
   rw [List.cons_append,keepAll,ih]
   rw [keepAll]
   cases ns with
   | nil=>simp
   | cons y t=>simp
theorem keepAll_len (l:List Nat):∀ (ns:List Int) (fs:List Fl),(keepAll l ns fs).length=fs.length:=by
 induction l with
 | nil=>intro ns fs;rfl
 | cons x r ih=>intro ns fs;rw [keepAll,ih,List.length_set]
theorem keepAll_fine (l:List Nat):∀ (ns:List Int) (fs:List Fl),Fine fs→Fine (keepAll l ns fs):=by
 induction l with
 | nil=>intro ns fs h;exact h
 | cons x r ih=>intro ns fs h;rw [keepAll];exact ih _ _ (h.set _ (Fl.keep_fine (h.at x).1 _))
theorem DAt.safeTo {w w':World} {L:Lay} {gd:Nat} {d:Dm} {m:List (Nm × Nat)} (h:DAt w L gd d) (hg:w.grownBy w' (some L.sb)) (hn:NAt w' L.ρ 3 L.fa L.sb m):DAt w' L gd { d with safe:=m }:=by
 have hs:=h.sf.lt.2
 have hk:∀ k,L.ρ k ≠ 0→L.ρ k ≠ 3→w'.heap[k]?=w.heap[k]?:=fun k h0 h1=>hg.block k (h.dom k h0) (fun e=>by have:=Option.some.inj e;rw [this] at h1;exact h1 hs)
 refine ⟨(hk gd (by rw [h.lg];omega) (by rw [h.lg];omega)).trans h.g,h.lg,fun k e=>Nat.lt_of_lt_of_le (h.dom k e) hg.size,h.nm.keep (fun k e=>hk k (by omega) (by omega)) (fun _ e=>e) (fun _ _ _=>rfl),hn,h.cl.keep (fun k e=>hk k (by omega) (by omega)) (fun _ e=>e),h.ch.keep (fun k e=>hk k (by omega) (by omega)) (fun _ e=>e),h.pl.keep (fun k e=>hk k (by omega) (by omega)) (fun _ e=>e),fun i f hf=>?_⟩
 obtain ⟨vn,vs,vl,hx⟩:=h.fs i f hf
 exact ⟨vn,vs,vl,hx.keep (fun k e=>hk k (by omega) (by omega)) (fun _ _=>rfl)⟩
end
section
open Go.Maps Go.WideMaps
theorem DAt.cloned {w w4:World} {L:Lay} {gd nb:Nat} {d:Dm} {m:List (Nm × Nat)} (h:DAt w L gd d) (hnb:nb=w.heap.size) (hb:Below nb w w4) (hz:nb < w4.heap.size) (hN:∀ (ρ':Nat→Nat) (r':Nat),ρ' nb=r'→NAt w4 ρ' r' L.fa nb m) (u:Int) :
 DAt ((w4.setCell ⟨gd,6,none⟩ (.map (some nb))).setCell ⟨gd,2,none⟩ (.int .i64 u)) { L with ρ:=put1 L.ρ nb 2,nb:=nb } gd { d with names:=m,used:=u }∧Upd L.ρ (put1 L.ρ nb 2) w ((w4.setCell ⟨gd,6,none⟩ (.map (some nb))).setCell ⟨gd,2,none⟩ (.int .i64 u)):=by
 have hgl:=h.lt
 have hx:w4.heap[gd]?=some (boxDisk L d):=(hb.block gd (by omega)).trans h.g
 have hlg:=h.lg
 obtain ⟨w6,hw6⟩:∃ w6,w6=(w4.setCell ⟨gd,6,none⟩ (.map (some nb))).setCell ⟨gd,2,none⟩ (.int .i64 u):=⟨_,rfl⟩
 rw [← hw6]
 have g6:w6.heap[gd]?=some (boxDisk { L with ρ:=put1 L.ρ nb 2,nb:=nb } { d with names:=m,used:=u }):=by
  rw [hw6];exact heap_setCell_same _ gd 2 _ _ _ (heap_setCell_same w4 gd 6 _ _ _ hx)
 have ho:Only L.ρ (·=1) w w6:=by
  rw [hw6]
  exact ((Only.of_below (by rw [← hnb];exact hb)).trans (Only.setCell w4 gd 6 _ hlg)).trans (Only.setCell _ gd 2 _ hlg)
 have h0:L.ρ nb=0:=h.new _ (by omega)
 have he:Ext w.heap.size L.ρ (put1 L.ρ nb 2):=Ext.put 2 h0 (by omega)
 have hk:∀ k,L.ρ k ≠ 0→L.ρ k ≠ 1→w6.heap[k]?=w.heap[k]?:=fun k h0 h1=>ho.block k (h.dom k h0) h1
 have hs:∀ r,r ≠ 0→∀ k,L.ρ k=r→put1 L.ρ nb 2 k=r:=fun r hr k e=>(he.same k (by omega)).trans e
 have z6:w6.heap.size=w4.heap.size:=by rw [hw6];simp
 have e6:w6.heap[nb]?=w4.heap[nb]?:=by
  rw [hw6];exact (heap_setCell_other _ ⟨gd,2,none⟩ nb _ (by simp;omega)).trans (heap_setCell_other w4 ⟨gd,6,none⟩ nb _ (by simp;omega))
 have hp2:put1 L.ρ nb 2 nb=2:=by unfold put1;rw [if_pos rfl]
 refine ⟨⟨g6,hs 1 (by omega) gd hlg,fun k e=>?_,?_,h.sf.keep (fun k e=>hk k (by omega) (by omega)) (hs 3 (by omega)) (fun _ _ _=>rfl),h.cl.keep (fun k e=>hk k (by omega) (by omega)) (hs 4 (by omega)),h.ch.keep (fun k e=>hk k (by omega) (by omega)) (hs 5 (by omega)),h.pl.keep (fun k e=>hk k (by omega) (by omega)) (hs 6 (by omega)),fun i f hf=>?_⟩,Upd.of_only ho (by omega) he⟩
 · by_cases e':k=nb
   · rw [e',z6];exact hz
   · have e2:put1 L.ρ nb 2 k ≠ 0:=e
     unfold put1 at e2
     rw [if_neg e'] at e2
     rw [z6];exact Nat.lt_of_lt_of_le (h.dom k e2) ((show w.heap.size≤w4.heap.size from hb.size))
 · obtain ⟨D,⟨es,ck,hbk,hr⟩,h1,h2,h3⟩:=hN (put1 L.ρ nb 2) 2 hp2
   exact ⟨D,⟨es,ck,e6.trans hbk,hr⟩,h1,h2,h3⟩
 · obtain ⟨vn,vs,vl,hx⟩:=h.fs i f hf
   exact ⟨vn,vs,vl,hx.keep (fun k e=>hk k (by omega) (by omega)) (fun k e=>he.same k e)⟩
theorem DAt.usedTo {w:World} {L:Lay} {gd:Nat} {d:Dm} (h:DAt w L gd d) (u:Int):DAt (w.setCell ⟨gd,2,none⟩ (.int .i64 u)) L gd { d with used:=u } :=
 h.own1 (Only.setCell w gd 2 _ h.lg) (heap_setCell_same w gd 2 _ _ _ h.g) rfl rfl rfl rfl rfl rfl
theorem DAt.ended {w:World} {L:Lay} {gd:Nat} {d:Dm} (h:DAt w L gd d):DAt ((((w.setCell ⟨gd,8,none⟩ (.slice none 0 0)).setCell ⟨gd,9,none⟩ (.slice none 0 0)).setCell ⟨gd,5,none⟩ (.bool true)).setCell ⟨gd,4,none⟩ (.int .i64 ((d.epoch:Int)+1))) { L with ch:=.slice none 0 0,pl:=.slice none 0 0 } gd { d with changes:=[],plan:=[],power:=true,epoch:=d.epoch+1 } ∧
 Upd L.ρ L.ρ w ((((w.setCell ⟨gd,8,none⟩ (.slice none 0 0)).setCell ⟨gd,9,none⟩ (.slice none 0 0)).setCell ⟨gd,5,none⟩ (.bool true)).setCell ⟨gd,4,none⟩ (.int .i64 ((d.epoch:Int)+1))):=by
 have hlg:=h.lg
 obtain ⟨w6,hw6⟩:∃ w6,w6=(((w.setCell ⟨gd,8,none⟩ (.slice none 0 0)).setCell ⟨gd,9,none⟩ (.slice none 0 0)).setCell ⟨gd,5,none⟩ (.bool true)).setCell ⟨gd,4,none⟩ (.int .i64 ((d.epoch:Int)+1)):=⟨_,rfl⟩
 rw [← hw6]
 have g6:w6.heap[gd]?=some (boxDisk { L with ch:=.slice none 0 0,pl:=.slice none 0 0 } { d with changes:=[],plan:=[],power:=true,epoch:=d.epoch+1 }):=by
  rw [hw6]
  have h9:=heap_setCell_same _ gd 4 _ _ (.int .i64 ((d.epoch:Int)+1)) (heap_setCell_same _ gd 5 _ _ (.bool true) (heap_setCell_same _ gd 9 _ _ (.slice none 0 0) (heap_setCell_same w gd 8 _ _ (.slice none 0 0) h.g)))
  exact h9
 have ho:Only L.ρ (·=1) w w6:=by
  rw [hw6]
  exact (((Only.setCell w gd 8 _ hlg).trans (Only.setCell _ gd 9 _ hlg)).trans (Only.setCell _ gd 5 _ hlg)).trans (Only.setCell _ gd 4 _ hlg)
 have hk:∀ k,L.ρ k ≠ 0→L.ρ k ≠ 1→w6.heap[k]?=w.heap[k]?:=fun k h0 h1=>ho.block k (h.dom k h0) h1
 refine ⟨⟨g6,hlg,fun k e=>Nat.lt_of_lt_of_le (h.dom k e) ho.size,h.nm.keep (fun k e=>hk k (by omega) (by omega)) (fun _ e=>e) (fun _ _ _=>rfl),h.sf.keep (fun k e=>hk k (by omega) (by omega)) (fun _ e=>e) (fun _ _ _=>rfl),h.cl.keep (fun k e=>hk k (by omega) (by omega)) (fun _ e=>e),OwnL.nil _ _ _ _ _,PlAt.nil _ _,fun i f hf=>?_⟩,Upd.of_only ho (by omega) (Ext.refl _ _)⟩
 obtain ⟨vn,vs,vl,hx⟩:=h.fs i f hf
 exact ⟨vn,vs,vl,hx.keep (fun k e=>hk k (by omega) (by omega)) (fun _ _=>rfl)⟩
theorem keepAll_now (l:List Nat):∀ (ns:List Int) (fs:List Fl),Fine fs→(∀ f ∈ fs,f.now.length≤2147483647)→∀ f ∈ keepAll l ns fs,f.now.length≤2147483647:=by
 induction l with
 | nil=>intro ns fs _ h;exact h
 | cons x r ih =>
   intro ns fs hf h
   rw [keepAll]
   refine ih _ _ (hf.set _ (Fl.keep_fine (hf.at x).1 _)) (fun f hm=>?_)
   rcases List.mem_or_eq_of_mem_set hm with h1 | h1
   · exact h f h1
   · rw [h1];exact playN_len (hf.at x).1
def lenF (fs:List Fl) (i:Nat):Nat:=(fs[i]?.getD ⟨[],[],[]⟩).now.length
theorem lenF_le {fs:List Fl} (h:∀ f ∈ fs,f.now.length≤2147483647) (i:Nat):lenF fs i≤2147483647:=by
 unfold lenF
 cases e:fs[i]? with
 | none=>simp
 | some f=>exact h f (List.mem_of_getElem? e)
def sumL (len:Nat→Nat) (m:List (Nm × Nat)):Nat:=(m.map fun p=>len p.2).sum
theorem wrapSum (len:Nat→Nat) (B:Nat) (hB:∀ i,len i≤B):∀ (m:List (Nm × Nat)) (u:Nat),u+m.length * B < 9223372036854775808→m.foldl (fun (u:Int) p=>wrap64 (u+(len p.2:Int))) (u:Int)=((u+sumL len m:Nat):Int):=by
 intro m
 induction m with
 | nil=>intro u h;simp [sumL]
 | cons p r ih =>
   intro u h
   have hl:=hB p.2
   rw [List.length_cons] at h
   have h1:u+len p.2+r.length * B < 9223372036854775808:=by rw [Nat.add_mul] at h;omega
   rw [List.foldl_cons,show wrap64 ((u:Int)+(len p.2:Int))=((u+len p.2:Nat):Int) by rw [wrap64_small (by omega) (by omega)];push_cast;rfl,ih _ h1]
   unfold sumL
   rw [List.map_cons,List.sum_cons];push_cast;omega
def lenOn (fs:List Fl) (m:List (Nm × Nat)) (s:Nm):Nat:=match lk m s with | some i=>lenF fs i | none=>0
theorem lenOn_some {fs:List Fl} {m:List (Nm × Nat)} {s:Nm} {i:Nat} (h:lk m s=some i):lenOn fs m s=lenF fs i:=by unfold lenOn;rw [h]
theorem sumL_keys (fs:List Fl) {m:List (Nm × Nat)} (hn:(keysOf m).Nodup) {ss:List Nm} (hp:ss.Perm (keysOf m)):(ss.map (lenOn fs m)).sum=sumL (lenF fs) m:=by
 rw [(hp.map _).sum_nat]
 unfold sumL keysOf
 rw [List.map_map]
 congr 1
 exact List.map_congr_left fun p hp=>lenOn_some (lk_of_mem hn (s:=p.1) (i:=p.2) hp)
theorem sum_used (fs:List Fl) (h:∀ f ∈ fs,f.now.length≤2147483647) {m:List (Nm × Nat)} (hm:m.length≤4096) (hn:(keysOf m).Nodup) {ss:List Nm} (hp:ss.Perm (keysOf m)):(((ss.map (lenOn fs m)).sum:Nat):Int)=m.foldl (fun (u:Int) p=>wrap64 (u+((fs[p.2]?.getD ⟨[],[],[]⟩).now.length:Int))) 0:=by
 have h3:=wrapSum (lenF fs) 2147483647 (lenF_le h) m 0 (by omega)
 rw [sumL_keys fs hn hp]
 exact (congrArg (Nat.cast (R:=Int)) (Nat.zero_add (sumL (lenF fs) m))).symm.trans h3.symm
end
end Go.Proofs.YtgkehahklccacaaGreatDoor
