import Derived.Test.YtgkehahklccacaaGreatDoorZ16
import Derived.Test.YtgkehahklccacaaGreatDoorZ14
namespace Go.Proofs.YtgkehahklccacaaGreatDoor
open Go Go.RowKit
open Go.Lib (hid)
set_option maxRecDepth 100000
set_option maxHeartbeats 1000000
set_option linter.unusedVariables false
set_option linter.unusedSimpArgs false
section
open Go Go.RowKit Go.Shelf Go.Lib Go.Sort
open Go.Maps Go.WideMaps
theorem row_block {w:World} {B N:Nat} {v:Value} {L:List (List UInt8)} (h:w.ownsRow B 9 1 v N (L.map encStr)) (h0:0 < N):∃ rb cap cs,v=.slice (some ⟨rb,0,none⟩) N cap∧B≤rb∧w.heap[rb]?=some (.cells cs 9 (0,0))∧L.length=N∧∀ (k:Nat) (l:List UInt8),L[k]?=some l→cs[k]?=some (.string (bs l)):=by
 have hlen:=h.1
 rcases h.2 with ⟨-,e⟩ | ⟨rb,cap,cs,rfl,hb,hg,h1,h2,h3,h4⟩
 · omega
 · refine ⟨rb,cap,cs,rfl,hb,hg,by simpa using hlen,fun k l hk=>?_⟩
   have e1:(cs.toList.take (N * 1))[k]?=some (.string (bs l)):=by
    rw [h4,List.getElem?_map,hk];rfl
   rw [List.getElem?_take] at e1
   split at e1
   · simpa using e1
   · cases e1
theorem str_facts {w:World} {b n:Nat} {D:DataW Unit} {R:Value→Option (DataW Unit × List MemPlace)} (h:w.ownsMap Tryz.prog 9 R b n D) :
 (strKeys D).length=Maps.size D∧(strKeys D).Nodup∧(∀ x,x ∈ strKeys D ↔ has D (.string x)=true)∧∀ x ∈ strKeys D,x.length≤maxLen:=by
 have hle:=strKeys_le h Tryz.underlying9
 obtain ⟨es,he,hp,-⟩:=h.entries law9
 obtain ⟨es',he',hk⟩:=h.keysOf
 rw [he] at he'
 obtain rfl:es=es':=by injection he'
 have hs:∀ p ∈ es,∃ x,p.1=.string x:=fun p hp=>by
  obtain ⟨v,hv⟩:=hk p hp
  obtain ⟨x,-,e,-⟩:=Maps.keyOf_str Tryz.underlying9 hv
  exact ⟨x,e⟩
 subst he
 refine ⟨by simp [strKeys,Maps.size],?_,fun x=>?_,hle⟩
 · show (es.map fun p=>strOf p.1).Nodup
   rw [List.nodup_iff_pairwise_ne,List.pairwise_map]
   refine hp.imp_of_mem fun {p q} h1 h2 hne e=>hne ?_
   obtain ⟨x,hx⟩:=hs p h1
   obtain ⟨y,hy⟩:=hs q h2
   rw [hx,hy] at e ⊢
   have:x=y:=e
   rw [this]
 · constructor
   · intro hx
     obtain ⟨p,hp1,rfl⟩:=List.mem_map.1 hx
     obtain ⟨y,hy⟩:=hs p hp1
     refine List.any_eq_true.2 ⟨p,hp1,?_⟩
     rw [hy]
     exact WideAt.sameKey_self trivial
   · intro hx
     obtain ⟨p,hp1,hk1⟩:=List.any_eq_true.1 hx
     have e:=WideAt.sameKey_eq hk1
     exact List.mem_map.2 ⟨p,hp1,by rw [e];rfl⟩
theorem vals_ids {w:World} {fa:Nat→Nat} {b:Nat} {m:List (Nm × Nat)} {D:DataW Unit} (hm:w.ownsMap Tryz.prog 9 ptrR b m.length D) (hz:size D=m.length) (hl:∀ s:Nm,D.atKey (.string s) .nil=(match lk m s with | none=>.nil | some i=>.lit (.int .i64 (fa i:Nat)))∧has D (.string s)=(lk m s).isSome) (hn:(keysOf m).Nodup)
 {xs:List (Option Nat)} (hx:ValsOf D xs):∃ is:List Nat,is.Perm (m.map (·.2))∧xs=is.map (fun i=>some (fa i)):=by
 obtain ⟨ps,hp,hv,rfl⟩:=hx
 obtain ⟨-,hnd,hmem,-⟩:=str_facts hm
 have hpm:(ps.map (·.1)).Perm (keysOf m):=hp.trans ((List.perm_ext_iff_of_nodup hnd hn).2 fun x=>by rw [hmem,(hl x).2,lk_some])
 have hlk:∀ p ∈ ps,∃ i,lk m p.1=some i∧p.2=some (fa i):=fun p h=>by
  have hk:p.1 ∈ keysOf m:=hpm.mem_iff.1 (List.mem_map.2 ⟨p,h,rfl⟩)
  obtain ⟨i,hi⟩:=Option.isSome_iff_exists.1 (lk_some.2 hk)
  refine ⟨i,hi,?_⟩
  have h1:=hv p h .nil
  rw [(hl p.1).1,hi] at h1
  cases e:p.2 with
  | none=>rw [e] at h1;simp [valD] at h1
  | some g=>rw [e] at h1;simp [valD] at h1;rw [show fa i=g by omega]
 refine ⟨ps.map (fun p=>(lk m p.1).getD 0),?_,?_⟩
 · have h2:(ps.map (·.1)).map (fun s=>(lk m s).getD 0)=ps.map (fun p=>(lk m p.1).getD 0):=by rw [List.map_map];rfl
   rw [← h2]
   have h3:=hpm.map (fun s=>(lk m s).getD 0)
   refine h3.trans ?_
   have h4:(keysOf m).map (fun s=>(lk m s).getD 0)=m.map (·.2):=by
    unfold keysOf
    rw [List.map_map]
    exact List.map_congr_left fun p hp=>by
     have:=lk_of_mem hn (s:=p.1) (i:=p.2) hp
     simp [this]
   rw [h4]
 · rw [List.map_map]
   refine List.map_congr_left fun p hp=>?_
   obtain ⟨i,h1,h2⟩:=hlk p hp
   rw [h2];simp [h1]
theorem sl74:Sl Tryz.prog 107 109 (.pointer none) 1 8:=⟨Tryz.underlying107,by kernel_rfl,rfl,by decide⟩
theorem new_ptr (w:World) (v:Value) {k:Nat} (hk:w.heap.size=k) (j:Nat) (u:Value) (h:[v][j]?=some u):(w.alloc (.cells #[v] 109)).cell? ((⟨k,0,none⟩:Addr).add j)=some u:=by
 subst hk
 rw [Addr.add_lit,cell_of_row _ _ _ _ _ _ (heap_alloc_new w _),Nat.zero_add]
 simpa using h
def ptrs (fa:Nat→Nat) (is:List Nat):List Value:=is.map fun i=>.pointer (some ⟨fa i,0,none⟩)
theorem ch_at {w:World} {L:Lay} {gd:Nat} {d:Dm} (h:DAt w L gd d) {k:Nat} {c:Chg} (hc:d.changes[k]?=some c):∃ g cc,L.ch=.slice (some ⟨g,0,none⟩) d.changes.length cc∧w.cell? ⟨g,k * 3,none⟩=some (.string (bs c.src))∧w.cell? ⟨g,k * 3+1,none⟩=some (.string (bs c.dst))∧w.cell? ⟨g,k * 3+2,none⟩=some (madeV L.fa c.made):=by
 have hk:=(List.getElem?_eq_some_iff.1 hc).1
 obtain ⟨a,cc,hv,hg⟩:=owns_shape h.ch.1
 obtain ⟨g,rfl,-,-⟩:=hg (by omega)
 have ho:=h.ch.1
 rw [hv] at ho
 exact ⟨g,cc,hv,own_at (enc:=chV L.fa) (s:=3) (fun _=>rfl) ho hc 0 _ rfl,own_at (enc:=chV L.fa) (s:=3) (fun _=>rfl) ho hc 1 _ rfl,own_at (enc:=chV L.fa) (s:=3) (fun _=>rfl) ho hc 2 _ rfl⟩
theorem msort_perm {l l':List Nat} (h:l.Perm l'):l.mergeSort (fun x y=>decide (x≤y))=l'.mergeSort (fun x y=>decide (x≤y)):=by
 have tr:∀ a b c:Nat,decide (a≤b)=true→decide (b≤c)=true→decide (a≤c)=true:=fun a b c h1 h2=>by simp only [decide_eq_true_eq] at *;omega
 have tot:∀ a b:Nat,(decide (a≤b) || decide (b≤a))=true:=fun a b=>by simp only [Bool.or_eq_true,decide_eq_true_eq];omega
 refine List.Perm.eq_of_pairwise (le:=fun a b=>decide (a≤b)=true) (fun a b _ _ h1 h2=>?_) (List.pairwise_mergeSort tr tot l) (List.pairwise_mergeSort tr tot l') (((List.mergeSort_perm l _).trans h).trans (List.mergeSort_perm l' _).symm)
 simp only [decide_eq_true_eq] at h1 h2
 omega
def madeOf (l:List Chg):List Nat:=l.filterMap (·.made)
theorem reach_any (w:World) (L:Lay) (gd:Nat) (d:Dm) (h:DAt w L gd d) (hp:Pre d) :
 Calls Tryz.prog 50 #[.pointer (some ⟨gd,0,none⟩)] w fun e w'=>(∃ a c,e=.returned (.slice a d.reach.length c)∧w'.ownsRow w.heap.size 109 1 (.slice a d.reach.length c) d.reach.length (ptrs L.fa d.reach))∧Below w.heap.size w w':=by
 obtain ⟨D,hm,-,hz,hl⟩:=h.sf
 have c7:=h.cells.2.2.2.2.2.2.2.1
 have c8:=h.cells.2.2.2.2.2.2.2.2.1
 obtain ⟨chA,chC,hch,-⟩:=owns_shape h.ch.1
 obtain ⟨cn,hcn⟩:∃ cn,cn=d.changes.length:=⟨_,rfl⟩
 rw [← hcn] at hch
 rw [hch] at c8
 have HCH:=hid hch
 have HCN:=hid hcn
 have HD:=hid h
 have HP:=hid hp
 have HM:=hid hm
 have HZL:=hid (And.intro hz hl)
 have hgl:=h.lt
 have hcb:cn < 1099511627776:=by rw [hcn];exact hp.chl
 clear h hp hm hz hl hch hcn
 go_enter Tryz.func50,Tryz.ntmps50
 go_wp2_with (first
  | (go_at_call 104;refine ((callsIn_wide (n:=5)).1 (values_any _ _)).mono ?_;rintro e w1 ⟨rfl,ew1⟩
     have hb1:Below w.heap.size w w1:=by rw [ew1];exact bel1 _ _
     have hc1:w1.cell? ⟨w.heap.size,0,none⟩=some (.map (some L.sb)):=by rw [ew1,cell_of_row _ _ _ _ _ _ (heap_alloc_new w _)];rfl
     have hz1:w.heap.size < w1.heap.size:=by rw [ew1];simp
     have HCO:=hid (collect_any w1 w.heap.size L.sb d.safe.length D hz1 hc1 (HM.out.kept (gwk hb1) (by simp)) (by rw [HZL.out.1];have:=HP.out.fewS;omega))
     have HB1:=hid hb1
     clear ew1 hc1 hb1)
  | (go_at_call 103;refine ((callsIn_wide (n:=4)).1 HCO.out).mono ?_;rintro e w2 ⟨v,xs,rfl,hx,hrow,hb2⟩
     obtain ⟨a2,n2,rfl,-⟩:=owns_shape hrow
     have hb2':=HB1.out.trans (hb2.mono HB1.out.size)
     have c8:=(hb2'.cell (p:=⟨gd,8,none⟩) hgl).trans c8
     have HX:=hid hx
     have HROW:=hid (owns_mono hrow HB1.out.size)
     have HB2:=hid hb2'
     clear hx hrow hb2 hb2' HCO))
 obtain ⟨is,hperm,hxs⟩:=vals_ids HM.out HZL.out.1 HZL.out.2 HP.out.ns HX.out
 have hxl:xs.length=is.length:=by rw [hxs];simp
 have hisl:is.length≤4096:=by have h1:=hperm.length_eq;rw [List.length_map] at h1;have:=HP.out.fewS;omega
 have hrow0:w2.ownsRow w.heap.size 109 1 (.slice a2 is.length n2) is.length (ptrs L.fa is):=by
  have h1:=HROW.out
  rw [hxl,hxs,List.map_map] at h1
  exact h1
 have hlt:∀ i ∈ is,i < d.fs.length:=fun i hi=>by
  have h1:=hperm.mem_iff.1 hi
  obtain ⟨p,hp,rfl⟩:=List.mem_map.1 h1
  exact HP.out.refs.sf p.1 p.2 (lk_of_mem HP.out.ns hp)
 rw [hxl]
 have HPERM:=hid hperm
 have HROW0:=hid hrow0
 have HLT:=hid hlt
 have hmade:∀ k,k≤cn→(madeOf (d.changes.take k)).length≤k:=fun k hk=>by
  have h1:=List.length_filterMap_le (·.made) (d.changes.take k)
  rw [List.length_take] at h1
  unfold madeOf;omega
 have HMD:=hid hmade
 clear hperm hxs hxl hrow0 hlt HROW HX HM HZL c7 hmade
 go_loopw [3,17] (fun v i wr=>∃ (k n:Nat) (va:Option Addr) (vc:Nat),k≤cn∧i=.int .i64 k∧n=(is++madeOf (d.changes.take k)).length∧v=.slice va n vc∧wr.ownsRow w.heap.size 109 1 (.slice va n vc) n (ptrs L.fa (is++madeOf (d.changes.take k)))∧Below w.heap.size w wr) (fun _ i _=>cn - (intOf i).toNat)
 case atStart=>exact ⟨0,is.length,a2,n2,Nat.zero_le _,rfl,by simp [madeOf],rfl,by simpa [madeOf] using HROW0.out,HB2.out⟩
 case round =>
  obtain ⟨k,n,va,vc,hk,rfl,hn,rfl,ho,hb⟩:=hrel
  have HO:=hid ho
  have HB:=hid hb
  have HN:=hid hn
  have hn0:n≤4096+k:=by rw [hn,List.length_append];have:=HMD.out k hk;omega
  clear ho hb hn
  by_cases hkl:k < cn
  · obtain ⟨c,hc⟩:∃ c,d.changes[k]?=some c:=⟨_,List.getElem?_eq_getElem (by rw [← HCN.out];exact hkl)⟩
    have hdr:=HD.out.below (HB.out)
    obtain ⟨g,cc,hv,d0,d1,d2⟩:=ch_at hdr hc
    rw [HCH.out,← HCN.out] at hv
    obtain rfl:chA=some ⟨g,0,none⟩:=by injection hv
    have htk:(d.changes.take (k+1))=d.changes.take k++[c]:=by rw [List.take_add_one,hc];rfl
    have HTK:=hid htk
    have hcm:∀ i,c.made=some i→i < d.fs.length:=fun i hi=>HP.out.refs.ch c (List.mem_of_getElem? hc) i hi
    have HDR:=hid hdr
    clear hdr hv hc htk
    obtain ⟨mv,hmv⟩:∃ mv,madeV L.fa c.made=.pointer mv:=by cases c.made <;> exact ⟨_,rfl⟩
    rw [hmv] at d2
    have HMV:=hid hmv
    obtain ⟨wb,hwb⟩:∃ wb,wb=wr.alloc (boxC (bs c.src) (bs c.dst) (.pointer mv)):=⟨_,rfl⟩
    have hbb:Below wr.heap.size wr wb:=by rw [hwb];exact bel1 _ _
    have gb:wb.heap[wr.heap.size]?=some (boxC (bs c.src) (bs c.dst) (.pointer mv)):=by rw [hwb];exact heap_alloc_new wr _
    obtain ⟨-,-,b2⟩:=box3 gb
    have HBB:=hid (HB.out.trans (hbb.mono HB.out.size))
    have HOB:=hid (own_below HO.out hbb)
    clear hmv hbb gb
    go_upto_region 5 with (fail)
    rw [← hwb]
    clear hwb d0 d1 d2
    cases hmade:c.made with
    | none =>
      have hm0:mv=none:=by have h1:=HMV.out;rw [hmade] at h1;injection h1 with h1;exact h1.symm
      subst hm0
      have HMK:=hid (show madeOf (d.changes.take (k+1))=madeOf (d.changes.take k) by rw [HTK.out];unfold madeOf;rw [List.filterMap_append];simp [hmade])
      clear hmade hcm
      go_wp2_with fail
      go_roundw
      case rel=>exact ⟨k+1,n,va,vc,by omega,by push_cast;rfl,by rw [HMK.out];exact HN.out,rfl,by rw [HMK.out];exact HOB.out,HBB.out⟩
      case measure=>simp [intOf];omega
    | some i =>
      have hm0:mv=some ⟨L.fa i,0,none⟩:=by have h1:=HMV.out;rw [hmade] at h1;injection h1 with h1;exact h1.symm
      subst hm0
      have HMK:=hid (show madeOf (d.changes.take (k+1))=madeOf (d.changes.take k)++[i] by rw [HTK.out];unfold madeOf;rw [List.filterMap_append];simp [hmade])
      have hbx:Below wb.heap.size wb (wb.alloc (.cells #[.pointer (some ⟨L.fa i,0,none⟩)] 109)):=bel1 _ _
      have HOX:=hid (own_below HOB.out hbx)
      have HNX:=hid (fun j u=>new_ptr wb (.pointer (some ⟨L.fa i,0,none⟩)) (k:=wb.heap.size) rfl j u)
      have HBX:=hid (HBB.out.trans (hbx.mono HBB.out.size))
      have HQ1:=hid (show (n+1) * 8≤140737488355328 by omega)
      have HQ2:=hid (show n+1≤maxLen by unfold maxLen;omega)
      clear hmade hcm hbx
      go_wp2_with (at_builtin;refine L_appendN rfl (.tmp 24) (.tmp 27) 107 (by rfl) sl74 w.heap.size (.slice va n vc) n _ (by rfl) HOX.out ⟨wb.heap.size,0,none⟩ 1 1 [.pointer (some ⟨L.fa i,0,none⟩)] (by rfl) (by rfl) HNX.out (by simp [Value.oneCell']) HQ1.out HQ2.out (by have:=HBX.out.size;exact this) (fun a4 c4 w4 ho4 hg4 hat4=>?_);have HO4:=hid ho4;have HB4:=hid (HBX.out.grown hg4 HBX.out.size (fun k hk=>(HOX.out.lt k hk).1));clear ho4 hg4 hat4)
      go_roundw
      case rel=>exact ⟨k+1,n+1,a4,c4,by omega,by push_cast;rfl,by rw [HMK.out,← List.append_assoc,List.length_append,← HN.out];rfl,rfl,by rw [HMK.out,← List.append_assoc];unfold ptrs;rw [List.map_append];exact HO4.out,HB4.out⟩
      case measure=>simp [intOf];omega
  · obtain rfl:k=cn:=by omega
    have htk:d.changes.take k=d.changes:=List.take_of_length_le (by rw [← HCN.out];exact Nat.le_refl _)
    rw [htk] at HO HN
    have HRE:=hid (show (is++madeOf d.changes).mergeSort (fun x y=>decide (x≤y))=d.reach by
     have hp1:(is++madeOf d.changes).Perm (d.safe.map (·.2)++d.changes.filterMap (·.made)):=HPERM.out.append_right _
     exact msort_perm hp1)
    have hdr:=HD.out.below HB.out
    have hnum:∀ i,i < d.fs.length→wr.cell? ⟨L.fa i,0,none⟩=some (.int .i64 ((i:Int)+1)):=fun i hi=>by
     obtain ⟨f,hf⟩:∃ f,d.fs[i]?=some f:=⟨_,List.getElem?_eq_getElem hi⟩
     obtain ⟨_,_,_,hfa⟩:=hdr.fs i f hf
     exact hfa.cells.1
    have hB:∀ i,i < d.fs.length→L.fa i < w.heap.size:=fun i hi=>by
     obtain ⟨f,hf⟩:∃ f,d.fs[i]?=some f:=⟨_,List.getElem?_eq_getElem hi⟩
     obtain ⟨_,_,_,hfa⟩:=HD.out.fs i f hf
     exact hfa.lt
    have hids:∀ i ∈ is++madeOf d.changes,i < d.fs.length:=fun i hi=>by
     rcases List.mem_append.1 hi with h1 | h1
     · exact HLT.out i h1
     · unfold madeOf at h1
       obtain ⟨c,h2,h3⟩:=List.mem_filterMap.1 h1
       exact HP.out.refs.ch c h2 i h3
    have HS:=hid (sort_ids wr L.fa d.fs.length w.heap.size hnum (.slice va n vc) (is++madeOf d.changes) hids (by rw [← HN.out];omega) (by rw [← HN.out];exact HO.out) hB)
    have HBK:=hid (show ∀ k ∈ (Value.slice va n vc).ownBlock,w.heap.size≤k from fun k hk=>(HO.out.lt k hk).1)
    have HRL:=hid (show n=d.reach.length by rw [← HRE.out,List.length_mergeSort];exact HN.out)
    clear hids hdr hnum hB htk HD HP HLT HPERM
    go_wp2_with (go_at_call 105;refine HS.out.mono ?_;rintro e w4 ⟨rfl,ho4,hg4⟩
                 have HO4:=hid ho4
                 have HB4:=hid (HB.out.grown hg4 HB.out.size HBK.out)
                 clear ho4 hg4)
    go_ret
    refine ⟨⟨va,vc,by rw [← HRL.out];rfl,?_⟩,HB4.out⟩
    have h1:=HO4.out
    rw [HRE.out,← HN.out,HRL.out] at h1
    exact h1
end
section
open Go.Maps Go.WideMaps
theorem units_any (w:World) (a:Option Addr) (n c:Nat) (x:Int):Calls Tryz.prog 89 #[.agg #[.slice a n c,.int .i64 x]] w fun e w'=>e=.returned (.int .i64 (max (n:Int) 1))∧Below w.heap.size w w':=by
 have hb1:Below w.heap.size w (w.alloc (.cells #[.slice a n c,.int .i64 x] 172)):=bel1 _ _
 have HB:=hid hb1
 have c0:(w.alloc (.cells #[.slice a n c,.int .i64 x] 172)).cell? ⟨w.heap.size,0,none⟩=some (.slice a n c):=by rw [cell_of_row _ _ _ _ _ _ (heap_alloc_new w _)];rfl
 clear hb1
 go_enter Tryz.func89,Tryz.ntmps89
 go_wp2_with fail
 go_ret
 exact ⟨rfl,HB.out⟩
def okR:List Run→Nat→Prop
 | [],n=>n≤2147483647
 | u :: r,n=>n≤2147483647∧(u.laid=[]→u.cut≤n)∧okR r ((if u.laid=[] then u.cut else n)+u.laid.length)
theorem okR.le {l:List Run} {n:Nat} (h:okR l n):n≤2147483647:=by
 cases l with
 | nil=>exact h
 | cons u r=>exact h.1
theorem run_at {w:World} {ρ:Nat→Nat} {r:Nat} {v:Value} {l:List Run} (h:RunsAt w ρ r v l) {k:Nat} {u:Run} (hk:l[k]?=some u) :
 ∃ g cc a c,v=.slice (some ⟨g,0,none⟩) l.length cc∧w.cell? ⟨g,k * 2,none⟩=some (.slice a u.laid.length c)∧w.cell? ⟨g,k * 2+1,none⟩=some (.int .i64 u.cut)∧R8 w a u.laid.length c u.laid:=by
 obtain ⟨rs,hrl,ho,hall⟩:=h
 have hkl:=(List.getElem?_eq_some_iff.1 hk).1
 obtain ⟨a0,cc,hv,hg⟩:=owns_shape ho.1
 obtain ⟨g,rfl,-,-⟩:=hg (by omega)
 obtain ⟨p,hp⟩:∃ p,rs[k]?=some p:=⟨_,List.getElem?_eq_getElem (by omega)⟩
 have hh:=ho.1
 rw [hv] at hh
 obtain ⟨hc,a,c,hpv,hr,-⟩:=hall k p u hp hk
 refine ⟨g,cc,a,c,hv,?_,?_,hr⟩
 · have:=own_at (enc:=runV) (s:=2) (fun _=>rfl) hh hp 0 _ rfl
   rw [hpv] at this;exact this
 · have:=own_at (enc:=runV) (s:=2) (fun _=>rfl) hh hp 1 _ rfl
   rw [hc] at this;exact this
theorem set3 (w:World) {g k:Nat} (hk:k ≠ g) (a b c:Value):(((w.setCell ⟨g,1,none⟩ a).setCell ⟨g,2,none⟩ b).setCell ⟨g,3,none⟩ c).heap[k]?=w.heap[k]? :=
 ((heap_setCell_other _ ⟨g,3,none⟩ k _ hk).trans (heap_setCell_other _ ⟨g,2,none⟩ k _ hk)).trans (heap_setCell_other _ ⟨g,1,none⟩ k _ hk)
theorem kept_file {w W w5:World} {L:Lay} {gd i g:Nat} {d:Dm} {vn vs vl:Value} (h:DAt w L gd d) (hi:i < d.fs.length) (hg:g=L.fa i) (hf:FAt w L.ρ i g (d.file i) vn vs vl) (hW:Below w.heap.size w W) {va a5:Option Addr} {n vc c5:Nat} {l:List UInt8} (hn:n=l.length)
 (ho:W.ownsRow w.heap.size 5 1 (.slice va n vc) n (l.map b8)) (h5:Below W.heap.size W w5) (hv:w5.ownsRow W.heap.size 5 1 (.slice a5 n c5) n (l.map b8)) :
 ∃ ρ',DAt (((w5.setCell ⟨g,1,none⟩ (.slice va n vc)).setCell ⟨g,2,none⟩ (.slice a5 n c5)).setCell ⟨g,3,none⟩ (.slice none 0 0)) { L with ρ:=ρ' } gd (d.setF i ⟨l,l,[]⟩)∧Upd L.ρ ρ' w (((w5.setCell ⟨g,1,none⟩ (.slice va n vc)).setCell ⟨g,2,none⟩ (.slice a5 n c5)).setCell ⟨g,3,none⟩ (.slice none 0 0)):=by
 have hgl:g < w.heap.size:=(Array.getElem?_eq_some_iff.1 hf.box).1
 have hgr:7+4 * i≤L.ρ g∧L.ρ g≤10+4 * i:=by rw [hf.lg];omega
 have hb5:Below w.heap.size w w5:=hW.trans (h5.mono hW.size)
 obtain ⟨w6,hw6⟩:∃ w6,w6=((w5.setCell ⟨g,1,none⟩ (.slice va n vc)).setCell ⟨g,2,none⟩ (.slice a5 n c5)).setCell ⟨g,3,none⟩ (.slice none 0 0):=⟨_,rfl⟩
 rw [← hw6]
 have e6:∀ k,k ≠ g→w6.heap[k]?=w5.heap[k]?:=fun k hk=>by rw [hw6];exact set3 w5 hk _ _ _
 have z6:w6.heap.size=w5.heap.size:=by rw [hw6];simp
 have g6:w6.heap[g]?=some (boxFile i (.slice va n vc) (.slice a5 n c5) (.slice none 0 0)):=by
  have h0:w5.heap[g]?=some (boxFile i vn vs vl):=(hb5.block g hgl).trans hf.box
  rw [hw6]
  exact heap_setCell_same _ g 3 _ _ _ (heap_setCell_same _ g 2 _ _ _ (heap_setCell_same _ g 1 _ _ _ h0))
 have ho6:Only L.ρ (fun r=>7+4 * i≤r∧r≤10+4 * i) w w6:=by
  rw [hw6]
  exact (((Only.of_below hb5).trans (Only.setCell w5 g 1 _ hgr)).trans (Only.setCell _ g 2 _ hgr)).trans (Only.setCell _ g 3 _ hgr)
 have hv6:w6.ownsRow W.heap.size 5 1 (.slice a5 n c5) n (l.map b8):=own_same hv (fun k hk=>e6 k (fun e=>by have:=(hv.lt k hk).1;have:=hW.size;omega))
 have hn6:w6.ownsRow w.heap.size 5 1 (.slice va n vc) n (l.map b8):=own_same ho (fun k hk=>by
  have h1:=ho.lt k hk
  exact (e6 k (by omega)).trans (h5.block k h1.2))
 obtain ⟨ρ1,he1,hd1,hl1⟩:=put_new h.dom ho hW.size (8+4 * i)
 obtain ⟨ρ2,he2,hd2,hl2⟩:=put_new (w:=W) (w':=w6) hd1 hv6 (by rw [z6];exact h5.size) (9+4 * i)
 have he:=he1.trans he2 hW.size
 refine ⟨ρ2,h.file1 hi ho6 he hd2 (f:=⟨l,l,[]⟩) (vn:=.slice va n vc) (vs:=.slice a5 n c5) (vl:=.slice none 0 0) ?_,Upd.of_only ho6 (by omega) he⟩
 rw [← hg]
 exact ⟨g6,(he.same g (by rw [hf.lg];omega)).trans hf.lg,⟨by rw [← hn];exact own_base hn6,fun k hk=>(he2.same k (by rw [hl1 k hk];omega)).trans (hl1 k hk)⟩,⟨by rw [← hn];exact own_base hv6,hl2⟩,RunsAt.nil _ _ _⟩
theorem own_takeB {w:World} {B e s n m:Nat} {a:Option Addr} {c:Nat} {xs:List Value} (h:w.ownsRow B e s (.slice a n c) n xs) (hm:m≤n):w.ownsRow B e s (.slice a m c) m (xs.take (m * s)):=by
 have h1:=own_take (own_base h) hm
 refine ⟨h1.1,?_⟩
 rcases h1.2 with h2 | ⟨g,cap,cur,hv,hb,hg,hn,hc,hs,ht⟩
 · exact .inl h2
 · rcases h.2 with ⟨h3,-⟩ | ⟨g',cap',cur',hv',hb',-⟩
   · injection h3 with h4 h5 h6;injection hv with h7;rw [h4] at h7;cases h7
   · refine .inr ⟨g,cap,cur,hv,?_,hg,hn,hc,hs,ht⟩
     injection hv with h4;injection hv' with h5;rw [h4] at h5;injection h5 with h5;injection h5 with h5;rw [h5];exact hb'
theorem own_cap {w:World} {B e s n:Nat} {a:Option Addr} {c:Nat} {xs:List Value} (h:w.ownsRow B e s (.slice a n c) n xs):n≤c:=by
 rcases h.2 with ⟨h3,h4⟩ | ⟨g',cap',cur',hv',hb',-,hn,-⟩
 · injection h3 with _ h5 h6;omega
 · injection hv' with _ _ h6;omega
theorem keep_any (w:World) (L:Lay) (gd:Nat) (d:Dm) (h:DAt w L gd d) (i:Nat) (hi:i < d.fs.length) (hok:okR (d.file i).loose (d.file i).safe.length) (hll:(d.file i).loose.length < 1099511627776) (x:Int) (hx0:-9223372036854775808≤x) (hx1:x≤9223372036854775807) :
 Calls Tryz.prog 51 #[.pointer (some ⟨L.fa i,0,none⟩),.int .i64 x] w fun e w'=>e=.returned (.tuple #[])∧∃ ρ',DAt w' { L with ρ:=ρ' } gd (d.setF i ((d.file i).keep x))∧Upd L.ρ ρ' w w':=by
 obtain ⟨vn,vs,vl,hf⟩:=h.at hi
 obtain ⟨sa,sc,hvs,-⟩:=owns_shape hf.safe.1
 obtain ⟨la,lc,hvl,-⟩:=owns_shape (show w.ownsRow 0 172 2 vl (d.file i).loose.length _ from hf.loose.choose_spec.2.1.1)
 obtain ⟨sn,hsn⟩:∃ sn,sn=(d.file i).safe.length:=⟨_,rfl⟩
 obtain ⟨ln,hln⟩:∃ ln,ln=(d.file i).loose.length:=⟨_,rfl⟩
 have hsl:=hok.le
 have hr:R8 w sa sn sc (d.file i).safe:=by have h9:=hf.safe.1;rw [hvs,← hsn] at h9;exact R8.of_owns h9 (by omega)
 rw [← hsn] at hvs hsl
 rw [← hln] at hvl hll
 subst hvs hvl
 obtain ⟨g,hg⟩:∃ g,g=L.fa i:=⟨_,rfl⟩
 rw [← hg]
 rw [← hg] at hf
 have n2:=hf.cells.2.2.1
 have n3:=hf.cells.2.2.2.1
 have hgl:g < w.heap.size:=(Array.getElem?_eq_some_iff.1 hf.box).1
 have HD:=hid h
 have HF:=hid hf
 have HOK:=hid hok
 have HCL:=hid (bclone_any w sa sn sc (d.file i).safe hr (by omega))
 have HG:=hid hg
 have HSN:=hid hsn
 have HLN:=hid hln
 have HI:=hid hi
 clear h hf hr hg hsn hln hok hi hsl
 go_enter Tryz.func51,Tryz.ntmps51
 go_wp2_with (go_at_call 54;refine HCL.out.mono ?_;rintro e w1 ⟨⟨a1,c1,rfl,hv1⟩,hb1⟩
              have n3:=(hb1.cell hgl).trans n3
              have HV1:=hid hv1
              have HB1:=hid hb1
              clear hv1 hb1)
 go_loopw [1,4,17] (fun xv v iv wr=>∃ (k:Nat) (y:Int) (n:Nat) (l:List UInt8) (va:Option Addr) (vc:Nat),k≤ln∧iv=.int .i64 k∧xv=.int .i64 y∧-9223372036854775808≤y∧y≤9223372036854775807∧v=.slice va n vc∧n=l.length∧n≤2147483647∧wr.ownsRow w.heap.size 5 1 (.slice va n vc) n (l.map b8)∧playN ((d.file i).loose.drop k) y l=playN (d.file i).loose x (d.file i).safe∧(0 < y→okR ((d.file i).loose.drop k) l.length)∧Below w.heap.size w wr) (fun _ _ iv _=>ln - (intOf iv).toNat)
 case atStart=>exact ⟨0,x,sn,(d.file i).safe,a1,c1,Nat.zero_le _,rfl,rfl,hx0,hx1,rfl,HSN.out,by have:=HOK.out.le;have:=HSN.out;omega,HV1.out,rfl,fun _=>HOK.out,HB1.out⟩
 case round =>
  obtain ⟨k,y,n,l,va,vc,hk,rfl,rfl,hy0,hy1,rfl,hn,hn1,ho,hplay,hokk,hb⟩:=hrel
  have HO:=hid ho
  have HB:=hid hb
  have HN:=hid hn
  have HPL:=hid hplay
  have HOKK:=hid hokk
  clear ho hb hn hplay hokk
  by_cases hkl:k < ln
  · obtain ⟨u,hu⟩:∃ u,(d.file i).loose[k]?=some u:=⟨_,List.getElem?_eq_getElem (by rw [← HLN.out];exact hkl)⟩
    have hfr:FAt wr L.ρ i g (d.file i) vn (.slice sa sn sc) (.slice la ln lc):=HF.out.keep (fun k hk=>HB.out.block k (HD.out.dom k (by omega))) (fun _ _=>rfl)
    obtain ⟨gr,cc,ra,rc,hv,d0,d1,hrr⟩:=run_at hfr.loose hu
    rw [← HLN.out] at hv
    obtain rfl:la=some ⟨gr,0,none⟩:=by injection hv
    obtain ⟨rm,hrm⟩:∃ rm,rm=u.laid.length:=⟨_,rfl⟩
    rw [← hrm] at d0 hrr
    obtain ⟨wb,hwb⟩:∃ wb,wb=wr.alloc (.cells #[.slice ra rm rc,.int .i64 u.cut] 172):=⟨_,rfl⟩
    have hbb:Below wr.heap.size wr wb:=by rw [hwb];exact bel1 _ _
    have gb:wb.heap[wr.heap.size]?=some (.cells #[.slice ra rm rc,.int .i64 u.cut] 172):=by rw [hwb];exact heap_alloc_new wr _
    have b0:wb.cell? ⟨wr.heap.size,0,none⟩=some (.slice ra rm rc):=by rw [cell_of_row _ _ _ _ _ _ gb];rfl
    have b1:wb.cell? ⟨wr.heap.size,1,none⟩=some (.int .i64 u.cut):=by rw [cell_of_row _ _ _ _ _ _ gb];rfl
    have hdrop:(d.file i).loose.drop k=u :: (d.file i).loose.drop (k+1):=by
     have:=(List.getElem?_eq_some_iff.1 hu)
     rw [List.drop_eq_getElem_cons this.1,this.2]
    have HGB:=hid gb
    have HBB:=hid (HB.out.trans (hbb.mono HB.out.size))
    have HOB:=hid (own_below HO.out hbb)
    have HRB:=hid (hrr.below hbb)
    have HDR:=hid hdrop
    have HRM:=hid hrm
    clear hv hfr hbb gb hdrop hu hrm
    by_cases hy:0 < y
    · have hyle:¬ y≤0:=by omega
      go_upto_region 5 with (fail)
      rw [← hwb]
      clear hwb d0 d1
      have hok1:=HOKK.out hy
      rw [HDR.out] at hok1
      obtain ⟨-,hcut,hok2⟩:=hok1
      have hpl1:=HPL.out
      rw [HDR.out,playN,if_neg hyle] at hpl1
      have HOK2:=hid hok2
      have HPL1:=hid hpl1
      clear hok2 hpl1 HOKK HPL
      by_cases hm:rm=0
      · subst hm
        have hl0:u.laid=[]:=List.eq_nil_of_length_eq_zero HRM.out.symm
        have hcut1:=hcut hl0
        have hltb:wr.heap.size < wb.heap.size:=(Array.getElem?_eq_some_iff.1 HGB.out).1
        have HOT:=hid (show wb.ownsRow w.heap.size 5 1 (.slice va u.cut vc) u.cut ((l.take u.cut).map b8) by
         have h1:=own_takeB HOB.out (m:=u.cut) (by rw [HN.out];exact hcut1)
         rw [Nat.mul_one,← List.map_take] at h1;exact h1)
        have HOR:=hid (own_takeB HO.out (m:=u.cut) (by rw [HN.out];exact hcut1))
        have HSR:=hid (HRB.out.take 0 (Nat.le_refl _))
        have hq1:=slice_cut wb va n vc u.cut (by have:=own_cap HOB.out;have:=HN.out;omega)
        have hq2:(Instr.slice 53 (.slice ra 0 rc) none (some (.int .i64 (min y 0))) none).run Tryz.prog wb=.ok (.slice ra 0 rc) wb:=by
         rw [show min y 0=((0:Nat):Int) by omega];exact slice_cut wb ra 0 rc 0 (Nat.zero_le _)
        have hcn:u.cut≤2147483647:=by have:=HN.out;omega
        clear hcut
        have HQ1:=hid (show (u.cut+0) * 1≤140737488355328 by omega)
        have HQ2:=hid (show u.cut+0≤maxLen by unfold maxLen;omega)
        have HWB:=hid (show w.heap.size≤wb.heap.size from HBB.out.size)
        have HLT:=hid hltb
        have HB0:=hid b0
        have HB1':=hid b1
        clear hltb
        go_wp2_with (first
         | (at_builtin;refine L_append8 rfl (.tmp 31) (.tmp 39) 53 (by rfl) sl50 w.heap.size (.slice va u.cut vc) u.cut ((l.take u.cut).map b8) (by rfl) HOT.out ra 0 rc (u.laid.take 0) (by rfl) HSR.out HQ1.out HQ2.out HWB.out (fun a4 c4 w4 ho4 hg4 hat4=>?_)
            have b0:=(World.cell?_of_block (a:=⟨wr.heap.size,0,none⟩) (hg4.block wr.heap.size HLT.out (fun e=>by have:=(HOR.out.lt wr.heap.size e.symm).2;omega))).trans HB0.out
            have b1:=(World.cell?_of_block (a:=⟨wr.heap.size,1,none⟩) (hg4.block wr.heap.size HLT.out (fun e=>by have:=(HOR.out.lt wr.heap.size e.symm).2;omega))).trans HB1'.out
            have HO4:=hid ho4
            have HB4:=hid (HBB.out.grown hg4 HWB.out (fun k hk=>(HOT.out.lt k hk).1))
            clear ho4 hg4 hat4)
         | (go_at_call 89;refine (units_any _ _ _ _ _).mono ?_;rintro e w5 ⟨rfl,hb5⟩
            have HO5:=hid (own_below HO4.out hb5)
            have HB5:=hid (HB4.out.trans (hb5.mono HB4.out.size))
            clear hb5))
        go_roundw
        case rel =>
         have hun:u.units=1:=by unfold Run.units;rw [hl0];rfl
         have hup:u.play y.toNat l=l.take u.cut:=by unfold Run.play;rw [if_pos hl0,hl0];simp
         have hp9:=HPL1.out
         have ho9:=HOK2.out
         rw [hun,hup] at hp9
         rw [if_pos hl0,hl0] at ho9
         have hlen:u.cut=(l.take u.cut).length:=by rw [List.length_take];omega
         refine ⟨k+1,y - max 0 1,u.cut,l.take u.cut,a4,c4,by omega,by push_cast;rfl,rfl,by omega,by omega,rfl,hlen,hcn,?_,hp9,fun _=>by rw [← hlen];exact ho9,HB5.out⟩
         have h9:=HO5.out
         rw [List.take_zero,List.map_nil,List.append_nil] at h9
         exact h9
        case measure=>simp [intOf];omega
      · have hl0:u.laid ≠ []:=fun e=>by have:=HRM.out;rw [e] at this;exact hm this
        have hltb:wr.heap.size < wb.heap.size:=(Array.getElem?_eq_some_iff.1 HGB.out).1
        obtain ⟨K,hK⟩:∃ K,K=(min y (rm:Int)).toNat:=⟨_,rfl⟩
        have hKm:K≤rm:=by omega
        have HOT:=hid (show wb.ownsRow w.heap.size 5 1 (.slice va n vc) n (l.map b8) from HOB.out)
        have HOR:=hid (show wr.ownsRow w.heap.size 5 1 (.slice va n vc) n (l.map b8) from HO.out)
        have HSR:=hid (HRB.out.take K hKm)
        have hq2:(Instr.slice 53 (.slice ra rm rc) none (some (.int .i64 (min y (rm:Int)))) none).run Tryz.prog wb=.ok (.slice ra K rc) wb:=by
         rw [show min y (rm:Int)=(K:Int) by omega];exact slice_cut wb ra rm rc K (by have:=HRB.out.2.1;omega)
        have hn9:n+rm≤2147483647:=by have h1:=HOK2.out.le;rw [if_neg hl0,← HRM.out,← HN.out] at h1;exact h1
        have hrm0:¬ (rm:Int)=0:=by omega
        have HK:=hid hK
        clear hcut hK
        have HQ1:=hid (show (n+K) * 1≤140737488355328 by omega)
        have HQ2:=hid (show n+K≤maxLen by unfold maxLen;omega)
        have HWB:=hid (show w.heap.size≤wb.heap.size from HBB.out.size)
        have HLT:=hid hltb
        have HB0:=hid b0
        have HB1':=hid b1
        clear hltb
        go_wp2_with (first
         | (at_builtin;refine L_append8 rfl (.tmp 31) (.tmp 39) 53 (by rfl) sl50 w.heap.size (.slice va n vc) n (l.map b8) (by rfl) HOT.out ra K rc (u.laid.take K) (by rfl) HSR.out HQ1.out HQ2.out HWB.out (fun a4 c4 w4 ho4 hg4 hat4=>?_)
            have b0:=(World.cell?_of_block (a:=⟨wr.heap.size,0,none⟩) (hg4.block wr.heap.size HLT.out (fun e=>by have:=(HOR.out.lt wr.heap.size e.symm).2;omega))).trans HB0.out
            have b1:=(World.cell?_of_block (a:=⟨wr.heap.size,1,none⟩) (hg4.block wr.heap.size HLT.out (fun e=>by have:=(HOR.out.lt wr.heap.size e.symm).2;omega))).trans HB1'.out
            have HO4:=hid ho4
            have HB4:=hid (HBB.out.grown hg4 HWB.out (fun k hk=>(HOT.out.lt k hk).1))
            clear ho4 hg4 hat4)
         | (go_at_call 89;refine (units_any _ _ _ _ _).mono ?_;rintro e w5 ⟨rfl,hb5⟩
            have HO5:=hid (own_below HO4.out hb5)
            have HB5:=hid (HB4.out.trans (hb5.mono HB4.out.size))
            clear hb5))
        go_roundw
        case rel =>
         have hun:u.units=rm:=by unfold Run.units;rw [← HRM.out];omega
         have hK:=HK.out
         have hup:u.play y.toNat l=l++u.laid.take K:=by
          unfold Run.play;rw [if_neg hl0]
          congr 1
          rw [List.take_eq_take_iff,← HRM.out];omega
         have hp9:=HPL1.out
         have ho9:=HOK2.out
         rw [hun,hup] at hp9
         rw [if_neg hl0,← HRM.out,← HN.out] at ho9
         have hlen:n+K=(l++u.laid.take K).length:=by rw [List.length_append,List.length_take,← HRM.out,← HN.out];omega
         refine ⟨k+1,y - max (rm:Int) 1,n+K,l++u.laid.take K,a4,c4,by omega,by push_cast;rfl,rfl,by omega,by omega,rfl,hlen,by omega,?_,by rw [show y - max (rm:Int) 1=y - (rm:Int) by omega];exact hp9,fun h0=>by rw [← hlen,show K=rm by omega];exact ho9,HB5.out⟩
         have h9:=HO5.out
         rw [← List.map_append] at h9
         exact h9
        case measure=>simp [intOf];omega
    · have hyle:y≤0:=by omega
      have HFIN:=hid (show playN (d.file i).loose x (d.file i).safe=l by rw [← HPL.out,HDR.out,playN,if_pos hyle])
      have HBW:=hid (show Below w.heap.size w wb from HBB.out)
      have HOW:=hid HOB.out
      go_upto_region 10 with (fail)
      rw [← hwb]
      clear hwb d0 d1 b0 b1
      have HC:=hid (bclone_any wb va n vc l (R8.of_owns HOW.out (by omega)) (by omega))
      have hgW:g < wb.heap.size:=Nat.lt_of_lt_of_le hgl HBW.out.size
      go_wp2_with (go_at_call 54;refine HC.out.mono ?_;rintro e w5 ⟨⟨a5,c5,rfl,hv5⟩,hb5⟩
                   have hx:=(hb5.block g hgW).trans ((HBW.out.block g hgl).trans HF.out.box)
                   have s1:=cell_of_row _ _ 1 _ _ _ hx
                   have s2:=cell_of_row _ _ 2 _ _ _ hx
                   have s3:=cell_of_row _ _ 3 _ _ _ hx
                   have f1:=frozen_of_row w5 g 1 _ _ hx
                   have f2:=frozen_of_row w5 g 2 _ _ hx
                   have f3:=frozen_of_row w5 g 3 _ _ hx
                   simp only [List.getElem?_toArray,List.getElem?_cons_zero,List.getElem?_cons_succ] at s1 s2 s3
                   have HX:=hid hx
                   have HV5:=hid hv5
                   have HB5:=hid hb5
                   clear hx hv5 hb5)
      go_end0
      have hk9:(d.file i).keep x=⟨l,l,[]⟩:=by unfold Fl.keep;rw [HFIN.out]
      rw [hk9]
      exact ⟨rfl,kept_file HD.out HI.out HG.out HF.out HBW.out HN.out HOW.out HB5.out HV5.out⟩
  · obtain rfl:k=ln:=by omega
    have HFIN:=hid (show playN (d.file i).loose x (d.file i).safe=l by rw [← HPL.out,List.drop_of_length_le (by rw [← HLN.out];exact Nat.le_refl _)];rfl)
    have HBW:=hid HB.out
    have HOW:=hid HO.out
    have HC:=hid (bclone_any wr va n vc l (R8.of_owns HOW.out (by omega)) (by omega))
    have hgW:g < wr.heap.size:=Nat.lt_of_lt_of_le hgl HBW.out.size
    go_wp2_with (go_at_call 54;refine HC.out.mono ?_;rintro e w5 ⟨⟨a5,c5,rfl,hv5⟩,hb5⟩
                 have hx:=(hb5.block g hgW).trans ((HBW.out.block g hgl).trans HF.out.box)
                 have s1:=cell_of_row _ _ 1 _ _ _ hx
                 have s2:=cell_of_row _ _ 2 _ _ _ hx
                 have s3:=cell_of_row _ _ 3 _ _ _ hx
                 have f1:=frozen_of_row w5 g 1 _ _ hx
                 have f2:=frozen_of_row w5 g 2 _ _ hx
                 have f3:=frozen_of_row w5 g 3 _ _ hx
                 simp only [List.getElem?_toArray,List.getElem?_cons_zero,List.getElem?_cons_succ] at s1 s2 s3
                 have HX:=hid hx
                 have HV5:=hid hv5
                 have HB5:=hid hb5
                 clear hx hv5 hb5)
    go_end0
    have hk9:(d.file i).keep x=⟨l,l,[]⟩:=by unfold Fl.keep;rw [HFIN.out]
    rw [hk9]
    exact ⟨rfl,kept_file HD.out HI.out HG.out HF.out HBW.out HN.out HOW.out HB5.out HV5.out⟩
end
end Go.Proofs.YtgkehahklccacaaGreatDoor
