import Derived.Test.YtgkehahklccacaaGreatDoorC15
import Derived.Test.YtgkehahklccacaaGreatDoorC13
import Derived.Test.YtgkehahklccacaaGreatDoorC11
namespace Go.Proofs.YtgkehahklccacaaGreatDoor
open Go Go.RowKit
open Go.Lib (hid)
set_option maxRecDepth 100000
set_option maxHeartbeats 1000000
set_option linter.unusedVariables false
set_option linter.unusedSimpArgs false
section
open Go Go.RowKit Go.Shelf Go.Lib Go.Sort
open Go.Maps Go.WideMaps
theorem row_block {w:World} {B N:Nat} {v:Value} {L:List (List UInt8)} (h:w.ownsRow B 9 1 v N (L.map encStr)) (h0:0 < N):∃ rb cap cs,v=.slice (some ⟨rb,0,none⟩) N cap∧B≤rb∧w.heap[rb]?=some (.cells cs 9 (0,0))∧L.length=N∧∀ (k:Nat) (l:List UInt8),L[k]?=some l→cs[k]?=some (.string (bs l)):=by
 have hlen:=h.1
 rcases h.2 with ⟨-,e⟩ | ⟨rb,cap,cs,rfl,hb,hg,h1,h2,h3,h4⟩
 · omega
 · refine ⟨rb,cap,cs,rfl,hb,hg,by simpa using hlen,fun k l hk=>?_⟩
   have e1:(cs.toList.take (N * 1))[k]?=some (.string (bs l)):=by
    rw [h4,List.getElem?_map,hk];rfl
   rw [List.getElem?_take] at e1
   split at e1
   · simpa using e1
   · cases e1
theorem str_facts {w:World} {b n:Nat} {D:DataW Unit} {R:Value→Option (DataW Unit × List MemPlace)} (h:w.ownsMap Tryz.prog 9 R b n D) :
 (strKeys D).length=Maps.size D∧(strKeys D).Nodup∧(∀ x,x ∈ strKeys D ↔ has D (.string x)=true)∧∀ x ∈ strKeys D,x.length≤maxLen:=by
 have hle:=strKeys_le h Tryz.underlying9
 obtain ⟨es,he,hp,-⟩:=h.entries law9
 obtain ⟨es',he',hk⟩:=h.keysOf
 rw [he] at he'
 obtain rfl:es=es':=by injection he'
 have hs:∀ p ∈ es,∃ x,p.1=.string x:=fun p hp=>by
  obtain ⟨v,hv⟩:=hk p hp
  obtain ⟨x,-,e,-⟩:=Maps.keyOf_str Tryz.underlying9 hv
  exact ⟨x,e⟩
 subst he
 refine ⟨by simp [strKeys,Maps.size],?_,fun x=>?_,hle⟩
 · show (es.map fun p=>strOf p.1).Nodup
   rw [List.nodup_iff_pairwise_ne,List.pairwise_map]
   refine hp.imp_of_mem fun {p q} h1 h2 hne e=>hne ?_
   obtain ⟨x,hx⟩:=hs p h1
   obtain ⟨y,hy⟩:=hs q h2
   rw [hx,hy] at e ⊢
   have:x=y:=e
   rw [this]
 · constructor
   · intro hx
     obtain ⟨p,hp1,rfl⟩:=List.mem_map.1 hx
     obtain ⟨y,hy⟩:=hs p hp1
     refine List.any_eq_true.2 ⟨p,hp1,?_⟩
     rw [hy]
     exact WideAt.sameKey_self trivial
   · intro hx
     obtain ⟨p,hp1,hk1⟩:=List.any_eq_true.1 hx
     have e:=WideAt.sameKey_eq hk1
     exact List.mem_map.2 ⟨p,hp1,by rw [e];rfl⟩
theorem vals_ids {w:World} {fa:Nat→Nat} {b:Nat} {m:List (Nm × Nat)} {D:DataW Unit} (hm:w.ownsMap Tryz.prog 9 ptrR b m.length D) (hz:size D=m.length) (hl:∀ s:Nm,D.atKey (.string s) .nil=(match lk m s with | none=>.nil | some i=>.lit (.int .i64 (fa i:Nat)))∧has D (.string s)=(lk m s).isSome) (hn:(keysOf m).Nodup)
 {xs:List (Option Nat)} (hx:ValsOf D xs):∃ is:List Nat,is.Perm (m.map (·.2))∧xs=is.map (fun i=>some (fa i)):=by
 obtain ⟨ps,hp,hv,rfl⟩:=hx
 obtain ⟨-,hnd,hmem,-⟩:=str_facts hm
 have hpm:(ps.map (·.1)).Perm (keysOf m):=hp.trans ((List.perm_ext_iff_of_nodup hnd hn).2 fun x=>by rw [hmem,(hl x).2,lk_some])
 have hlk:∀ p ∈ ps,∃ i,lk m p.1=some i∧p.2=some (fa i):=fun p h=>by
  have hk:p.1 ∈ keysOf m:=hpm.mem_iff.1 (List.mem_map.2 ⟨p,h,rfl⟩)
  obtain ⟨i,hi⟩:=Option.isSome_iff_exists.1 (lk_some.2 hk)
  refine ⟨i,hi,?_⟩
  have h1:=hv p h .nil
  rw [(hl p.1).1,hi] at h1
  cases e:p.2 with
  | none=>rw [e] at h1;simp [valD] at h1
  | some g=>rw [e] at h1;simp [valD] at h1;rw [show fa i=g by omega]
 refine ⟨ps.map (fun p=>(lk m p.1).getD 0),?_,?_⟩
 · have h2:(ps.map (·.1)).map (fun s=>(lk m s).getD 0)=ps.map (fun p=>(lk m p.1).getD 0):=by rw [List.map_map];rfl
   rw [← h2]
   have h3:=hpm.map (fun s=>(lk m s).getD 0)
   refine h3.trans ?_
   have h4:(keysOf m).map (fun s=>(lk m s).getD 0)=m.map (·.2):=by
    unfold keysOf
    rw [List.map_map]
    exact List.map_congr_left fun p hp=>by
     have:=lk_of_mem hn (s:=p.1) (i:=p.2) hp
     simp [this]
   rw [h4]
 · rw [List.map_map]
   refine List.map_congr_left fun p hp=>?_
   obtain ⟨i,h1,h2⟩:=hlk p hp
   rw [h2];simp [h1]
theorem sl74:Sl Tryz.prog 107 109 (.pointer none) 1 8:=⟨Tryz.underlying107,by kernel_rfl,rfl,by decide⟩
theorem new_ptr (w:World) (v:Value) {k:Nat} (hk:w.heap.size=k) (j:Nat) (u:Value) (h:[v][j]?=some u):(w.alloc (.cells #[v] 109)).cell? ((⟨k,0,none⟩:Addr).add j)=some u:=by
 subst hk
 rw [Addr.add_lit,cell_of_row _ _ _ _ _ _ (heap_alloc_new w _),Nat.zero_add]
 simpa using h
def ptrs (fa:Nat→Nat) (is:List Nat):List Value:=is.map fun i=>.pointer (some ⟨fa i,0,none⟩)
theorem ch_at {w:World} {L:Lay} {gd:Nat} {d:Dm} (h:DAt w L gd d) {k:Nat} {c:Chg} (hc:d.changes[k]?=some c):∃ g cc,L.ch=.slice (some ⟨g,0,none⟩) d.changes.length cc∧w.cell? ⟨g,k * 3,none⟩=some (.string (bs c.src))∧w.cell? ⟨g,k * 3+1,none⟩=some (.string (bs c.dst))∧w.cell? ⟨g,k * 3+2,none⟩=some (madeV L.fa c.made):=by
 have hk:=(List.getElem?_eq_some_iff.1 hc).1
 obtain ⟨a,cc,hv,hg⟩:=owns_shape h.ch.1
 obtain ⟨g,rfl,-,-⟩:=hg (by omega)
 have ho:=h.ch.1
 rw [hv] at ho
 exact ⟨g,cc,hv,own_at (enc:=chV L.fa) (s:=3) (fun _=>rfl) ho hc 0 _ rfl,own_at (enc:=chV L.fa) (s:=3) (fun _=>rfl) ho hc 1 _ rfl,own_at (enc:=chV L.fa) (s:=3) (fun _=>rfl) ho hc 2 _ rfl⟩
theorem msort_perm {l l':List Nat} (h:l.Perm l'):l.mergeSort (fun x y=>decide (x≤y))=l'.mergeSort (fun x y=>decide (x≤y)):=by
 have tr:∀ a b c:Nat,decide (a≤b)=true→decide (b≤c)=true→decide (a≤c)=true:=fun a b c h1 h2=>by simp only [decide_eq_true_eq] at *;omega
 have tot:∀ a b:Nat,(decide (a≤b) || decide (b≤a))=true:=fun a b=>by simp only [Bool.or_eq_true,decide_eq_true_eq];omega
 refine List.Perm.eq_of_pairwise (le:=fun a b=>decide (a≤b)=true) (fun a b _ _ h1 h2=>?_) (List.pairwise_mergeSort tr tot l) (List.pairwise_mergeSort tr tot l') (((List.mergeSort_perm l _).trans h).trans (List.mergeSort_perm l' _).symm)
 simp only [decide_eq_true_eq] at h1 h2
 omega
def madeOf (l:List Chg):List Nat:=l.filterMap (·.made)
theorem reach_any (w:World) (L:Lay) (gd:Nat) (d:Dm) (h:DAt w L gd d) (hp:Pre d) :
 Calls Tryz.prog 50 #[.pointer (some ⟨gd,0,none⟩)] w fun e w'=>(∃ a c,e=.returned (.slice a d.reach.length c)∧w'.ownsRow w.heap.size 109 1 (.slice a d.reach.length c) d.reach.length (ptrs L.fa d.reach))∧Below w.heap.size w w':=by
 obtain ⟨D,hm,-,hz,hl⟩:=h.sf
 have c7:=h.cells.2.2.2.2.2.2.2.1
 have c8:=h.cells.2.2.2.2.2.2.2.2.1
 obtain ⟨chA,chC,hch,-⟩:=owns_shape h.ch.1
 obtain ⟨cn,hcn⟩:∃ cn,cn=d.changes.length:=⟨_,rfl⟩
 rw [← hcn] at hch
 rw [hch] at c8
 have HCH:=hid hch
 have HCN:=hid hcn
 have HD:=hid h
 have HP:=hid hp
 have HM:=hid hm
 have HZL:=hid (And.intro hz hl)
 have hgl:=h.lt
 have hcb:cn < 1099511627776:=by rw [hcn];exact hp.chl
 clear h hp hm hz hl hch hcn
 go_enter Tryz.func50,Tryz.ntmps50
 go_wp2_with (first
  | (go_at_call 104;refine ((callsIn_wide (n:=5)).1 (values_any _ _)).mono ?_;rintro e w1 ⟨rfl,ew1⟩
     have hb1:Below w.heap.size w w1:=by rw [ew1];exact bel1 _ _
     have hc1:w1.cell? ⟨w.heap.size,0,none⟩=some (.map (some L.sb)):=by rw [ew1,cell_of_row _ _ _ _ _ _ (heap_alloc_new w _)];rfl
     have hz1:w.heap.size < w1.heap.size:=by rw [ew1];simp
     have HCO:=hid (collect_any w1 w.heap.size L.sb d.safe.length D hz1 hc1 (HM.out.kept (gwk hb1) (by simp)) (by rw [HZL.out.1];have:=HP.out.fewS;omega))
     have HB1:=hid hb1
     clear ew1 hc1 hb1)
  | (go_at_call 103;refine ((callsIn_wide (n:=4)).1 HCO.out).mono ?_;rintro e w2 ⟨v,xs,rfl,hx,hrow,hb2⟩
     obtain ⟨a2,n2,rfl,-⟩:=owns_shape hrow
     have hb2':=HB1.out.trans (hb2.mono HB1.out.size)
     have c8:=(hb2'.cell (p:=⟨gd,8,none⟩) hgl).trans c8
     have HX:=hid hx
     have HROW:=hid (owns_mono hrow HB1.out.size)
     have HB2:=hid hb2'
     clear hx hrow hb2 hb2' HCO))
 obtain ⟨is,hperm,hxs⟩:=vals_ids HM.out HZL.out.1 HZL.out.2 HP.out.ns HX.out
 have hxl:xs.length=is.length:=by rw [hxs];simp
 have hisl:is.length≤4096:=by have h1:=hperm.length_eq;rw [List.length_map] at h1;have:=HP.out.fewS;omega
 have hrow0:w2.ownsRow w.heap.size 109 1 (.slice a2 is.length n2) is.length (ptrs L.fa is):=by
  have h1:=HROW.out
  rw [hxl,hxs,List.map_map] at h1
  exact h1
 have hlt:∀ i ∈ is,i < d.fs.length:=fun i hi=>by
  have h1:=hperm.mem_iff.1 hi
  obtain ⟨p,hp,rfl⟩:=List.mem_map.1 h1
  exact HP.out.refs.sf p.1 p.2 (lk_of_mem HP.out.ns hp)
 rw [hxl]
 have HPERM:=hid hperm
 have HROW0:=hid hrow0
 have HLT:=hid hlt
 have hmade:∀ k,k≤cn→(madeOf (d.changes.take k)).length≤k:=fun k hk=>by
  have h1:=List.length_filterMap_le (·.made) (d.changes.take k)
  rw [List.length_take] at h1
  unfold madeOf;omega
 have HMD:=hid hmade
 clear hperm hxs hxl hrow0 hlt HROW HX HM HZL c7 hmade
 go_loopw [3,17] (fun v i wr=>∃ (k n:Nat) (va:Option Addr) (vc:Nat),k≤cn∧i=.int .i64 k∧n=(is++madeOf (d.changes.take k)).length∧v=.slice va n vc∧wr.ownsRow w.heap.size 109 1 (.slice va n vc) n (ptrs L.fa (is++madeOf (d.changes.take k)))∧Below w.heap.size w wr) (fun _ i _=>cn - (intOf i).toNat)
 case atStart=>exact ⟨0,is.length,a2,n2,Nat.zero_le _,rfl,by simp [madeOf],rfl,by simpa [madeOf] using HROW0.out,HB2.out⟩
 case round =>
  obtain ⟨k,n,va,vc,hk,rfl,hn,rfl,ho,hb⟩:=hrel
  have HO:=hid ho
  have HB:=hid hb
  have HN:=hid hn
  have hn0:n≤4096+k:=by rw [hn,List.length_append];have:=HMD.out k hk;omega
  clear ho hb hn
  by_cases hkl:k < cn
  · obtain ⟨c,hc⟩:∃ c,d.changes[k]?=some c:=⟨_,List.getElem?_eq_getElem (by rw [← HCN.out];exact hkl)⟩
    have hdr:=HD.out.below (HB.out)
    obtain ⟨g,cc,hv,d0,d1,d2⟩:=ch_at hdr hc
    rw [HCH.out,← HCN.out] at hv
    obtain rfl:chA=some ⟨g,0,none⟩:=by injection hv
    have htk:(d.changes.take (k+1))=d.changes.take k++[c]:=by rw [List.take_add_one,hc];rfl
    have HTK:=hid htk
    have hcm:∀ i,c.made=some i→i < d.fs.length:=fun i hi=>HP.out.refs.ch c (List.mem_of_getElem? hc) i hi
    have HDR:=hid hdr
    clear hdr hv hc htk
    obtain ⟨mv,hmv⟩:∃ mv,madeV L.fa c.made=.pointer mv:=by cases c.made <;> exact ⟨_,rfl⟩
    rw [hmv] at d2
    have HMV:=hid hmv
    obtain ⟨wb,hwb⟩:∃ wb,wb=wr.alloc (boxC (bs c.src) (bs c.dst) (.pointer mv)):=⟨_,rfl⟩
    have hbb:Below wr.heap.size wr wb:=by rw [hwb];exact bel1 _ _
    have gb:wb.heap[wr.heap.size]?=some (boxC (bs c.src) (bs c.dst) (.pointer mv)):=by rw [hwb];exact heap_alloc_new wr _
    obtain ⟨-,-,b2⟩:=box3 gb
    have HBB:=hid (HB.out.trans (hbb.mono HB.out.size))
    have HOB:=hid (own_below HO.out hbb)
    clear hmv hbb gb
    go_upto_region 5 with (fail)
    rw [← hwb]
    clear hwb d0 d1 d2
    cases hmade:c.made with
    | none =>
      have hm0:mv=none:=by have h1:=HMV.out;rw [hmade] at h1;injection h1 with h1;exact h1.symm
      subst hm0
      have HMK:=hid (show madeOf (d.changes.take (k+1))=madeOf (d.changes.take k) by rw [HTK.out];unfold madeOf;rw [List.filterMap_append];simp [hmade])
      clear hmade hcm
      go_wp2_with fail
      go_roundw
      case rel=>exact ⟨k+1,n,va,vc,by omega,by push_cast;rfl,by rw [HMK.out];exact HN.out,rfl,by rw [HMK.out];exact HOB.out,HBB.out⟩
      case measure=>simp [intOf];omega
    | some i =>
      have hm0:mv=some ⟨L.fa i,0,none⟩:=by have h1:=HMV.out;rw [hmade] at h1;injection h1 with h1;exact h1.symm
      subst hm0
      have HMK:=hid (show madeOf (d.changes.take (k+1))=madeOf (d.changes.take k)++[i] by rw [HTK.out];unfold madeOf;rw [List.filterMap_append];simp [hmade])
      have hbx:Below wb.heap.size wb (wb.alloc (.cells #[.pointer (some ⟨L.fa i,0,none⟩)] 109)):=bel1 _ _
      have HOX:=hid (own_below HOB.out hbx)
      have HNX:=hid (fun j u=>new_ptr wb (.pointer (some ⟨L.fa i,0,none⟩)) (k:=wb.heap.size) rfl j u)
      have HBX:=hid (HBB.out.trans (hbx.mono HBB.out.size))
      have HQ1:=hid (show (n+1) * 8≤140737488355328 by omega)
      have HQ2:=hid (show n+1≤maxLen by unfold maxLen;omega)
      clear hmade hcm hbx
      go_wp2_with (at_builtin;refine L_appendN rfl (.tmp 24) (.tmp 27) 107 (by rfl) sl74 w.heap.size (.slice va n vc) n _ (by rfl) HOX.out ⟨wb.heap.size,0,none⟩ 1 1 [.pointer (some ⟨L.fa i,0,none⟩)] (by rfl) (by rfl) HNX.out (by simp [Value.oneCell']) HQ1.out HQ2.out (by have:=HBX.out.size;exact this) (fun a4 c4 w4 ho4 hg4 hat4=>?_);have HO4:=hid ho4;have HB4:=hid (HBX.out.grown hg4 HBX.out.size (fun k hk=>(HOX.out.lt k hk).1));clear ho4 hg4 hat4)
      go_roundw
      case rel=>exact ⟨k+1,n+1,a4,c4,by omega,by push_cast;rfl,by rw [HMK.out,← List.append_assoc,List.length_append,← HN.out];rfl,rfl,by rw [HMK.out,← List.append_assoc];unfold ptrs;rw [List.map_append];exact HO4.out,HB4.out⟩
      case measure=>simp [intOf];omega
  · obtain rfl:k=cn:=by omega
    have htk:d.changes.take k=d.changes:=List.take_of_length_le (by rw [← HCN.out];exact Nat.le_refl _)
    rw [htk] at HO HN
    have HRE:=hid (show (is++madeOf d.changes).mergeSort (fun x y=>decide (x≤y))=d.reach by
     have hp1:(is++madeOf d.changes).Perm (d.safe.map (·.2)++d.changes.filterMap (·.made)):=HPERM.out.append_right _
     exact msort_perm hp1)
    have hdr:=HD.out.below HB.out
    have hnum:∀ i,i < d.fs.length→wr.cell? ⟨L.fa i,0,none⟩=some (.int .i64 ((i:Int)+1)):=fun i hi=>by
     obtain ⟨f,hf⟩:∃ f,d.fs[i]?=some f:=⟨_,List.getElem?_eq_getElem hi⟩
     obtain ⟨_,_,_,hfa⟩:=hdr.fs i f hf
     exact hfa.cells.1
    have hB:∀ i,i < d.fs.length→L.fa i < w.heap.size:=fun i hi=>by
     obtain ⟨f,hf⟩:∃ f,d.fs[i]?=some f:=⟨_,List.getElem?_eq_getElem hi⟩
     obtain ⟨_,_,_,hfa⟩:=HD.out.fs i f hf
     exact hfa.lt
    have hids:∀ i ∈ is++madeOf d.changes,i < d.fs.length:=fun i hi=>by
     rcases List.mem_append.1 hi with h1 | h1
     · exact HLT.out i h1
     · unfold madeOf at h1
       obtain ⟨c,h2,h3⟩:=List.mem_filterMap.1 h1
       exact HP.out.refs.ch c h2 i h3
    have HS:=hid (sort_ids wr L.fa d.fs.length w.heap.size hnum (.slice va n vc) (is++madeOf d.changes) hids (by rw [← HN.out];omega) (by rw [← HN.out];exact HO.out) hB)
    have HBK:=hid (show ∀ k ∈ (Value.slice va n vc).ownBlock,w.heap.size≤k from fun k hk=>(HO.out.lt k hk).1)
    have HRL:=hid (show n=d.reach.length by rw [← HRE.out,List.length_mergeSort];exact HN.out)
    clear hids hdr hnum hB htk HD HP HLT HPERM
    go_wp2_with (go_at_call 105;refine HS.out.mono ?_;rintro e w4 ⟨rfl,ho4,hg4⟩
                 have HO4:=hid ho4
                 have HB4:=hid (HB.out.grown hg4 HB.out.size HBK.out)
                 clear ho4 hg4)
    go_ret
    refine ⟨⟨va,vc,by rw [← HRL.out];rfl,?_⟩,HB4.out⟩
    have h1:=HO4.out
    rw [HRE.out,← HN.out,HRL.out] at h1
    exact h1
end
section
open Go.Maps Go.WideMaps
theorem units_any (w:World) (a:Option Addr) (n c:Nat) (x:Int):Calls Tryz.prog 89 #[.agg #[.slice a n c,.int .i64 x]] w fun e w'=>e=.returned (.int .i64 (max (n:Int) 1))∧Below w.heap.size w w':=by
 have hb1:Below w.heap.size w (w.alloc (.cells #[.slice a n c,.int .i64 x] 172)):=bel1 _ _
 have HB:=hid hb1
 have c0:(w.alloc (.cells #[.slice a n c,.int .i64 x] 172)).cell? ⟨w.heap.size,0,none⟩=some (.slice a n c):=by rw [cell_of_row _ _ _ _ _ _ (heap_alloc_new w _)];rfl
 clear hb1
 go_enter Tryz.func89,Tryz.ntmps89
 go_wp2_with fail
 go_ret
 exact ⟨rfl,HB.out⟩
def okR:List Run→Nat→Prop
 | [],n=>n≤2147483647
 | u :: r,n=>n≤2147483647∧(u.laid=[]→u.cut≤n)∧okR r ((if u.laid=[] then u.cut else n)+u.laid.length)
theorem okR.le {l:List Run} {n:Nat} (h:okR l n):n≤2147483647:=by
 cases l with
 | nil=>exact h
 | cons u r=>exact h.1
theorem run_at {w:World} {ρ:Nat→Nat} {r:Nat} {v:Value} {l:List Run} (h:RunsAt w ρ r v l) {k:Nat} {u:Run} (hk:l[k]?=some u) :
 ∃ g cc a c,v=.slice (some ⟨g,0,none⟩) l.length cc∧w.cell? ⟨g,k * 2,none⟩=some (.slice a u.laid.length c)∧w.cell? ⟨g,k * 2+1,none⟩=some (.int .i64 u.cut)∧R8 w a u.laid.length c u.laid:=by
 obtain ⟨rs,hrl,ho,hall⟩:=h
 have hkl:=(List.getElem?_eq_some_iff.1 hk).1
 obtain ⟨a0,cc,hv,hg⟩:=owns_shape ho.1
 obtain ⟨g,rfl,-,-⟩:=hg (by omega)
 obtain ⟨p,hp⟩:∃ p,rs[k]?=some p:=⟨_,List.getElem?_eq_getElem (by omega)⟩
 have hh:=ho.1
 rw [hv] at hh
 obtain ⟨hc,a,c,hpv,hr,-⟩:=hall k p u hp hk
 refine ⟨g,cc,a,c,hv,?_,?_,hr⟩
 · have:=own_at (enc:=runV) (s:=2) (fun _=>rfl) hh hp 0 _ rfl
   rw [hpv] at this;exact this
 · have:=own_at (enc:=runV) (s:=2) (fun _=>rfl) hh hp 1 _ rfl
   rw [hc] at this;exact this
theorem own_takeB {w:World} {B e s n m:Nat} {a:Option Addr} {c:Nat} {xs:List Value} (h:w.ownsRow B e s (.slice a n c) n xs) (hm:m≤n):w.ownsRow B e s (.slice a m c) m (xs.take (m * s)):=by
 have h1:=own_take (own_base h) hm
 refine ⟨h1.1,?_⟩
 rcases h1.2 with h2 | ⟨g,cap,cur,hv,hb,hg,hn,hc,hs,ht⟩
 · exact .inl h2
 · rcases h.2 with ⟨h3,-⟩ | ⟨g',cap',cur',hv',hb',-⟩
   · injection h3 with h4 h5 h6;injection hv with h7;rw [h4] at h7;cases h7
   · refine .inr ⟨g,cap,cur,hv,?_,hg,hn,hc,hs,ht⟩
     injection hv with h4;injection hv' with h5;rw [h4] at h5;injection h5 with h5;injection h5 with h5;rw [h5];exact hb'
end
section
open Go.Maps Go.WideMaps
theorem sl30:Sl Tryz.prog 41 3 (.int .i64 0) 1 8:=⟨Tryz.underlying41,by kernel_rfl,rfl,by decide⟩
theorem new_int (w:World) (v:Value) {k:Nat} (hk:k=w.heap.size) (j:Nat) (u:Value) (h:[v][j]?=some u):(w.alloc (.cells #[v] 3)).cell? ((⟨k,0,none⟩:Addr).add j)=some u:=by
 subst hk
 rw [Addr.add_lit,cell_of_row _ _ _ _ _ _ (heap_alloc_new w _),Nat.zero_add]
 simpa using h
def nV (k:Nat):Value:=.int .i64 (k:Int)
abbrev boxCut (a:Option Addr) (n c:Nat) (m:Int):Obj:=.cells #[.slice a n c,.int .i64 m] 43
theorem ptrs_at {w:World} {B e n c:Nat} {a:Option Addr} {fa:Nat→Nat} {is:List Nat} (h:w.ownsRow B e 1 (.slice a n c) n (ptrs fa is)) {j i:Nat} (hj:is[j]?=some i):∃ g,a=some ⟨g,0,none⟩∧B≤g∧g < w.heap.size∧w.cell? ⟨g,j,none⟩=some (.pointer (some ⟨fa i,0,none⟩)):=by
 have hl:=h.1
 have hjl:=(List.getElem?_eq_some_iff.1 hj).1
 have hn:n=is.length:=by unfold ptrs at hl;rw [List.length_map] at hl;omega
 have hlt:0 < n:=by omega
 obtain ⟨a0,c0,hv,hg⟩:=owns_shape h
 obtain ⟨g,h1,-,-⟩:=hg hlt
 injection hv with h2 _ h3
 subst h2 h3 h1
 have h4:=h.lt g rfl
 have hp:(ptrs fa is)=is.flatMap fun i=>[.pointer (some ⟨fa i,0,none⟩)]:=by unfold ptrs;exact List.map_eq_flatMap
 rw [hp] at h
 have:=own_at (enc:=fun i=>[.pointer (some ⟨fa i,0,none⟩)]) (s:=1) (fun _=>rfl) h hj 0 _ rfl
 exact ⟨g,rfl,h4.1,h4.2,by simpa using this⟩
theorem grow_step {wR wo wr wx w4:World} {b3:Nat} {ob:Option Nat} (hg:wR.grownBy wo (some b3)) (hbi:Below wo.heap.size wo wr) (hx:Below wr.heap.size wr wx) (h4:wx.grownBy w4 ob) (hob:∀ k,ob=some k→wR.heap.size≤k) (o:Nat) (v:Value):wR.grownBy (w4.setCell ⟨b3,o,none⟩ v) (some b3) :=
 ⟨h4.os.trans (hx.os.trans (hbi.os.trans hg.os)),h4.tape.trans (hx.tape.trans (hbi.tape.trans hg.tape)),h4.output.trans (hx.output.trans (hbi.output.trans hg.output)),by have:=hg.size;have:=hbi.size;have:=hx.size;have:=h4.size;simp;omega,fun k hk hn=>by
   have:=hg.size;have:=hbi.size;have:=hx.size
   refine (heap_setCell_other w4 ⟨b3,o,none⟩ k v (fun e=>hn (by rw [e]))).trans ?_
   exact (h4.block k (by omega) (fun e=>by have:=hob k e.symm;omega)).trans ((hx.block k (by omega)).trans ((hbi.block k (by omega)).trans (hg.block k hk hn)))⟩
theorem units_take {l:List Run} {k:Nat} {u:Run} (h:l[k]?=some u):((l.take (k+1)).map Run.units).sum=((l.take k).map Run.units).sum+u.units:=by
 rw [List.take_add_one,h,List.map_append,List.sum_append];simp
theorem units_le (l:List Run) (k:Nat):((l.take k).map Run.units).sum≤(l.map Run.units).sum:=by
 conv=>rhs;rw [← List.take_append_drop k l,List.map_append,List.sum_append]
 exact Nat.le_add_right _ _
theorem reach_lt {d:Dm} (hp:Pre d):∀ i ∈ d.reach,i < d.fs.length:=fun i hi=>by
 have h1:=(List.mergeSort_perm _ _).mem_iff.1 hi
 rcases List.mem_append.1 h1 with h1 | h1
 · obtain ⟨p,h2,rfl⟩:=List.mem_map.1 h1
   exact hp.refs.sf p.1 p.2 (lk_of_mem hp.ns h2)
 · obtain ⟨c,h2,h3⟩:=List.mem_filterMap.1 h1
   exact hp.refs.ch c h2 i h3
theorem reach_len {d:Dm} (hp:Pre d):d.reach.length < 1099511631873:=by
 have h1:d.reach.length=d.safe.length+(d.changes.filterMap (·.made)).length:=by
  unfold Dm.reach;rw [List.length_mergeSort,List.length_append,List.length_map]
 have h2:=List.length_filterMap_le (·.made) d.changes
 have h3:=hp.chl
 have h4:=hp.fewS
 rw [h1];omega
theorem loose_any (w:World) (L:Lay) (gd:Nat) (d:Dm) (h:DAt w L gd d) (hp:Pre d) (hun:∀ i,i < d.fs.length→(d.file i).units≤9223372036854775806) :
 Calls Tryz.prog 35 #[.pointer (some ⟨gd,0,none⟩)] w fun e w'=>Below w.heap.size w w'∧∃ a c,e=.returned (.agg #[.slice a d.reach.length c,.int .i64 d.changes.length])∧w'.ownsRow w.heap.size 3 1 (.slice a d.reach.length c) d.reach.length (d.loose.2.map nV):=by
 obtain ⟨cv,cc,hch,-⟩:=owns_shape h.ch.1
 obtain ⟨cn,hcn⟩:∃ cn,cn=d.changes.length:=⟨_,rfl⟩
 have c8:=h.cells.2.2.2.2.2.2.2.2.1
 rw [hch,← hcn] at c8
 have hgl:=h.lt
 rw [← hcn]
 obtain ⟨w1,hw1⟩:∃ w1,w1=w.alloc (boxCut none 0 0 0):=⟨_,rfl⟩
 obtain ⟨w2,hw2⟩:∃ w2,w2=w1.alloc (boxCut none 0 0 cn):=⟨_,rfl⟩
 have hb1:Below w.heap.size w w1:=by rw [hw1];exact bel1 _ _
 have hb2:Below w1.heap.size w1 w2:=by rw [hw2];exact bel1 _ _
 have g1:w1.heap[w.heap.size]?=some (boxCut none 0 0 0):=by rw [hw1];exact heap_alloc_new w _
 have g2:w2.heap[w1.heap.size]?=some (boxCut none 0 0 cn):=by rw [hw2];exact heap_alloc_new w1 _
 have hb12:=hb1.trans (hb2.mono hb1.size)
 have HB2:=hid hb12
 have HR:=hid (reach_any w2 L gd d (h.below hb12) hp)
 have HG2:=hid g2
 have HG1:=hid ((hb2.block w.heap.size (by rw [hw1];simp)).trans g1)
 have HD:=hid h
 have HP:=hid hp
 have HUN:=hid hun
 have HCN:=hid hcn
 clear h hp hun hcn hch hb1 hb2 hb12 g1 g2
 obtain ⟨rn,hrn⟩:∃ rn,rn=d.reach.length:=⟨_,rfl⟩
 have hrn0:rn < 1099511631873:=by rw [hrn];exact reach_len HP.out
 rw [← hrn]
 go_enter Tryz.func35,Tryz.ntmps35
 go_upto_region 2 with (fail)
 rw [← hw1,← hw2]
 obtain ⟨b3,hb3⟩:∃ b3,b3=w.heap.size+1:=⟨_,rfl⟩
 have hb31:b3=w1.heap.size:=by rw [hb3,hw1];simp
 have hz2:w2.heap.size=b3+1:=by rw [hw2,hb31];simp
 rw [← hb31] at HG2
 rw [← hb3]
 have HB3:=hid hb3
 have hb3z:b3 < w2.heap.size:=by omega
 have hb3w:w.heap.size < b3:=by omega
 clear hw1 hw2 hb31 hb3 hz2
 rw [← hrn] at HR
 have HRN:=hid hrn
 clear hrn c8
 go_wp2_with (go_at_call 50;refine HR.out.mono ?_;rintro e wR ⟨⟨ra,rc,rfl,hrow⟩,hbR⟩
              have HROW:=hid hrow
              have HBR:=hid hbR
              have hbx:b3 < wR.heap.size:=Nat.lt_of_lt_of_le hb3z hbR.size
              have hgx:=(hbR.block b3 hb3z).trans HG2.out
              have HGX:=hid hgx
              clear hrow hbR hgx)
 go_loopw [18] (fun iv wr=>∃ (k:Nat) (va:Option Addr) (vc:Nat),k≤rn∧iv=.int .i64 k∧wR.grownBy wr (some b3)∧wr.heap[b3]?=some (boxCut va k vc cn)∧wr.ownsRow wR.heap.size 3 1 (.slice va k vc) k ((d.loose.2.take k).map nV)) (fun iv _=>rn - (intOf iv).toNat)
 case atStart=>exact ⟨0,none,0,Nat.zero_le _,rfl,World.grownBy.refl _ _,HGX.out,by simp,.inl ⟨rfl,rfl⟩⟩
 case round =>
  rename World=>wo
  obtain ⟨k,va,vc,hk,rfl,hg,hx,ho⟩:=hrel
  have HG:=hid hg
  have HX:=hid hx
  have HO:=hid ho
  clear hg hx ho
  by_cases hkl:k < rn
  · obtain ⟨i,hi⟩:∃ i,d.reach[k]?=some i:=⟨_,List.getElem?_eq_getElem (by rw [← HRN.out];exact hkl)⟩
    have hil:=reach_lt HP.out i (List.mem_of_getElem? hi)
    obtain ⟨gq,rfl,hq0,hq1,hq⟩:=ptrs_at HROW.out hi
    have hq':wo.cell? ⟨gq,k,none⟩=some (.pointer (some ⟨L.fa i,0,none⟩)):=(World.cell?_of_block (a:=⟨gq,k,none⟩) (HG.out.block gq hq1 (by simp;omega))).trans hq
    obtain ⟨vn,vs,vl,hf⟩:=HD.out.at hil
    have hbr:Below w.heap.size w wo:=HB2.out.trans ((HBR.out.mono HB2.out.size).trans ⟨HG.out.os,HG.out.tape,HG.out.output,HG.out.size,fun j hj=>HG.out.block j (by have:=HB2.out.size;have:=HBR.out.size;omega) (by simp;omega)⟩)
    have hfr:FAt wo L.ρ i (L.fa i) (d.file i) vn vs vl:=hf.keep (fun k hk=>hbr.block k (HD.out.dom k (by omega))) (fun _ _=>rfl)
    obtain ⟨la,lc,hvl,-⟩:=owns_shape (show wo.ownsRow 0 172 2 vl (d.file i).loose.length _ from hfr.loose.choose_spec.2.1.1)
    obtain ⟨ln,hln⟩:∃ ln,ln=(d.file i).loose.length:=⟨_,rfl⟩
    rw [← hln] at hvl
    subst hvl
    have n3:=hfr.cells.2.2.2.1
    have hgf:L.fa i < wo.heap.size:=(Array.getElem?_eq_some_iff.1 hfr.box).1
    obtain ⟨g,hg⟩:∃ g,g=L.fa i:=⟨_,rfl⟩
    rw [← hg] at n3 hq' hgf
    have hunl:=HUN.out i hil
    have HF:=hid hfr
    have HBW:=hid hbr
    have HLN:=hid hln
    have HGE:=hid hg
    have HI:=hid hi
    have HUL:=hid hunl
    have hll:ln < 1099511627776:=by rw [hln];exact (HP.out.file i).2.2
    clear hf hfr hln hg hbr hi hq hunl
    go_wp2_with fail
    go_loopw [6,27] (fun nv jv wr=>∃ (j s:Nat),j≤ln∧jv=.int .i64 j∧nv=.int .i64 s∧s=(((d.file i).loose.take j).map Run.units).sum∧Below wo.heap.size wo wr) (fun _ jv _=>ln - (intOf jv).toNat)
    case atStart=>exact ⟨0,0,Nat.zero_le _,rfl,rfl,by simp,Below.refl _ _⟩
    case round =>
     obtain ⟨j,s,hj,rfl,rfl,hs,hbi⟩:=hrel
     have HS:=hid hs
     have HBI:=hid hbi
     clear hs hbi
     by_cases hjl:j < ln
     · obtain ⟨u,hu⟩:∃ u,(d.file i).loose[j]?=some u:=⟨_,List.getElem?_eq_getElem (by rw [← HLN.out];exact hjl)⟩
       have hfi:FAt wr L.ρ i (L.fa i) (d.file i) vn vs (.slice la ln lc):=HF.out.keep (fun k hk=>HBI.out.block k (Nat.lt_of_lt_of_le (HD.out.dom k (by omega)) HBW.out.size)) (fun _ _=>rfl)
       obtain ⟨gr,cc',ua,uc,hv,d0,d1,hrr⟩:=run_at hfi.loose hu
       rw [← HLN.out] at hv
       obtain rfl:la=some ⟨gr,0,none⟩:=by injection hv
       have hle:u.laid.length≤281474976710656:=hrr.2.2.1
       obtain ⟨rm,hrm⟩:∃ rm,rm=u.laid.length:=⟨_,rfl⟩
       rw [← hrm] at d0 hle
       have hst:=units_take hu
       have hun1:u.units=max rm 1:=by unfold Run.units;rw [hrm]
       rw [hun1,← HS.out] at hst
       have hsu:s+max rm 1≤9223372036854775806:=by
        have h1:=units_le (d.file i).loose (j+1)
        have h2:=HUL.out
        unfold Fl.units at h2
        omega
       have HST:=hid hst
       obtain ⟨wb,hwb⟩:∃ wb,wb=wr.alloc (.cells #[.slice ua rm uc,.int .i64 u.cut] 172):=⟨_,rfl⟩
       have hbb:Below wr.heap.size wr wb:=by rw [hwb];exact bel1 _ _
       have gb:wb.heap[wr.heap.size]?=some (.cells #[.slice ua rm uc,.int .i64 u.cut] 172):=by rw [hwb];exact heap_alloc_new wr _
       have b0:wb.cell? ⟨wr.heap.size,0,none⟩=some (.slice ua rm uc):=by rw [cell_of_row _ _ _ _ _ _ gb];rfl
       have b1:wb.cell? ⟨wr.heap.size,1,none⟩=some (.int .i64 u.cut):=by rw [cell_of_row _ _ _ _ _ _ gb];rfl
       have HBB:=hid (HBI.out.trans (hbb.mono HBI.out.size))
       clear hv hfi hrr hu hrm hst hun1 hbb gb
       go_upto_region 9 with (fail)
       rw [← hwb]
       clear hwb d0 d1
       go_wp2_with (go_at_call 89;refine (units_any _ _ _ _ _).mono ?_;rintro e w5 ⟨rfl,hb5⟩
                    have HB5:=hid (HBB.out.trans (hb5.mono HBB.out.size))
                    clear hb5)
       go_roundw
       case rel=>exact ⟨j+1,s+max rm 1,by omega,by push_cast;rfl,congrArg (Value.int .i64) (by omega),HST.out.symm,HB5.out⟩
       case measure=>simp [intOf];omega
     · obtain rfl:j=ln:=by omega
       have HS9:=hid (show s=(d.file i).units by unfold Fl.units;rw [HS.out,List.take_of_length_le (by rw [← HLN.out];exact Nat.le_refl _)])
       have hxi:=(HBI.out.block b3 (Array.getElem?_eq_some_iff.1 HX.out).1).trans HX.out
       have x0:=cell_of_row _ _ 0 _ _ _ hxi
       simp only [List.getElem?_toArray,List.getElem?_cons_zero,List.getElem?_cons_succ] at x0
       have hoi:=own_below HO.out HBI.out
       obtain ⟨wx,hwx⟩:∃ wx,wx=wr.alloc (.cells #[.int .i64 s] 3):=⟨_,rfl⟩
       have hbx1:Below wr.heap.size wr wx:=by rw [hwx];exact bel1 _ _
       have HNX:=hid (fun jj u h=>by have h9:=new_int wr (.int .i64 s) (k:=wr.heap.size) rfl jj u h;rw [← hwx] at h9;exact h9)
       have HOX:=hid (own_below hoi hbx1)
       have HXX:=hid ((hbx1.block b3 (Array.getElem?_eq_some_iff.1 hxi).1).trans hxi)
       have hbz:b3 < wx.heap.size:=(Array.getElem?_eq_some_iff.1 HXX.out).1
       have hRx:wR.heap.size≤wx.heap.size:=by have:=HG.out.size;have:=HBI.out.size;have:=hbx1.size;omega
       have HBX1:=hid hbx1
       have HQ1:=hid (show (k+1) * 8≤140737488355328 by omega)
       have HQ2:=hid (show k+1≤maxLen by unfold maxLen;omega)
       have HOB:=hid (fun kk e=>(HOX.out.lt kk e).1)
       clear hxi hoi hbx1
       go_wp2_with (first
        | (at_builtin;rw [← hwx];refine L_appendN rfl (.tmp 37) (.tmp 39) 41 (by rfl) sl30 wR.heap.size (.slice va k vc) k _ (by rfl) HOX.out ⟨wr.heap.size,0,none⟩ 1 1 [.int .i64 s] (by rfl) (by rfl) HNX.out (by simp [Value.oneCell']) HQ1.out HQ2.out hRx (fun a4 c4 w4 ho4 hg4 hat4=>?_)
           have hx4:=(hg4.block b3 hbz (fun e=>by have:=HOB.out b3 e.symm;omega)).trans HXX.out
           have x4:=cell_of_row _ _ 0 _ _ _ hx4
           have f4:=frozen_of_row w4 b3 0 _ _ hx4
           simp only [List.getElem?_toArray,List.getElem?_cons_zero,List.getElem?_cons_succ] at x4
           have HX4:=hid hx4
           have HO4:=hid ho4
           have HG4:=hid hg4
           clear hx4 ho4 hg4 hat4))
       go_roundw
       case rel =>
        refine ⟨k+1,a4,c4,by omega,by push_cast;rfl,grow_step HG.out HBI.out HBX1.out HG4.out HOB.out 0 _,heap_setCell_same _ b3 0 _ _ _ HX4.out,?_⟩
        have h9:=own_same (w':=w4.setCell ⟨b3,0,none⟩ (.slice a4 (k+1) c4)) HO4.out (fun kk e=>heap_setCell_other w4 ⟨b3,0,none⟩ kk _ (fun e'=>by have:=(HO4.out.lt kk e).1;simp at e';omega))
        have h8:d.loose.2[k]?=some s:=by unfold Dm.loose;rw [List.getElem?_map,HI.out,HS9.out];rfl
        rw [List.take_add_one,h8,List.map_append]
        exact h9
       case measure=>simp [intOf];omega
  · obtain rfl:k=rn:=by omega
    have hbr:Below w.heap.size w wo:=HB2.out.trans ((HBR.out.mono HB2.out.size).trans ⟨HG.out.os,HG.out.tape,HG.out.output,HG.out.size,fun j hj=>HG.out.block j (by have:=HB2.out.size;have:=HBR.out.size;omega) (by simp;omega)⟩)
    have hg1:=(HG.out.block w.heap.size (by omega) (by simp;omega)).trans ((HBR.out.block w.heap.size (by omega)).trans HG1.out)
    have x0:=cell_of_row _ _ 0 _ _ _ HX.out
    have x1:=cell_of_row _ _ 1 _ _ _ HX.out
    have y0:=cell_of_row _ _ 0 _ _ _ hg1
    have y1:=cell_of_row _ _ 1 _ _ _ hg1
    have f0:=frozen_of_row wo w.heap.size 0 _ _ hg1
    have f1:=frozen_of_row wo w.heap.size 1 _ _ hg1
    simp only [List.getElem?_toArray,List.getElem?_cons_zero,List.getElem?_cons_succ] at x0 x1 y0 y1
    have HBW:=hid hbr
    have HY:=hid hg1
    clear hbr hg1
    go_wp2_with fail
    (try simp only [Exit.inBlock,Exit.then])
    have g9:((wo.setCell ⟨w.heap.size,0,none⟩ (.slice va k vc)).setCell ⟨w.heap.size,1,none⟩ (.int .i64 cn)).heap[w.heap.size]?=some (boxCut va k vc cn):=heap_setCell_same _ w.heap.size 1 _ _ _ (heap_setCell_same wo w.heap.size 0 _ _ _ HY.out)
    refine bodyPost_ret (results_cell_row rfl _ _ w.heap.size 43 #[.slice va k vc,.int .i64 cn] (0,0) _ rfl g9 Tryz.underlying43 rfl (by kernel_rfl)) rfl ?_
    have h9:=own_same (w':=(wo.setCell ⟨w.heap.size,0,none⟩ (.slice va k vc)).setCell ⟨w.heap.size,1,none⟩ (.int .i64 cn)) HO.out (fun kk e=>by
     have h1:=(HO.out.lt kk e).1
     exact (heap_setCell_other _ ⟨w.heap.size,1,none⟩ kk _ (fun e'=>by simp at e';omega)).trans (heap_setCell_other wo ⟨w.heap.size,0,none⟩ kk _ (fun e'=>by simp at e';omega)))
    rw [List.take_of_length_le (by unfold Dm.loose;rw [List.length_map,← HRN.out];exact Nat.le_refl _)] at h9
    exact ⟨⟨HBW.out.os,HBW.out.tape,HBW.out.output,by simp;exact HBW.out.size,fun kk hk=>((heap_setCell_other _ ⟨w.heap.size,1,none⟩ kk _ (by simp;omega)).trans (heap_setCell_other wo ⟨w.heap.size,0,none⟩ kk _ (by simp;omega))).trans (HBW.out.block kk hk)⟩,va,vc,rfl,owns_mono h9 (by have:=HB2.out.size;have:=HBR.out.size;omega)⟩
end
section
open Go.Maps Go.WideMaps
def NsAt (w:World) (ρ:Nat→Nat) (a:Option Addr) (n:Nat) (ns:List Int):Prop:=ns.length=n∧∀ j x,ns[j]?=some x→∃ b off,a=some ⟨b,off,none⟩∧w.cell? ⟨b,off+j,none⟩=some (.int .i64 x)∧ρ b=0∧-9223372036854775808≤x∧x≤9223372036854775807
theorem NsAt.upd {w w':World} {ρ ρ':Nat→Nat} {a:Option Addr} {n:Nat} {ns:List Int} (h:NsAt w ρ a n ns) (hu:Upd ρ ρ' w w'):NsAt w' ρ' a n ns:=⟨h.1,fun j x hx=>by
 obtain ⟨b,off,e,hc,hr,hx0⟩:=h.2 j x hx
 have hb:=World.block_lt_of_cell? w _ hc
 exact ⟨b,off,e,(World.cell?_of_block (a:=⟨b,off+j,none⟩) (hu.block b hb hr)).trans hc,hu.ext.old b hb hr,hx0⟩⟩
def Fine (fs:List Fl):Prop:=∀ f ∈ fs,okR f.loose f.safe.length∧f.loose.length < 1099511627776
theorem playN_neg (l:List Run) (n:Int) (b:List UInt8) (hn:n≤0):playN l n b=b:=by
 cases l with
 | nil=>rfl
 | cons u r=>rw [playN,if_pos hn]
theorem Fine.set {fs:List Fl} (h:Fine fs) (i:Nat) {f:Fl} (hf:okR f.loose f.safe.length∧f.loose.length < 1099511627776):Fine (fs.set i f):=fun g hg=>by
 rcases List.mem_or_eq_of_mem_set hg with h1 | h1
 · exact h g h1
 · rw [h1];exact hf
theorem okR_nil:okR [] 0:=Nat.zero_le _
theorem Fine.at {fs:List Fl} (h:Fine fs) (i:Nat):okR (fs[i]?.getD ⟨[],[],[]⟩).loose (fs[i]?.getD ⟨[],[],[]⟩).safe.length∧(fs[i]?.getD ⟨[],[],[]⟩).loose.length < 1099511627776:=by
 cases e:fs[i]? with
 | none=>exact ⟨okR_nil,by simp⟩
 | some f=>exact h f (List.mem_of_getElem? e)
theorem DAt.safeTo {w w':World} {L:Lay} {gd:Nat} {d:Dm} {m:List (Nm × Nat)} (h:DAt w L gd d) (hg:w.grownBy w' (some L.sb)) (hn:NAt w' L.ρ 3 L.fa L.sb m):DAt w' L gd { d with safe:=m }:=by
 have hs:=h.sf.lt.2
 have hk:∀ k,L.ρ k ≠ 0→L.ρ k ≠ 3→w'.heap[k]?=w.heap[k]?:=fun k h0 h1=>hg.block k (h.dom k h0) (fun e=>by have:=Option.some.inj e;rw [this] at h1;exact h1 hs)
 refine ⟨(hk gd (by rw [h.lg];omega) (by rw [h.lg];omega)).trans h.g,h.lg,fun k e=>Nat.lt_of_lt_of_le (h.dom k e) hg.size,h.nm.keep (fun k e=>hk k (by omega) (by omega)) (fun _ e=>e) (fun _ _ _=>rfl),hn,h.cl.keep (fun k e=>hk k (by omega) (by omega)) (fun _ e=>e),h.ch.keep (fun k e=>hk k (by omega) (by omega)) (fun _ e=>e),h.pl.keep (fun k e=>hk k (by omega) (by omega)) (fun _ e=>e),fun i f hf=>?_⟩
 obtain ⟨vn,vs,vl,hx⟩:=h.fs i f hf
 exact ⟨vn,vs,vl,hx.keep (fun k e=>hk k (by omega) (by omega)) (fun _ _=>rfl)⟩
end
section
open Go.Maps Go.WideMaps
theorem DAt.usedTo {w:World} {L:Lay} {gd:Nat} {d:Dm} (h:DAt w L gd d) (u:Int):DAt (w.setCell ⟨gd,2,none⟩ (.int .i64 u)) L gd { d with used:=u } :=
 h.own1 (Only.setCell w gd 2 _ h.lg) (heap_setCell_same w gd 2 _ _ _ h.g) rfl rfl rfl rfl rfl rfl
end
section
open Go Go.RowKit Go.Shelf Go.Lib Go.Sort
open Go.Maps Go.WideMaps
end
end Go.Proofs.YtgkehahklccacaaGreatDoor
