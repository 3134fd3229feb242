import Derived.Test.YtgkehahklccacaaGreatDoorZ10
import Derived.IntWalk
import Derived.Test.YtgkehahklccacaaGreatDoorZ26
namespace Go.Proofs.YtgkehahklccacaaGreatDoor
open Go Go.RowKit
open Go.Lib (hid)
set_option maxRecDepth 100000
set_option maxHeartbeats 1000000
set_option linter.unusedVariables false
set_option linter.unusedSimpArgs false
section
open Go.Maps Go.WideMaps Go.ChangeMaps
theorem ret_i {k:IntKind} {a b:Int} (h:a=b):Ending.returned (.int k a)=.returned (.int k b):=by rw [h]
def wiP (x lo hi:Int):Int:=lo+x % (hi - lo+1)
theorem wiP_le (x lo hi:Int) (h:lo≤hi):lo≤wiP x lo hi∧wiP x lo hi≤hi:=by
 have h1:=Int.emod_nonneg x (show hi - lo+1 ≠ 0 by omega)
 have h2:=Int.emod_lt_of_pos x (show 0 < hi - lo+1 by omega)
 unfold wiP;omega
theorem within_any (w:World) (x lo hi:Int) (hx0:-9223372036854775808≤x) (hx1:x≤9223372036854775807) (h0:0≤lo) (h1:lo≤hi) (h2:hi≤1099511627776) :
 Calls Tryz.prog 8 #[.int .i64 x,.int .i64 lo,.int .i64 hi] w fun e w'=>e=.returned (.int .i64 (wiP x lo hi))∧w'=w:=by
 obtain ⟨m,hm⟩:∃ m,m=hi - lo+1:=⟨_,rfl⟩
 have ht1:- m < x.tmod m:=by
  have:=Int.lt_tmod_of_pos x (show 0 < m by omega);omega
 have ht2:x.tmod m < m:=Int.tmod_lt_of_pos x (by omega)
 have he:x % m=if x.tmod m < 0 then x.tmod m+m else x.tmod m:=by
  by_cases hs:0≤x
  · rw [Int.tmod_eq_emod_of_nonneg hs,if_neg (by have:=Int.emod_nonneg x (show m ≠ 0 by omega);omega)]
  · have e1:=Int.tmod_eq_emod (a:=x) (b:=m)
    have e2:=Int.emod_nonneg x (show m ≠ 0 by omega)
    have e3:=Int.emod_lt_of_pos x (show 0 < m by omega)
    by_cases hd:m ∣ x
    · rw [if_pos (Or.inr hd)] at e1
      have:=Int.emod_eq_zero_of_dvd hd
      rw [if_neg (by omega)];omega
    · rw [if_neg (by rintro (h | h) <;> contradiction)] at e1
      have e4:x % m ≠ 0:=fun e=>hd (Int.dvd_of_emod_eq_zero e)
      rw [if_pos (by omega)];omega
 have hw:wiP x lo hi=lo+x % m:=by unfold wiP;rw [hm]
 have hne:(m == 0)=false:=by simp;omega
 have hmm:hi - lo+1=m:=hm.symm
 rw [hw,he]
 generalize hT:x.tmod m=t at *
 have HT:=hid hT
 have HM:=hid hm
 clear hw he hm
 go_enter Tryz.func8,Tryz.ntmps8
 by_cases ht:t < 0
 · rw [if_pos ht]
   go_wp2
   go_ret
   exact ⟨ret_i (by have:=HM.out;omega),rfl⟩
 · rw [if_neg ht]
   go_wp2
   go_ret
   exact ⟨rfl,rfl⟩
theorem byte_of (x:Int) (h0:0≤x) (h1:x < 256):∃ c:UInt8,Value.int .u8 x=b8 c:=by
 refine ⟨UInt8.ofNat x.toNat,?_⟩
 unfold b8
 rw [show (UInt8.ofNat x.toNat).toNat=x.toNat by simp;omega]
 congr 1
 omega
theorem dg_store {w:World} {g:Nat} {l:Dg} (h:w.heap[g]?=some (.cells (dgA l.1) 38 (0,0))) (p:Nat) (v:Value) (hv:∃ c:UInt8,v=b8 c):∃ l':Dg,(w.setCell ⟨g,p,none⟩ v).heap[g]?=some (.cells (dgA l'.1) 38 (0,0)):=by
 obtain ⟨c,rfl⟩:=hv
 refine ⟨⟨l.1.set p c,by rw [List.length_set];exact l.2⟩,?_⟩
 rw [heap_setCell_same w g p _ _ (b8 c) h]
 congr 2
 unfold dgA
 simp [List.map_set]
theorem dg_cell {w:World} {g:Nat} {l:Dg} (h:w.heap[g]?=some (.cells (dgA l.1) 38 (0,0))) (p:Nat) (hp:p < 32):∃ v,w.cell? ⟨g,p,none⟩=some v :=
 ⟨_,(cell_of_row w g p _ _ _ h).trans (Array.getElem?_eq_getElem (by rw [dgA_size,l.2];exact hp))⟩
def zDg:Dg:=⟨List.replicate 32 0,rfl⟩
def DgRet (w:World) (e:Ending) (w':World):Prop:=∃ d:Dg,e=.returned (.agg (dgA d.1))∧Below w.heap.size w w'
set_option maxHeartbeats 4000000
theorem leafof_any (w:World) (x y:Int) :
 Calls Tryz.prog 36 #[.int .i64 x,.int .i64 y] w (DgRet w):=by
 go_enter Tryz.func36,Tryz.ntmps36
 go_upto_region 2 with (fail)
 obtain ⟨o1,ho1⟩:∃ o1:Obj,o1=.cells #[.int .u8 0,.int .u8 0,.int .u8 0,.int .u8 0,.int .u8 0,.int .u8 0,.int .u8 0,.int .u8 0,.int .u8 0,.int .u8 0,.int .u8 0,.int .u8 0,.int .u8 0,.int .u8 0,.int .u8 0,.int .u8 0,.int .u8 0,.int .u8 0,.int .u8 0,.int .u8 0,.int .u8 0,.int .u8 0,.int .u8 0,.int .u8 0,.int .u8 0,.int .u8 0,.int .u8 0,.int .u8 0,.int .u8 0,.int .u8 0,.int .u8 0,.int .u8 0] 38:=⟨_,rfl⟩
 rw [← ho1]
 obtain ⟨w2,hw2⟩:∃ w2,w2=(w.alloc o1).alloc o1:=⟨_,rfl⟩
 obtain ⟨r0,hr0⟩:∃ r0,r0=w.heap.size:=⟨_,rfl⟩
 obtain ⟨d5,hd5⟩:∃ d5,d5=r0+1:=⟨_,rfl⟩
 have hz2:w2.heap.size=d5+1:=by rw [hw2,World.size_alloc,World.size_alloc];omega
 have ho2:o1=.cells (dgA zDg.1) 38 (0,0):=by rw [ho1];rfl
 have hh5:w2.heap[d5]?=some (.cells (dgA zDg.1) 38 (0,0)):=by rw [hw2,hd5,hr0,← World.size_alloc w o1,heap_alloc_new,ho2]
 have hh0:w2.heap[r0]?=some (.cells (dgA zDg.1) 38 (0,0)):=by
  have e1:(w.alloc o1).heap[r0]?=some o1:=by rw [hr0];exact heap_alloc_new _ _
  have e2:=((Below.refl (w.alloc o1).heap.size (w.alloc o1)).alloc (Nat.le_refl _) o1).block r0 (by rw [World.size_alloc];omega)
  rw [hw2,← ho2]
  exact e2.trans e1
 have hb2:Below r0 w w2:=by rw [hw2,hr0];exact ((Below.refl _ _).alloc (Nat.le_refl _) _).alloc (by simp) _
 rw [← hw2,← hr0,← hd5]
 have HH5:=hid hh5;have HH0:=hid hh0;have HB2:=hid hb2;have HZ2:=hid hz2;have HD5:=hid hd5;have HR0:=hid hr0
 clear hh5 hh0 hb2 hz2 hd5 hr0 hw2 ho1 ho2 o1
 generalize hX:IntKind.u64.wrap (IntKind.u64.wrap (IntKind.u64.wrap x * 2654435769)+IntKind.u64.wrap y)=X0
 go_upto_region 4 with (fail)
 clear hX
 go_loopw [7,6] (fun v z wr=>∃ k:Nat,k≤4∧v=.int .i64 ((8 * k:Nat):Int)∧(∃ X:Int,z=.int .u64 X)∧(∃ l:Dg,wr.heap[d5]?=some (.cells (dgA l.1) 38 (0,0)))∧Below d5 w2 wr) (fun v _ _=>32 - (intOf v).toNat)
 case atStart=>exact ⟨0,by omega,rfl,⟨_,rfl⟩,⟨zDg,HH5.out⟩,Below.refl _ _⟩
 case round =>
  rename World=>wo
  obtain ⟨k,hk,rfl,⟨X,rfl⟩,⟨l,hl⟩,hb⟩:=hrel
  obtain ⟨k8,hk8⟩:∃ k8,k8=8 * k:=⟨_,rfl⟩
  rw [← hk8]
  have HL:=hid hl;have HB:=hid hb;have HK8:=hid hk8;have HK:=hid hk
  by_cases hlt:k < 4
  · have h9:decide ((k8:Int) < 32)=true:=by simp;omega
    have hk32:k8≤24:=by omega
    have HLT:=hid hlt
    clear hl hb hk8 hk hlt
    go_upto_region 11 with (fail)
    clear h9
    go_loopw [9] (fun v wr=>∃ j:Nat,j≤8∧v=.int .i64 (j:Int)∧(∃ l:Dg,wr.heap[d5]?=some (.cells (dgA l.1) 38 (0,0)))∧Below d5 w2 wr) (fun v _=>8 - (intOf v).toNat)
    case atStart=>exact ⟨0,by omega,rfl,⟨l,HL.out⟩,HB.out⟩
    case round =>
     obtain ⟨j,hj,rfl,⟨l2,hl⟩,hb⟩:=hrel
     have HL2:=hid hl;have HB3:=hid hb;have HJ:=hid hj
     by_cases hlt:j < 8
     · have h9:decide ((j:Int) < 8)=true:=by simp;omega
       have hj7:j≤7:=by omega
       obtain ⟨p,hp⟩:∃ p,p=k8+j:=⟨_,rfl⟩
       have hp31:p < 32:=by omega
       have hkj:(k8:Int)+(j:Int)=(p:Int):=by omega
       obtain ⟨q,hq⟩:∃ q,q=8 * j:=⟨_,rfl⟩
       have hqj:8 * (j:Int)=(q:Int):=by omega
       have hq56:q≤56:=by omega
       have hp0:(0:Int)≤(q:Int):=by omega
       obtain ⟨v0,hv0⟩:=dg_cell hl p hp31
       have hf0:=frozen_of_row wr d5 p _ _ hl
       have HLT2:=hid hlt
       clear hl hb hj hp hq hlt
       go_wp2_with fail
       refine ⟨⟨j+1,by have:=HLT2.out;omega,by go_num,dg_store HL2.out p _ (byte_of _ ?_ ?_),HB3.out.setCell (Nat.le_refl _) _⟩,by have:=HLT2.out;simp [intOf];omega⟩
       · exact Int.emod_nonneg _ (by decide)
       · exact Int.emod_lt_of_pos _ (by decide)
     · obtain rfl:j=8:=by omega
       have h9:decide (((8:Nat):Int) < 8)=false:=by decide
       clear hl hb hj hlt
       go_wp2_with fail
       go_roundw
       case rel=>exact ⟨k+1,by have:=HLT.out;omega,by (rw [show 8 * (k+1)=k8+8 by have:=HK8.out;omega];go_num),⟨_,rfl⟩,⟨l2,HL2.out⟩,HB3.out⟩
       case measure=>have:=hk32;simp [intOf];omega
  · obtain rfl:k=4:=by omega
    have h9:decide (((32:Nat):Int) < 32)=false:=by decide
    obtain rfl:k8=32:=by omega
    have hO:=(hb.block r0 (by have:=HD5.out;omega)).trans HH0.out
    have HTH:=hid (there_block hO)
    obtain ⟨E,hE⟩:∃ E,E=dgA l.1:=⟨_,rfl⟩
    have HE:=hid hE
    have HDS:=hid (show E.size=32 by rw [hE,dgA_size,l.2])
    have HE1:=hid (show E.all (·.oneCell')=true by rw [hE];exact dgA_all _)
    rw [← hE] at hl
    have HL9:=hid hl
    have HGF:=hid (setCells_all hO E.toList (by rw [Array.length_toList,HDS.out];rfl))
    clear hlt hk hl hb hO hk8 hE
    go_upto_region 14 with (fail)
    clear h9
    refine wp_region_lit ?_
    refine wpList_load_row rfl 38 (.tmp 5) (by rfl) d5 (by rfl) 38 E (0,0) _ HL9.out Tryz.underlying38 rfl (by rw [HDS.out];exact info38) ?_
    refine wpList_store_mid rfl 38 (.tmp 4) (.tmp 50) (by rfl) r0 0 E (by rfl) (by rfl) (by rw [HDS.out];exact HTH.out) (by rw [HDS.out];exact info38) HE1.out ?_
    have HB9:=hid ((HB2.out.trans (HB.out.mono (by have:=HD5.out;omega))).grown (setCells_grown r0 E.toList 0 wo) (by have:=HB.out.size;have:=HZ2.out;have:=HD5.out;omega) (fun k hk=>by rw [← Option.some.inj hk];exact Nat.le_refl _))
    generalize wo.setCells r0 0 E.toList=w9 at *
    have hGF:w9.heap[r0]?=some (.cells E 38 (0,0)):=by have:=HGF.out;simpa using this
    have HGF9:=hid hGF
    clear HGF hGF
    go_wp2_with fail
    refine bodyPost_ret (v:=.agg E) (results_cell_row (p:=4) (ty:=38) rfl _ _ r0 38 E (0,0) _ rfl HGF9.out Tryz.underlying38 rfl (by rw [HDS.out];exact info38)) rfl ⟨l,by rw [HE.out],?_⟩
    rw [← HR0.out]
    exact HB9.out
end
section
open Go.Maps Go.WideMaps Go.ChangeMaps
def RowRet (w:World) (n:Nat) (e:Ending) (w':World):Prop:=∃ (g:Nat) (l:List Dg),e=.returned (.slice (some ⟨g,0,none⟩) n n)∧w.heap.size≤g∧l.length=n∧DS w' (some ⟨g,0,none⟩) n n l∧g < w'.heap.size∧Below w.heap.size w w'
set_option maxHeartbeats 4000000
theorem row_any (w:World) (x:Int) (n:Nat) (hn:n≤60000) :
 Calls Tryz.prog 9 #[.int .i64 x,.int .i64 (n:Int)] w (RowRet w n):=by
 have HN:=hid hn
 go_enter Tryz.func9,Tryz.ntmps9
 go_upto_region 2 with (refine L_make rfl (.tmp 7) (.tmp 7) 23 (by rfl) sl23 w.heap.size .i64 .i64 n n (by rfl) (by rfl) rfl (by omega) (by unfold maxLen;omega) (Nat.le_refl _) (fun w3 ho3 hg3=>?_))
 obtain ⟨gl,hgle⟩:∃ gl,gl=w.heap.size:=⟨_,rfl⟩
 rw [← hgle] at ho3 ⊢
 obtain ⟨-,hx⟩:=ho3
 have hcur:∃ (l:List Dg) (rst:List Value),l.length=0∧rst.length=32 * (n - 0)∧w3.heap[gl]?=some (.cells (l.flatMap dgE++rst).toArray 38 (0,0)):=by
  rcases hx with ⟨hv,-⟩ | ⟨g,cap,cur,hv,-,hc,-,-,hs,-⟩
  · cases hv
  · have:=Value.slice.inj hv
    have e1:=this.1
    have e3:=this.2.2
    cases e1
    subst e3
    exact ⟨[],cur.toList,rfl,by simp at hs ⊢;omega,by simpa using hc⟩
 have hb3:Below w.heap.size w w3:=(Below.refl _ _).grown hg3 (Nat.le_refl _) (by intro k hk;cases hk)
 have HCUR:=hid hcur
 have HB3:=hid hb3
 have HGL:=hid hgle
 clear hx hcur hb3 hgle hg3 hn
 go_wp2_with fail
 go_loopw [6] (fun v wr=>∃ k:Nat,k≤n∧v=.int .i64 k∧(∃ (l:List Dg) (rst:List Value),l.length=k∧rst.length=32 * (n - k)∧wr.heap[gl]?=some (.cells (l.flatMap dgE++rst).toArray 38 (0,0)))∧Below w.heap.size w wr) (fun v _=>n - (intOf v).toNat)
 case atStart=>exact ⟨0,by omega,rfl,HCUR.out,HB3.out⟩
 case round =>
  obtain ⟨k,hk,rfl,⟨l,rst,hlk,hrl,hcc⟩,hb⟩:=hrel
  have HB:=hid hb
  have HCC:=hid hcc
  have HLK:=hid hlk
  have HRL:=hid hrl
  by_cases hlt:k < n
  · have HLT:=hid hlt
    have h9:decide ((k:Int) < (n:Int))=true:=by simp;omega
    have HDA:=hid (leafof_any wr x (k:Int))
    have hk6:k≤60000:=by have:=HN.out;omega
    clear hk hb hcc hlk hrl hlt
    go_upto_region 5 with (fail)
    clear h9
    go_wp2_with fail
    with_reducible refine HDA.out.mono ?_
    rintro e w4 ⟨d,rfl,hb4⟩
    have hgl4:=(hb4.block gl ((Array.getElem?_eq_some_iff.1 HCC.out).1)).trans HCC.out
    obtain ⟨E,hE⟩:∃ E,E=dgA d.1:=⟨_,rfl⟩
    have HES:=hid (show E.size=32 by rw [hE,dgA_size,d.2])
    have HE1:=hid (show E.all (·.oneCell')=true by rw [hE];exact dgA_all _)
    have hpl:(l.flatMap dgE).length=k * 32:=by rw [flatE_len,HLK.out]
    have hsw:=setCells_whole gl E.toList _ _ w4 38 hgl4 (by rw [Array.length_toList,HES.out,HRL.out];have:=HLT.out;omega)
    rw [hpl] at hsw
    have HTH:=hid (show w4.there gl (k * 32) E.size from fun j hj=>by
     have h0:=there_block hgl4
     have:=h0 (k * 32+j) (by rw [List.size_toArray,List.length_append,hpl,HRL.out];have:=HLT.out;have:=HES.out;omega)
     rwa [Nat.zero_add] at this)
    have HSW:=hid hsw
    have HGS:=hid (setCells_grown gl E.toList (k * 32) w4)
    have HE:=hid hE
    have HB4:=hid (HB.out.trans (hb4.mono HB.out.size))
    rw [← hE]
    clear hb4 hgl4 hE hpl hsw
    go_wp2_with (refine wpList_store_mid rfl 38 (.tmp 19) (.tmp 18) (by rfl) gl (k * 32) E (by rfl) (by rfl) HTH.out (by rw [HES.out];exact info38) HE1.out ?_)
    have hcc5:∃ (l':List Dg) (rst':List Value),l'.length=k+1∧rst'.length=32 * (n - (k+1))∧(w4.setCells gl (k * 32) E.toList).heap[gl]?=some (.cells (l'.flatMap dgE++rst').toArray 38 (0,0)):=by
     refine ⟨l++[d],rst.drop 32,by rw [List.length_append,HLK.out];rfl,by rw [List.length_drop,HRL.out];have:=HLT.out;omega,?_⟩
     rw [HSW.out,List.flatMap_append,Array.length_toList,HES.out]
     have:E.toList=[d].flatMap dgE:=by
      rw [HE.out]
      simp [dgA,dgE]
     rw [this]
    have HC5:=hid hcc5
    have HB5:=hid (HB4.out.grown HGS.out HB4.out.size (fun q hq=>by rw [← Option.some.inj hq,HGL.out];exact Nat.le_refl _))
    clear hcc5
    go_roundw
    case rel=>exact ⟨k+1,by have:=HLT.out;omega,by go_num,HC5.out,HB5.out⟩
    case measure=>have:=HLT.out;simp [intOf];omega
  · obtain rfl:k=n:=by omega
    have h9:decide ((k:Int) < (k:Int))=false:=by simp
    have hnil:rst=[]:=List.eq_nil_of_length_eq_zero (by rw [hrl];omega)
    rw [hnil,List.append_nil] at hcc
    have HDS:=hid (show DS wr (some ⟨gl,0,none⟩) k k l from ⟨hlk,Nat.le_refl _,by have:=HN.out;omega,fun i x hx=>⟨gl,0,rfl,fun j v hv=>by
     rw [cell_of_row _ _ _ _ _ _ hcc,Nat.zero_add,List.getElem?_toArray]
     exact flat_get dgE 32 dgE_len _ i x hx j v hv⟩⟩)
    have HGW:=hid (Array.getElem?_eq_some_iff.1 hcc).1
    clear hlt hk hcc hrl hlk hnil hb
    go_wp2_with fail
    go_ret
    exact ⟨gl,l,rfl,by rw [HGL.out];exact Nat.le_refl _,HLK.out,HDS.out,HGW.out,HB.out⟩
set_option maxHeartbeats 4000000
theorem leaf1_any (w:World) (bn bl:Nat) (a:Option Addr) (n c n0 i:Nat) (l:List Dg) (d:Dg) (hcn:w.cell? ⟨bn,0,none⟩=some (.int .i64 (n0:Int))) (hcl:w.cell? ⟨bl,0,none⟩=some (.slice a n c)) (hd:DS w a n c l) (hi:l[i]?=some d) (h0:i < n0) (hn:n≤60000) :
 Calls Tryz.prog 38 #[.int .i64 (i:Int),.pointer (some ⟨bn,0,none⟩),.pointer (some ⟨bl,0,none⟩)] w fun e w'=>e=.returned (.agg (dgA d.1))∧Below w.heap.size w w':=by
 obtain ⟨b,off,rfl,hlt,hr⟩:=hd.at hi
 have hin:i < n:=by have:=hd.1;have:=(List.getElem?_eq_some_iff.1 hi).1;omega
 obtain ⟨E,hE⟩:∃ E,E=dgA d.1:=⟨_,rfl⟩
 have HES:=hid (show E.size=32 by rw [hE,dgA_size,d.2])
 have HE1:=hid (show E.all (·.oneCell')=true by rw [hE];exact dgA_all _)
 have hr:w.rangeAt b (off+i * 32) E.toList:=by rw [hE];simpa [dgA] using hr
 rw [← hE]
 have h8:decide ((i:Int) < 0)=false:=by simp
 have h9:decide (n0≤i)=false:=by simp;omega
 obtain ⟨o1,ho1⟩:∃ o1:Obj,o1=.cells #[.int .u8 0,.int .u8 0,.int .u8 0,.int .u8 0,.int .u8 0,.int .u8 0,.int .u8 0,.int .u8 0,.int .u8 0,.int .u8 0,.int .u8 0,.int .u8 0,.int .u8 0,.int .u8 0,.int .u8 0,.int .u8 0,.int .u8 0,.int .u8 0,.int .u8 0,.int .u8 0,.int .u8 0,.int .u8 0,.int .u8 0,.int .u8 0,.int .u8 0,.int .u8 0,.int .u8 0,.int .u8 0,.int .u8 0,.int .u8 0,.int .u8 0,.int .u8 0] 38:=⟨_,rfl⟩
 obtain ⟨w1,hw1⟩:∃ w1,w1=w.alloc o1:=⟨_,rfl⟩
 have hb1:Below w.heap.size w w1:=by rw [hw1];exact (Below.refl _ _).alloc (Nat.le_refl _) _
 have hO:w1.heap[w.heap.size]?=some (.cells (dgA zDg.1) 38 (0,0)):=by rw [hw1,heap_alloc_new,ho1];rfl
 have hr1:w1.rangeAt b (off+i * 32) E.toList:=fun j v hv=>(World.cell?_of_block (hb1.block b hlt)).trans (hr j v hv)
 have c1:=(hb1.cell (p:=⟨bn,0,none⟩) (World.block_lt_of_cell? w _ hcn)).trans hcn
 have c2:=(hb1.cell (p:=⟨bl,0,none⟩) (World.block_lt_of_cell? w _ hcl)).trans hcl
 have HTH:=hid (there_block hO)
 have HGF:=hid (setCells_all hO E.toList (by rw [Array.length_toList,HES.out];rfl))
 have HR1:=hid hr1
 have HB1:=hid hb1
 have hw2:w.alloc (.cells #[.int .u8 0,.int .u8 0,.int .u8 0,.int .u8 0,.int .u8 0,.int .u8 0,.int .u8 0,.int .u8 0,.int .u8 0,.int .u8 0,.int .u8 0,.int .u8 0,.int .u8 0,.int .u8 0,.int .u8 0,.int .u8 0,.int .u8 0,.int .u8 0,.int .u8 0,.int .u8 0,.int .u8 0,.int .u8 0,.int .u8 0,.int .u8 0,.int .u8 0,.int .u8 0,.int .u8 0,.int .u8 0,.int .u8 0,.int .u8 0,.int .u8 0,.int .u8 0] 38)=w1:=by rw [hw1,ho1]
 have HIN:=hid hin
 have HE:=hid hE
 obtain ⟨r0,hr0⟩:∃ r0,r0=w.heap.size:=⟨_,rfl⟩
 clear hcn hcl hd hi h0 hr hO hr1 hb1 hin hE hw1 ho1
 go_enter Tryz.func38,Tryz.ntmps38
 go_upto_region 1 with (fail)
 rw [← hr0]
 rw [← hr0] at HTH HGF HB1
 have HR0:=hid hr0
 clear hw2 hr0
 go_wp2_with (first
  | (refine L_load_arr rfl 38 (.tmp 15) (by rfl) b (off+i * 32) (by rfl) E _ HR1.out Tryz.underlying38 rfl (by rw [HES.out];exact info38) ?_)
  | (refine wpList_store_mid rfl 38 (.tmp 4) (.tmp 16) (by rfl) r0 0 E (by rfl) (by rfl) (by rw [HES.out];exact HTH.out) (by rw [HES.out];exact info38) HE1.out ?_))
 have HB9:=hid (HB1.out.grown (setCells_grown r0 E.toList 0 w1) (by rw [HR0.out];have:=HB1.out.size;have:=HR0.out;omega) (fun k hk=>by rw [← Option.some.inj hk];exact Nat.le_refl _))
 generalize w1.setCells r0 0 E.toList=w9 at *
 have hGF:w9.heap[r0]?=some (.cells E 38 (0,0)):=by have:=HGF.out;simpa using this
 have HGF9:=hid hGF
 refine bodyPost_ret (v:=.agg E) (results_cell_row (p:=4) (ty:=38) rfl _ _ r0 38 E (0,0) _ rfl HGF9.out Tryz.underlying38 rfl (by rw [HES.out];exact info38)) rfl ⟨rfl,?_⟩
 rw [← HR0.out]
 exact HB9.out
end
section
open Go.Maps Go.WideMaps Go.ChangeMaps
structure OL (w0 wr:World) (L:Lay) (τ:Nat→Nat) (gt gd:Nat) (d:Dm) (T:TT) (Y:TY) (fb m:Nat) (M:Nat→Nat→Sc) (ls:List Dg) (k:Nat):Prop where
 bt:BT wr L τ gt gd d { T with L:=ls.take k } Y
 hb:Below w0.heap.size w0 wr
 new:∀ j,τ j ≠ 0→w0.heap.size≤j
 fd:Found wr w0.heap.size fb m (chunk ls) M
 ff:τ fb=0
 fg:∀ j g n c,j < m→M 0 j=some (g,n,c)→τ g=0
section
variable {w0 wr w' : World} {L : Lay} {τ : Nat → Nat} {gt gd : Nat} {d : Dm} {T : TT} {Y : TY} {fb m : Nat} {M : Nat → Nat → Sc} {ls : List Dg} {k : Nat}
theorem OL.below (h:OL w0 wr L τ gt gd d T Y fb m M ls k) (hb:Below wr.heap.size wr w'):OL w0 w' L τ gt gd d T Y fb m M ls k :=
 ⟨h.bt.below hb,h.hb.trans (hb.mono h.hb.size),h.new,h.fd.below hb,h.ff,h.fg⟩
theorem OL.grow (h:OL w0 wr L τ gt gd d T Y fb m M ls k) (hn:ls.length≤60000) (ht:RoundTab w0) {x:Dg} (hx:ls[k]?=some x) (h3:3 < w0.heap.size) :
 Calls Tryz.prog 49 #[.pointer (some ⟨gt,0,none⟩),.agg (dgA x.1)] wr fun e w'=>e=.returned (.tuple #[])∧∃ τ' Y',OL w0 w' L τ' gt gd d T Y' fb m M ls (k+1):=by
 have hk:=(List.getElem?_eq_some_iff.1 hx).1
 refine (grow_any wr τ gt gd _ Y h.bt.t (by show (ls.take k).length < 60000;rw [List.length_take];omega) x (rt_below ht h.hb h3)).mono ?_
 rintro e w2 ⟨rfl,τ2,Y2,hT,hU⟩
 have hT':TS w2 τ2 gt gd { T with L:=ls.take (k+1) } Y2:=by
  have:ls.take (k+1)=ls.take k++[x]:=by rw [List.take_add_one,hx];rfl
  rw [this];exact hT
 have hb2:=h.bt.tiles hT' hU
 have hz:∀ b,b < w0.heap.size→τ b=0:=fun b hb=>by
  rcases Nat.eq_zero_or_pos (τ b) with e | e
  · exact e
  · have:=h.new b (by omega);omega
 have hlt:=h.fd.map.at.lt
 refine ⟨rfl,τ2,Y2,hb2,⟨hU.os.trans h.hb.os,hU.tape.trans h.hb.tape,hU.output.trans h.hb.output,Nat.le_trans h.hb.size hU.size,fun b hb=>(hU.block b (Nat.lt_of_lt_of_le hb h.hb.size) (hz b hb)).trans (h.hb.block b hb)⟩,fun j hj=>?_,h.fd.keep hU.size (fun b hb hc=>hU.block b hb ?_),hU.ext.old fb hlt h.ff,fun j g n c hj hM=>?_⟩
 · rcases Nat.lt_or_ge j w0.heap.size with e | e
   · exact absurd (hU.ext.old j (Nat.lt_of_lt_of_le e h.hb.size) (hz j e)) hj
   · exact e
 · rcases hc with rfl | ⟨j,hj,n,c,hM⟩
   · exact h.ff
   · exact h.fg j b n c hj hM
 · obtain ⟨gl,q1,q2,q3,q4,q5⟩:=h.fd.at_ j hj
   rw [hM] at q1
   cases q1
   exact hU.ext.old _ q4 (h.fg j _ _ _ hj hM)
end
theorem new_dig (w:World) (E:Array Value) (hE:E.size=32) :
 Below w.heap.size w ((w.alloc (.cells (dgA zDg.1) 38)).setCells w.heap.size 0 E.toList)∧((w.alloc (.cells (dgA zDg.1) 38)).setCells w.heap.size 0 E.toList).heap[w.heap.size]?=some (.cells E 38 (0,0))∧(w.alloc (.cells (dgA zDg.1) 38)).there w.heap.size 0 E.size:=by
 have hO:=heap_alloc_new w (.cells (dgA zDg.1) 38)
 have hb:Below w.heap.size w (w.alloc (.cells (dgA zDg.1) 38)):=(Below.refl _ _).alloc (Nat.le_refl _) _
 have h1:=setCells_all hO E.toList (by rw [Array.length_toList,hE];rfl)
 refine ⟨hb.grown (setCells_grown _ _ _ _) hb.size (fun k hk=>by rw [← Option.some.inj hk];exact Nat.le_refl _),by simpa using h1,?_⟩
 have:=there_block hO
 rw [hE]
 rwa [show (dgA zDg.1).size=32 from rfl] at this
noncomputable def opz:World→Nat→Nat:=fun w gt=>match w.cell? ⟨gt,4,none⟩ with | some v=>(intOf v).toNat | none=>0
theorem OL.opz {w0 wr:World} {L:Lay} {τ:Nat→Nat} {gt gd:Nat} {d:Dm} {T:TT} {Y:TY} {fb m:Nat} {M:Nat→Nat→Sc} {ls:List Dg} {k:Nat} (h:OL w0 wr L τ gt gd d T Y fb m M ls (k+1)) (hk:k < ls.length):opz wr gt=k+1:=by
 have e4:=h.bt.t.cells.2.2.2.2.1
 rw [show ({ T with L:=ls.take (k+1) }:TT).L.length=k+1 by show (ls.take (k+1)).length=k+1;rw [List.length_take];omega] at e4
 unfold Go.Proofs.YtgkehahklccacaaGreatDoor.opz
 rw [e4];simp [intOf]
set_option maxHeartbeats 8000000
theorem open_loop (w0 w:World) (L:Lay) (τ:Nat→Nat) (gt gd:Nat) (d:Dm) (T:TT) (Y:TY) (fb m n:Nat) (M:Nat→Nat→Sc) (ls:List Dg) (h:OL w0 w L τ gt gd d T Y fb m M ls 0) (hp:Pre d) (hun:∀ i,i < d.fs.length→(d.file i).units≤9223372036854775806) (hcl:d.claims.length < 1000000) (hco:-4611686018427387904≤d.claimOf tlN∧d.claimOf tlN≤4611686018427387904)
 (hn:ls.length=n) (hn6:n≤60000) (hm:m≤n / 256) (ht:RoundTab w0) (h3:3 < w0.heap.size) (x0 x1:Value)
 (hleaf:∀ (i:Nat) (x:Dg) (wx:World),ls[i]?=some x→Below w0.heap.size w0 wx→Calls Tryz.prog 38 #[.int .i64 (i:Int),x0,x1] wx fun e w'=>e=.returned (.agg (dgA x.1))∧Below wx.heap.size wx w') (u1 u4 u5 u6 u7 u8 u9 u10 u11 u14 u15 u16 u17 u18 u19 u20 u21 u22 u23 u24 u25 u26 u27 u28 u29 u30 u31 u32 u33 u34 u35 u36 u37 u38 u39 u40 u41 u42 u43 u44 u45 u46 u47 u48 u49 u50 u51 u52 u53 u54 u55 u56 u57 u58 u59 u60 u61 u62 u63 u64 u65 u66 u67 u68 u69 u70 u71 u72 u73 u74 u75 u76 u77 u78 u79 u80 u81 u82 u83 u84 u85 u86 u87 u88 u89 u90 u91 u92 u93 u94 u95 u96 u97 u98 u99 u100 u101 u102 u103 u104 u105 u106 u107 u108 u109 u110 u111 u112 u113 u114 u115 u116 u117 u118 u119 u120 u121 u122 u123 u124 u125 u126 u127 u128 u129 u130 u131 u132 u133 u134 u135 u136 u137 u138 u139 u140 u141 u142 u143 u144 u145 u146 u147:Value) :
 Code.wp Tryz.prog (dropSeq 7 op0) (bodyPost Tryz.prog Tryz.f21 (OpRet w0 L gd d { T with held:=m,l0:=looseB d,l1:=looseB d,cl:=d.claimOf tlN+1,L:=ls })) ⟨#[.pointer (some ⟨gd,0,none⟩),u1,.int .i64 (n:Int),.func (.func 38) #[] #[x0,x1],u4,u5,u6,u7,u8,u9,u10,u11,.pointer (some ⟨gt,0,none⟩),.map (some fb),u14,u15,u16,u17,u18,u19,u20,u21,u22,u23,u24,u25,u26,u27,u28,u29,u30,u31,u32,u33,u34,u35,u36,u37,u38,u39,u40,u41,u42,u43,u44,u45,u46,u47,u48,u49,u50,u51,u52,u53,u54,u55,u56,u57,u58,u59,u60,u61,u62,u63,u64,u65,u66,u67,u68,u69,u70,u71,u72,u73,u74,u75,u76,u77,u78,u79,u80,u81,u82,u83,u84,u85,u86,u87,u88,u89,u90,u91,u92,u93,u94,u95,u96,u97,u98,u99,u100,u101,u102,u103,u104,u105,u106,u107,u108,u109,u110,u111,u112,u113,u114,u115,u116,u117,u118,u119,u120,u121,u122,u123,u124,u125,u126,u127,u128,u129,u130,u131,u132,u133,u134,u135,u136,u137,u138,u139,u140,u141,u142,u143,u144,u145,u146,u147],[]⟩ w:=by
 have HX:=hid (And.intro hp (And.intro hun (And.intro hcl (And.intro hco (And.intro hn (And.intro hn6 (And.intro hm (And.intro ht h3))))))))
 have HLF:=hid hleaf
 have H:=hid h
 clear h hp hun hcl hco hn hn6 hm ht h3 hleaf
 refine wp_two_k (c:=dropSeq 7 op0) ⟨_,_,rfl⟩ fun K hK=>?_
 have HK:=hid hK
 clear hK
 conv=>arg 2;whnf
 go_wp2_with fail
 go_loopw [14] (fun _ wr=>∃ (k:Nat) (τ':Nat→Nat) (Y':TY),k≤n∧(k % 256=0∨256 * m≤k)∧OL w0 wr L τ' gt gd d T Y' fb m M ls k) (fun _ wr=>n - opz wr gt)
 case atStart=>exact ⟨0,τ,Y,Nat.zero_le _,.inl rfl,H.out⟩
 case round =>
  obtain ⟨k,τ1,Y1,hk,hka,hol⟩:=hrel
  have HOL:=hid hol
  have HKA:=hid hka
  have e4:=hol.bt.t.cells.2.2.2.2.1
  rw [show ({ T with L:=ls.take k }:TT).L.length=k by show (ls.take k).length=k;rw [List.length_take];have:=HX.out.2.2.2.2.1;omega] at e4
  have HZ:=hid (show opz wr gt=k by unfold opz;rw [e4];simp [intOf])
  by_cases hlt:k < n
  · obtain ⟨x,hx⟩:∃ x,ls[k]?=some x:=⟨_,List.getElem?_eq_getElem (by rw [HX.out.2.2.2.2.1];exact hlt)⟩
    obtain ⟨j,hj⟩:∃ j,j=k / 256:=⟨_,rfl⟩
    have hkj:(k:Int) / 256=(j:Int):=by omega
    have hk6:k≤60000:=by have:=HX.out.2.2.2.2.2.1;omega
    have h9:decide (k < n)=true:=by simp;exact hlt
    have hlook:=hol.fd.map.at.look_ok (l:=0) (j:=j) (by decide) (by omega)
    have hl0:(Instr.lookup 95 (.map (some fb)) (.agg #[.int .i64 0,.int .i64 (j:Int)]) true).run Tryz.prog wr=.ok (.tuple #[encS (M 0 j),.bool (M 0 j).isSome]) wr:=hlook
    clear hlook
    have HLT:=hid hlt
    have HJ:=hid hj
    have HXX:=hid hx
    by_cases hkm:k < 256 * m
    · obtain ⟨gl,hM,-,-,-,-⟩:=hol.fd.at_ j (by omega)
      have hk256:k=256 * j:=by omega
      have hkr:(k:Int) % 256=0:=by omega
      rw [hM] at hl0
      have hlook:(Instr.lookup 95 (.map (some fb)) (.agg #[.int .i64 0,.int .i64 (j:Int)]) true).run Tryz.prog wr=.ok (.tuple #[.slice (some ⟨gl,0,none⟩) 256 256,.bool true]) wr:=hl0
      have HKM:=hid hkm
      have HK256:=hid hk256
      have HM:=hid hM
      clear hlt hk hka hol hx hj hkm hk256 hM hl0
      rename World=>wo
      go_wp2_with fail
      clear hkr
      go_loopw [97] (fun v wr=>∃ (i:Nat) (τ':Nat→Nat) (Y':TY),i≤256∧v=.int .i64 (i:Int)∧OL w0 wr L τ' gt gd d T Y' fb m M ls (k+i)) (fun v _=>256 - (intOf v).toNat)
      case atStart=>exact ⟨0,τ1,Y1,by omega,rfl,HOL.out⟩
      case round =>
       obtain ⟨i,τ2,Y2,hi,rfl,hol⟩:=hrel
       have HO:=hid hol
       by_cases hlt:i < 256
       · have hki:k+i < n:=by have:=HKM.out;have:=HK256.out;have:=HX.out.2.2.2.2.2.2.1;omega
         obtain ⟨x,hx⟩:∃ x,ls[k+i]?=some x:=⟨_,List.getElem?_eq_getElem (by rw [HX.out.2.2.2.2.1];exact hki)⟩
         obtain ⟨g',q1,-,-,-,hds⟩:=hol.fd.at_ j (by have:=HKM.out;have:=HK256.out;omega)
         rw [HM.out] at q1
         cases q1
         have hcx:(chunk ls j)[i]?=some x:=by unfold chunk;rw [List.getElem?_take,if_pos hlt,List.getElem?_drop,← HK256.out];exact hx
         obtain ⟨b',off',e1,hbl,hr⟩:=hds.at hcx
         cases e1
         obtain ⟨E,hE⟩:∃ E,E=dgA x.1:=⟨_,rfl⟩
         have hES:E.size=32:=by rw [hE,dgA_size,x.2]
         have HE1:=hid (show E.all (·.oneCell')=true by rw [hE];exact dgA_all _)
         have hr:wr.rangeAt gl (0+i * 32) E.toList:=by rw [hE];simpa [dgA] using hr
         obtain ⟨hb2,hg2,hth⟩:=new_dig wr E hES
         obtain ⟨r0,hr0⟩:∃ r0,r0=wr.heap.size:=⟨_,rfl⟩
         obtain ⟨w1,hw1⟩:∃ w1,w1=wr.alloc (.cells (dgA zDg.1) 38):=⟨_,rfl⟩
         have hba:Below wr.heap.size wr w1:=by rw [hw1];exact (Below.refl _ _).alloc (Nat.le_refl _) _
         have hr1:w1.rangeAt gl (0+i * 32) E.toList:=fun q v hv=>(World.cell?_of_block (hba.block gl hbl)).trans (hr q v hv)
         rw [← hw1] at hb2 hg2 hth
         have hw1':wr.alloc (.cells #[.int .u8 0,.int .u8 0,.int .u8 0,.int .u8 0,.int .u8 0,.int .u8 0,.int .u8 0,.int .u8 0,.int .u8 0,.int .u8 0,.int .u8 0,.int .u8 0,.int .u8 0,.int .u8 0,.int .u8 0,.int .u8 0,.int .u8 0,.int .u8 0,.int .u8 0,.int .u8 0,.int .u8 0,.int .u8 0,.int .u8 0,.int .u8 0,.int .u8 0,.int .u8 0,.int .u8 0,.int .u8 0,.int .u8 0,.int .u8 0,.int .u8 0,.int .u8 0] 38)=w1:=hw1.symm
         have HGR:=hid ((hol.below hb2).grow (by rw [HX.out.2.2.2.2.1];exact HX.out.2.2.2.2.2.1) HX.out.2.2.2.2.2.2.2.1 hx HX.out.2.2.2.2.2.2.2.2)
         rw [← hE] at HGR
         rw [← hr0] at hg2 hth HGR
         have HES:=hid hES;have HG2:=hid hg2;have HTH:=hid hth;have HR:=hid hr;have HR1:=hid hr1
         have h9:decide ((i:Int) < 256)=true:=by simp;omega
         have HLT2:=hid hlt
         have HR0:=hid hr0
         have hi6:i≤255:=by omega
         clear hlt hki hx hds hcx hbl hr hr1 hba hb2 hg2 hth hES hE hol hw1 hi hr0
         have HRR:=HR0.out
         clear HRR
         go_wp2_with (first
          | (refine L_load_arr rfl 38 (.tmp 99) (by rfl) gl (0+i * 32) (by simp only [Nat.zero_add];rfl) E _ HR.out Tryz.underlying38 rfl (by rw [HES.out];exact info38) ?_)
          | (rw [← HR0.out];refine wpList_store_mid rfl 38 (.tmp 17) (.tmp 100) (by rfl) r0 0 E (by rfl) (by rfl) HTH.out (by rw [HES.out];exact info38) HE1.out ?_)
          | (refine wpList_load_row rfl 38 (.tmp 17) (by rfl) r0 (by rfl) 38 E (0,0) _ HG2.out Tryz.underlying38 rfl (by rw [HES.out];exact info38) ?_)
          | (go_at_call 49;refine HGR.out.mono ?_;rintro e w3 ⟨rfl,τ3,Y3,hol3⟩;have HOL3:=hid hol3;clear hol3))
         refine ⟨⟨i+1,τ3,Y3,HLT2.out,by go_num,HOL3.out⟩,?_⟩
         have:=HLT2.out
         simp [intOf];omega
       · obtain rfl:i=256:=by omega
         have h9:decide (((256:Nat):Int) < 256)=false:=by decide
         clear hlt hi hol
         have hkn:k+255 < n:=by have:=HKM.out;have:=HK256.out;have:=HX.out.2.2.2.2.2.2.1;omega
         have hz2:=OL.opz (k:=k+255) HO.out (by rw [HX.out.2.2.2.2.1];exact hkn)
         have HKN:=hid hkn
         have HZ2:=hid hz2
         clear hkn hz2
         go_wp2_with fail
         refine ⟨⟨k+256,τ2,Y2,by have:=HKN.out;omega,.inl (by have:=HK256.out;omega),HO.out⟩,?_⟩
         have:=HKN.out
         rw [HZ2.out,HZ.out];omega
    · rw [hol.fd.no 0 j (by omega)] at hl0
      have hlook:(Instr.lookup 95 (.map (some fb)) (.agg #[.int .i64 0,.int .i64 (j:Int)]) true).run Tryz.prog wr=.ok (.tuple #[.slice none 0 0,.bool false]) wr:=hl0
      have HKM:=hid hkm
      have HLC:=hid (HLF.out k x wr hx hol.hb)
      clear hlt hk hka hol hx hj hkm hl0
      go_wp2_with (first
       | (go_at_call 38;refine HLC.out.mono ?_;rintro e w2 ⟨rfl,hb2⟩;have HGR:=hid ((HOL.out.below hb2).grow (by rw [HX.out.2.2.2.2.1];exact HX.out.2.2.2.2.2.1) HX.out.2.2.2.2.2.2.2.1 HXX.out HX.out.2.2.2.2.2.2.2.2);clear hb2)
       | (go_at_call 49;refine HGR.out.mono ?_;rintro e w3 ⟨rfl,τ2,Y2,hol2⟩;have HOL2:=hid hol2;clear hol2))
      have hz2:=HOL2.out.opz (by rw [HX.out.2.2.2.2.1];exact HLT.out)
      refine ⟨⟨k+1,τ2,Y2,HLT.out,.inr (by have:=HKM.out;omega),HOL2.out⟩,?_⟩
      have:=HLT.out
      rw [hz2,HZ.out];omega
  · obtain rfl:k=n:=by omega
    have h9:decide (k < k)=false:=by simp
    have hlk:ls.take k=ls:=List.take_of_length_le (by rw [HX.out.2.2.2.2.1];exact Nat.le_refl _)
    clear hlt hk hka hol
    go_wp2_with fail
    refine HK.out _ _ ?_
    rw [dropSeq_succ]
    have hbt:=HOL.out.bt
    rw [hlk] at hbt
    exact open_tail w0 wr L τ1 gt gd d { T with L:=ls } Y1 hbt HOL.out.hb HOL.out.new HX.out.1 HX.out.2.1 HX.out.2.2.1 HX.out.2.2.2.1 fb m (chunk ls) M HOL.out.fd (by have:=HX.out.2.2.2.2.2.2.1;have:=HX.out.2.2.2.2.2.1;omega) _ _ _ _ _ _ _ _ _ _ _ _ _ _ _ _ _ _ _ _ _ _ _ _ _ _ _ _ _ _ _ _ _ _ _ _ _ _ _ _ _ _ _ _ _ _ _ _ _ _ _ _ _ _ _ _ _ _ _ _ _ _ _ _ _ _ _ _ _ _ _ _ _ _ _ _ _ _ _ _ _ _ _ _ _ _ _ _ _ _ _ _ _ _ _ _ _ _ _ _ _ _ _ _ _ _ _ _ _ _ _ _ _ _ _ _ _ _ _ _ _ _ _ _ _ _ _ _ _ _ _ _ _ _ _ _ _ _ _ _ _ _ _ _ _ 
end
end Go.Proofs.YtgkehahklccacaaGreatDoor
