import Derived.Test.YtgkehahklccacaaGreatDoorC05
import Derived.Laws.CopyOwn
import Derived.StillTailTactics
import Derived.Deep.RegionHeld3
import Derived.IntWalk
import Derived.Deep.MidRow
import Derived.Lib.SliceRun
namespace Go.Proofs.YtgkehahklccacaaGreatDoor
open Go Go.RowKit
open Go.Lib (hid)
set_option maxRecDepth 100000
set_option maxHeartbeats 1000000
set_option linter.unusedVariables false
set_option linter.unusedSimpArgs false
section
theorem info332:(Tryz.prog.info? 332).map (·.size)=some 73:=by kernel_rfl
theorem info38:(Tryz.prog.info? 38).map (·.size)=some 32:=by kernel_rfl
theorem slice_end (wx:World) (g k:Nat) (hk:k≤128) (x:Int) (hx:x=(k:Int)):(Instr.sliceAt 333 (.pointer (some ⟨g,0,none⟩)) none (some (.int .i64 x)) none).run Tryz.prog wx=.ok (.slice (some ⟨g,0,none⟩) k 128) wx:=by
 subst hx
 have ht:Tryz.prog.underlying 333=some (.array (Tryz.prog.arrayLen 333) (Tryz.prog.elem 333)):=by kernel_rfl
 have hl:Tryz.prog.arrayLen 333=128:=by kernel_rfl
 have hs:(sizeOf (Tryz.prog.elem 333)).run Tryz.prog wx=.ok 1 wx:=by kernel_rfl
 rw [run_sliceAt_array_h wx 333 ⟨g,0,none⟩ ht .i64 (k:Int) (by omega) (by rw [hl];omega),hs,hl]
 simp [Result.andThen,slicedAt,Addr.add_lit]
theorem fillA_get (l:List UInt8) (t N i:Nat) (hi:i < t) (ht:t≤l.length):(fillA l t N)[i]?=(l.map b8)[i]?:=by
 unfold fillA
 rw [List.getElem?_toArray,List.getElem?_map,List.getElem?_append_left (by rw [List.length_take];omega),List.getElem?_take,if_pos hi,List.getElem?_map]
theorem r8_fill {w:World} {g:Nat} {l:List UInt8} {t N:Nat} {ty:TypeId} (h:w.heap[g]?=some (.cells (fillA l t N) ty (0,0))) (hl:l.length=t) (hN:t≤N) (ht:t≤281474976710656):R8 w (some ⟨g,0,none⟩) t N l:=by
 refine ⟨hl,hN,ht,fun i hi=>⟨g,0,rfl,?_⟩⟩
 rw [cell_of_row _ _ _ _ _ _ h,Nat.zero_add,fillA_get l t N i (by omega) (by omega),List.getElem?_map,List.getElem?_eq_getElem hi]
 rfl
theorem idx8s (R:S8):∀ (i:Nat),i < 8→∀ w,(Instr.index 328 (.agg #[.int .u32 (R.a.toNat:Int),.int .u32 (R.b.toNat:Int),.int .u32 (R.c.toNat:Int),.int .u32 (R.d.toNat:Int),.int .u32 (R.e.toNat:Int),.int .u32 (R.f.toNat:Int),.int .u32 (R.g.toNat:Int),.int .u32 (R.h.toNat:Int)]) (.int .i64 (i:Int))).run Tryz.prog w=.ok (.int .u32 ((R.list.getD i 0).toNat:Int)) w
 | 0,_=>fun w=>by kernel_rfl
 | 1,_=>fun w=>by kernel_rfl
 | 2,_=>fun w=>by kernel_rfl
 | 3,_=>fun w=>by kernel_rfl
 | 4,_=>fun w=>by kernel_rfl
 | 5,_=>fun w=>by kernel_rfl
 | 6,_=>fun w=>by kernel_rfl
 | 7,_=>fun w=>by kernel_rfl
 | n+8,h=>by omega
set_option maxHeartbeats 16000000
theorem sum_any (w:World) (gh:Nat) (m:List UInt8) (hh:HsAt w gh m) (hm:m.length≤1125899906842000) (ht:RoundTab w) (h3:3 < w.heap.size) :
 Calls Tryz.prog 180 #[.pointer (some ⟨gh,0,none⟩)] w fun e w'=>e=.returned (.agg (dgA (shaP m)))∧Below w.heap.size w w':=by
 obtain ⟨rs,h64,hrs,hbk⟩:=hh
 have hgl:gh < w.heap.size:=(Array.getElem?_eq_some_iff.1 hbk).1
 obtain ⟨N,hN⟩:∃ N,N=m.length:=⟨_,rfl⟩
 obtain ⟨q,hq⟩:∃ q,q=N % 64:=⟨_,rfl⟩
 have hNb:N≤1125899906842000:=by omega
 have HN:=hid hN
 have HQ:=hid hq
 have H64:=hid h64
 have HRS:=hid hrs
 have HT:=hid ht
 obtain ⟨C,hC⟩:∃ C,C=hCells m rs:=⟨_,rfl⟩
 rw [← hC] at hbk
 have HC:=hid hC
 have HCS:=hid (show C.size=73 by rw [hC];exact hCells_size m rs h64)
 have HC1:=hid (show C.all (·.oneCell')=true by rw [hC];exact hCells_one m rs)
 have HBK:=hid hbk
 clear hN hq h64 hrs ht hC hbk hm
 go_enter Tryz.func180,Tryz.ntmps180
 go_upto_region 1 with (fail)
 obtain ⟨o1,ho1⟩:∃ o1:Obj,o1=.cells #[.int .u8 0,.int .u8 0,.int .u8 0,.int .u8 0,.int .u8 0,.int .u8 0,.int .u8 0,.int .u8 0,.int .u8 0,.int .u8 0,.int .u8 0,.int .u8 0,.int .u8 0,.int .u8 0,.int .u8 0,.int .u8 0,.int .u8 0,.int .u8 0,.int .u8 0,.int .u8 0,.int .u8 0,.int .u8 0,.int .u8 0,.int .u8 0,.int .u8 0,.int .u8 0,.int .u8 0,.int .u8 0,.int .u8 0,.int .u8 0,.int .u8 0,.int .u8 0] 38:=⟨_,rfl⟩
 have hb1:Below w.heap.size w (w.alloc o1):=(Below.refl _ _).alloc (Nat.le_refl _) _
 rw [← ho1]
 generalize hw1:w.alloc o1=w1 at *
 have hz1:w1.heap.size=w.heap.size+1:=by rw [← hw1];simp
 have hg1:w1.heap[w.heap.size]?=some o1:=by rw [← hw1];exact heap_alloc_new w _
 have HBK1:=hid ((hb1.block gh hgl).trans HBK.out)
 have hg2:(w1.alloc (.cells Tryz.zeroCells332 332)).heap[w1.heap.size]?=some (.cells Tryz.zeroCells332 332):=heap_alloc_new w1 _
 have HTH:=hid (there_block hg2)
 have HZ:=hid (show Tryz.zeroCells332.size=73 by kernel_rfl)
 rw [HZ.out,← HCS.out] at HTH
 have HG2:=hid (setCells_all hg2 C.toList (by rw [HZ.out,← HCS.out];rfl))
 have HO1:=hid ho1
 have HB1:=hid hb1;have HZ1:=hid hz1;have HG1:=hid hg1
 clear hw1 hb1 hz1 hg1 hg2 ho1
 go_upto_region 2 with (first
  | (refine wpList_load_row rfl 332 (.tmp 13) (by rfl) gh (by rfl) 332 C (0,0) _ HBK1.out Tryz.underlying332 rfl (by rw [HCS.out];exact info332) ?_)
  | (refine wpList_store_mid rfl 332 (.tmp 3) (.tmp 14) (by rfl) w1.heap.size 0 C (by rfl) (by rfl) HTH.out (by rw [HCS.out];exact info332) HC1.out ?_))
 obtain ⟨g3,hg3⟩:∃ g3,g3=w1.heap.size:=⟨_,rfl⟩
 obtain ⟨r0,hr0⟩:∃ r0,r0=w.heap.size:=⟨_,rfl⟩
 rw [← hr0] at HZ1 HG1 HB1
 rw [← hg3] at HG2 HTH HZ1
 obtain ⟨w2,hw2⟩:∃ w2,w2=(w1.alloc (.cells Tryz.zeroCells332 332)).setCells g3 0 C.toList:=⟨_,rfl⟩
 have hgr:=setCells_grown g3 C.toList 0 (w1.alloc (.cells Tryz.zeroCells332 332))
 rw [← hg3,← hr0,← hw2]
 rw [← hw2] at HG2 hgr
 have hz2:w2.heap.size=g3+1:=by rw [hw2,setCells_size,World.size_alloc,hg3]
 have hg31:g3=r0+1:=HZ1.out
 have hb2:Below g3 w1 w2:=by
  have h1:Below g3 w1 (w1.alloc (.cells Tryz.zeroCells332 332)):=(Below.refl _ _).alloc (by omega) _
  exact h1.grown hgr (by rw [World.size_alloc];omega) (fun k hk=>by rw [← Option.some.inj hk];exact Nat.le_refl _)
 have HB2:=hid (HB1.out.trans (hb2.mono (show r0≤g3 by omega)))
 have HO2:=hid ((hb2.block r0 (by omega)).trans HG1.out)
 have hG3:w2.heap[g3]?=some (.cells C 332 (0,0)):=by have:=HG2.out;simpa using this
 have HG3:=hid hG3
 have HGH:=hid ((hb2.block gh (by omega)).trans HBK1.out)
 have hC2:C=stC (stOf m).list (tlH rs N):=by rw [HC.out,HN.out];rfl
 have n3:w2.cell? ⟨g3,72,none⟩=some (.int .u64 (N:Int)):=cell_n (S8.list_len _) H64.out (by rw [← hC2];exact hG3)
 have nh:w2.cell? ⟨gh,72,none⟩=some (.int .u64 (N:Int)):=cell_n (S8.list_len _) H64.out (by rw [← hC2];exact HGH.out)
 have hghz:gh < w2.heap.size:=by omega
 have HLT:=hid (show gh < g3 by omega)
 have HR0:=hid hr0;have HG31:=hid hg31;have HZ2:=hid hz2
 have HC2:=hid hC2
 have hw8:IntKind.u64.wrap (8 * (N:Int))=((8 * N:Nat):Int):=by
  simp [IntKind.wrap,IntKind.bits,IntKind.signed];omega
 clear hgr hw2 hg3 hb2 hG3 hr0 hg31 hz2 hC2 HG1 HBK1 HTH HG2 HB1 HZ1
 go_wp2_with fail
 obtain ⟨e5,he5⟩:∃ e5,e5=w2.heap.size:=⟨_,rfl⟩
 obtain ⟨w3,hw3⟩:∃ w3,w3=w2.alloc (.cells (Tryz.zeroCells333.setIfInBounds 0 (.int .u8 128)) 333):=⟨_,rfl⟩
 rw [← he5,← hw3]
 have hz3:w3.heap.size=e5+1:=by rw [hw3,World.size_alloc,he5]
 have hb3:Below w2.heap.size w2 w3:=by rw [hw3];exact (Below.refl _ _).alloc (Nat.le_refl _) _
 have hE:w3.heap[e5]?=some (.cells (fillA (padL N) (gapK N) 128) 333 (0,0)):=by
  rw [hw3,he5,heap_alloc_new,← padL_start]
  exact congrArg (fun c=>some (Obj.cells c 333 (0,0))) (by kernel_rfl)
 rw [← he5] at hb3
 have he51:e5=g3+1:=by have:=HZ2.out;omega
 have HE:=hid hE;have HE51:=hid he51;have HZ3:=hid hz3
 have HB3:=hid (HB2.out.trans (hb3.mono (by have:=HG31.out;omega)))
 have HO3:=hid ((hb3.block r0 (by have:=HG31.out;omega)).trans HO2.out)
 have HG3b:=hid ((hb3.block g3 (by omega)).trans HG3.out)
 have HGH3:=hid ((hb3.block gh (by have:=HLT.out;omega)).trans HGH.out)
 have nh3:w3.cell? ⟨gh,72,none⟩=some (.int .u64 (N:Int)):=cell_n (S8.list_len _) H64.out (by rw [← HC2.out];exact HGH3.out)
 have HNH3:=hid nh3
 obtain ⟨G,hG⟩:∃ G,G=gapK N:=⟨_,rfl⟩
 have hGl:1≤G∧G≤64:=by rw [hG];exact gapK_le N
 have HGI:=hid (show (q+G) % 64=56 by rw [hG,HQ.out];exact gapK_is N)
 have HGL:=hid (show ∀ k,1≤k→k < G→(q+k) % 64 ≠ 56 from fun k h1 h2=>by rw [HQ.out];exact gapK_least N k h1 (by rw [← hG];exact h2))
 rw [← hG] at HE
 have HGG:=hid hG
 have HG64:=hid hGl
 clear he5 hw3 hz3 hb3 hE he51 nh3 hG hGl n3 nh hghz HB2 HO2 HGH HG3 HBK hw8
 go_loop [6] (fun v=>∃ k:Nat,1≤k∧k≤G∧v=.int .i64 k) (fun v=>G - (intOf v).toNat)
 case atStart=>exact ⟨1,Nat.le_refl _,HG64.out.1,rfl⟩
 case round =>
  obtain ⟨k,hk1,hkG,rfl⟩:=hrel
  have hmod2:((N:Nat):Int) % 64=(q:Int):=by have:=HQ.out;omega
  have hq64:q < 64:=by have:=HQ.out;omega
  have hk64:k≤64:=by have:=HG64.out;omega
  obtain ⟨r,hr⟩:∃ r,r=(q+k) % 64:=⟨_,rfl⟩
  have hr2:((q:Int)+(k:Int)) % 64=(r:Int):=by omega
  have HR:=hid hr
  have HK:=hid (And.intro hk1 hkG)
  have nh3:=HNH3.out
  by_cases hlt:k < G
  · have h1:(((r:Nat):Int) == 56)=false:=by have:=HGL.out k hk1 hlt;simp;omega
    have h2:(((r:Nat):Int) != 56)=true:=by have:=HGL.out k hk1 hlt;simp;omega
    have HLT2:=hid hlt
    clear hr hlt hk1 hkG
    go_wp2_with fail
    go_round
    case rel=>exact ⟨k+1,by omega,HLT2.out,by go_num⟩
    case measure=>have:=HLT2.out;simp [intOf];omega
  · obtain rfl:k=G:=by omega
    have h1:(((r:Nat):Int) == 56)=true:=by have:=HGI.out;simp;omega
    have h2:(((r:Nat):Int) != 56)=false:=by have:=HGI.out;simp;omega
    clear hr hlt hk1 hkG
    go_wp2_with fail
    clear nh3 hmod2 hr2 h1 h2
    go_loopw [31,7] (fun v _ wr=>∃ i:Nat,i≤8∧v=.int .i64 i∧wr.heap[e5]?=some (.cells (fillA (padL N) (k+i) 128) 333 (0,0))∧Below e5 w3 wr) (fun v _ _=>8 - (intOf v).toNat)
    case atStart=>exact ⟨0,by omega,rfl,HE.out,Below.refl _ _⟩
    case round =>
     obtain ⟨i,hi8,rfl,hh,hb⟩:=hrel
     have HH:=hid hh
     have HB:=hid hb
     by_cases hlt:i < 8
     · obtain ⟨p,hp⟩:∃ p,p=k+i:=⟨_,rfl⟩
       obtain ⟨s,hs⟩:∃ s,s=56 - 8 * i:=⟨_,rfl⟩
       have hki:(k:Int)+(i:Int)=(p:Int):=by omega
       have hs1:56 - 8 * (i:Int)=(s:Int):=by omega
       have hat:=padL_at N i hlt
       rw [← HGG.out,← hp,← hs] at hat
       obtain ⟨c,hc⟩:∃ c,c=UInt8.ofNat (8 * N / 2 ^ s):=⟨_,rfl⟩
       rw [← hc] at hat
       have hwb:IntKind.u8.wrap (8 * (N:Int) / 2 ^ s)=((c.toNat:Nat):Int):=by
        rw [hc];have:=wrap_byte (8 * N) s;push_cast at this ⊢;exact this
       rw [← hp] at hh
       have hsz:(fillA (padL N) p 128).size=128:=fillA_size _ _ _ (by rw [padL_len,← HGG.out];omega) (by omega)
       have hce:∃ v,wr.cell? ⟨e5,p,none⟩=some v:=⟨_,(cell_of_row wr e5 p _ _ _ hh).trans (Array.getElem?_eq_getElem (by rw [hsz];omega))⟩
       obtain ⟨v0,hv0⟩:=hce
       have hf0:=frozen_of_row wr e5 p _ _ hh
       have HSET:=hid (fillA_set (padL N) p 128 c hat (by omega))
       have HS:=hid hh
       have HP:=hid hp
       have HLT3:=hid hlt
       have hp128:p < 128:=by omega
       have hs56:s≤56:=by omega
       have hp0:(0:Int)≤(s:Int):=by omega
       have h9:decide ((i:Int) < 8)=true:=by simp;omega
       clear hat hc hh hb hs hsz hp hi8 hlt
       go_upto_region 11 with (fail)
       clear h9
       go_wp2_with fail
       have hs6:=heap_setCell_same wr e5 p _ _ (b8 c) HS.out
       rw [HSET.out] at hs6
       have HS6:=hid hs6
       clear hs6 hv0 hf0 hwb
       go_roundw
       case rel=>exact ⟨i+1,by have:=HLT3.out;omega,by go_num,(by rw [show k+(i+1)=p+1 by have:=HP.out;omega];exact HS6.out),HB.out.setCell (Nat.le_refl _) _⟩
       case measure=>have:=HLT3.out;simp [intOf];omega
     · obtain rfl:i=8:=by omega
       have h9:decide (((8:Nat):Int) < 8)=false:=by decide
       have hk8:((k:Int)+8).toNat=k+8:=by omega
       have hpl:(padL N).length=k+8:=by rw [padL_len,← HGG.out]
       have hsl:=fun wx=>slice_end wx e5 (k+8) (by omega) ((k:Int)+8) (by push_cast;rfl)
       have hM:HsAt wr g3 m:=⟨rs,H64.out,HRS.out,by rw [hb.block g3 (by have:=HE51.out;omega),HG3b.out,HC.out]⟩
       have hne3:g3 ≠ 3:=by have:=HG31.out;have:=HR0.out;omega
       have hsz3:3 < wr.heap.size:=by have:=hb.size;have:=HZ3.out;have:=HE51.out;have:=HG31.out;have:=HR0.out;omega
       have hrt:RoundTab wr:=fun i hi=>by
        rw [hb.cell (p:=⟨3,i,none⟩) (by show 3 < e5;have:=HE51.out;have:=HG31.out;have:=HR0.out;omega),HB3.out.cell (p:=⟨3,i,none⟩) (by show 3 < r0;have:=HR0.out;omega)]
        exact HT.out i hi
       have HWR:=hid (write_any wr g3 (some ⟨e5,0,none⟩) (k+8) 128 m (padL N) hM (r8_fill hh hpl (by omega) (by omega)) (fun x hx _=>by obtain rfl:=Option.some.inj hx;show g3 ≠ e5;have:=HE51.out;omega) (by have:=HN.out;omega) hrt hsz3 hne3)
       have HBW:=hid hb
       clear hlt hi8 hh hb HH HB hM hrt hpl hne3 hsz3
       go_upto_region 15 with ((go_at_call 179;(with_reducible refine HWR.out.mono ?_);rintro e w5 ⟨rfl,hw5,hg5⟩))
       have HW5:=hid hw5
       have HG5:=hid hg5
       clear hw5 hg5
       obtain ⟨d8,hd8⟩:∃ d8,d8=w5.heap.size:=⟨_,rfl⟩
       obtain ⟨o8,ho8⟩:∃ o8:Obj,o8=.cells #[.int .u8 0,.int .u8 0,.int .u8 0,.int .u8 0,.int .u8 0,.int .u8 0,.int .u8 0,.int .u8 0,.int .u8 0,.int .u8 0,.int .u8 0,.int .u8 0,.int .u8 0,.int .u8 0,.int .u8 0,.int .u8 0,.int .u8 0,.int .u8 0,.int .u8 0,.int .u8 0,.int .u8 0,.int .u8 0,.int .u8 0,.int .u8 0,.int .u8 0,.int .u8 0,.int .u8 0,.int .u8 0,.int .u8 0,.int .u8 0,.int .u8 0,.int .u8 0] 38:=⟨_,rfl⟩
       rw [← ho8,← hd8]
       have hb6:Below w5.heap.size w5 (w5.alloc o8):=(Below.refl _ _).alloc (Nat.le_refl _) _
       have hg6:(w5.alloc o8).heap[d8]?=some o8:=by rw [hd8];exact heap_alloc_new w5 _
       rw [← hd8] at hb6
       generalize hw6:w5.alloc o8=w6 at *
       have hd8l:e5 < d8:=by have:=HG5.out.size;have:=HBW.out.size;have:=HZ3.out;omega
       obtain ⟨S,hS⟩:∃ S,S=stOf (m++padL N):=⟨_,rfl⟩
       have hsha:shaP m=S.bytes:=by unfold shaP;rw [hS,HN.out]
       obtain ⟨rs6,h646,-,hbk6⟩:=HW5.out
       have hbk6:w6.heap[g3]?=some (.cells (stC S.list (tlH rs6 (m++padL N).length)) 332 (0,0)):=by rw [hb6.block g3 (by have:=HE51.out;omega),hbk6,hS];rfl
       have hcc:∀ i,i < 8→w6.cell? ⟨g3,i,none⟩=some (.int .u32 ((S.list.getD i 0).toNat:Int)):=fun i hi=>by
        rw [cell_of_row _ _ _ _ _ _ hbk6,stC_get _ _ _ (by rw [S8.list_len];exact hi)];rfl
       have c0:w6.cell? ⟨g3,0,none⟩=some (.int .u32 (S.a.toNat:Int)):=hcc 0 (by omega)
       have c1:w6.cell? ⟨g3,1,none⟩=some (.int .u32 (S.b.toNat:Int)):=hcc 1 (by omega)
       have c2:w6.cell? ⟨g3,2,none⟩=some (.int .u32 (S.c.toNat:Int)):=hcc 2 (by omega)
       have c3:w6.cell? ⟨g3,3,none⟩=some (.int .u32 (S.d.toNat:Int)):=hcc 3 (by omega)
       have c4:w6.cell? ⟨g3,4,none⟩=some (.int .u32 (S.e.toNat:Int)):=hcc 4 (by omega)
       have c5:w6.cell? ⟨g3,5,none⟩=some (.int .u32 (S.f.toNat:Int)):=hcc 5 (by omega)
       have c6:w6.cell? ⟨g3,6,none⟩=some (.int .u32 (S.g.toNat:Int)):=hcc 6 (by omega)
       have c7:w6.cell? ⟨g3,7,none⟩=some (.int .u32 (S.h.toNat:Int)):=hcc 7 (by omega)
       have HB6:=hid (HB3.out.trans (show Below r0 w3 w6 from (HBW.out.mono (by have:=HE51.out;have:=HG31.out;omega)).trans (((Below.refl r0 wr).grown HG5.out (by have:=HBW.out.size;have:=HZ3.out;have:=HE51.out;have:=HG31.out;omega) (fun k hk=>by rw [← Option.some.inj hk];have:=HG31.out;omega)).trans (hb6.mono (by have:=HE51.out;have:=HG31.out;omega)))))
       have HO6:=hid (show w6.heap[r0]?=some o1 from (hb6.block r0 (by have:=HE51.out;have:=HG31.out;omega)).trans ((HG5.out.block r0 (by have:=HBW.out.size;have:=HZ3.out;have:=HE51.out;have:=HG31.out;omega) (fun e=>by have:=Option.some.inj e;have:=HG31.out;omega)).trans ((HBW.out.block r0 (by have:=HE51.out;have:=HG31.out;omega)).trans HO3.out)))
       have HG6:=hid (show w6.heap[d8]?=some (.cells (fillA S.bytes 0 32) 38 (0,0)) by rw [hg6,ho8];exact congrArg (fun c=>some (Obj.cells c 38 (0,0))) (by unfold fillA;rfl))
       have HS:=hid hsha
       have HIX:=hid (idx8s S)
       have HD8:=hid hd8l
       have HZ6:=hid (show w6.heap.size=d8+1 by rw [← hw6,World.size_alloc,hd8])
       clear hd8 ho8 hb6 hg6 hw6 hd8l hS hsha hbk6 hcc h646 hsl hk8 h9
       go_wp2_with fail
       go_loopw [51,9,10] (fun v _ _ wr=>∃ i:Nat,i≤8∧v=.int .i64 i∧wr.heap[d8]?=some (.cells (fillA S.bytes (4 * i) 32) 38 (0,0))∧Below d8 w6 wr) (fun v _ _ _=>8 - (intOf v).toNat)
       case atStart=>exact ⟨0,by omega,rfl,HG6.out,Below.refl _ _⟩
       case round =>
        clear c0 c1 c2 c3 c4 c5 c6 c7
        rename World=>wo
        obtain ⟨i,hi8,rfl,hh,hb⟩:=hrel
        by_cases hlt:i < 8
        · have hix:=HIX.out i hlt
          obtain ⟨x,hx⟩:∃ x,x=S.list.getD i 0:=⟨_,rfl⟩
          rw [← hx] at hix
          have HX:=hid hx
          have HH:=hid hh
          have HB:=hid hb
          have HL:=hid hlt
          have h9:decide ((i:Int) < 8)=true:=by simp;omega
          clear hlt hi8 hh hb hx
          go_wp2_with fail
          clear h9 hix
          go_loopw [55,11] (fun v _ wr=>∃ j:Nat,j≤4∧v=.int .i64 j∧wr.heap[d8]?=some (.cells (fillA S.bytes (4 * i+j) 32) 38 (0,0))∧Below d8 w6 wr) (fun v _ _=>4 - (intOf v).toNat)
          case atStart=>exact ⟨0,by omega,rfl,HH.out,HB.out⟩
          case round =>
           obtain ⟨j,hj4,rfl,hh,hb⟩:=hrel
           by_cases hlt:j < 4
           · have hi:=HL.out
             obtain ⟨p,hp⟩:∃ p,p=4 * i+j:=⟨_,rfl⟩
             obtain ⟨s,hs⟩:∃ s,s=24 - 8 * j:=⟨_,rfl⟩
             have hki:4 * (i:Int)+(j:Int)=(p:Int):=by omega
             have hs1:24 - 8 * (j:Int)=(s:Int):=by omega
             have hat:=bytes_at S i j hi hlt
             rw [← HX.out,← hp,← hs] at hat
             obtain ⟨c,hc⟩:∃ c,c=UInt8.ofNat (x.toNat / 2 ^ s):=⟨_,rfl⟩
             rw [← hc] at hat
             have hwb:IntKind.u8.wrap ((x.toNat:Int) / 2 ^ s)=((c.toNat:Nat):Int):=by
              rw [hc];exact wrap_byte x.toNat s
             rw [← hp] at hh
             have hsz:(fillA S.bytes p 32).size=32:=fillA_size _ _ _ (by rw [S8.bytes_len];omega) (by omega)
             obtain ⟨v0,hv0⟩:∃ v,wr.cell? ⟨d8,p,none⟩=some v:=⟨_,(cell_of_row wr d8 p _ _ _ hh).trans (Array.getElem?_eq_getElem (by rw [hsz];omega))⟩
             have hf0:=frozen_of_row wr d8 p _ _ hh
             have HSET:=hid (fillA_set S.bytes p 32 c hat (by omega))
             have HS8:=hid hh
             have HB8:=hid hb
             have HP:=hid hp
             have HLT3:=hid hlt
             have hp128:p < 32:=by omega
             have hs56:s≤24:=by omega
             have hp0:(0:Int)≤(s:Int):=by omega
             have h9:decide ((j:Int) < 4)=true:=by simp;omega
             have hi7:i≤7:=by omega
             clear hat hc hh hb hs hsz hp hj4 hlt hi
             go_upto_region 21 with (fail)
             clear h9
             go_wp2_with fail
             have hs6:=heap_setCell_same wr d8 p _ _ (b8 c) HS8.out
             rw [HSET.out] at hs6
             have HS9:=hid hs6
             clear hs6 hv0 hf0 hwb
             go_roundw
             case rel=>exact ⟨j+1,by have:=HLT3.out;omega,by go_num,(by rw [show 4 * i+(j+1)=p+1 by have:=HP.out;omega];exact HS9.out),HB8.out.setCell (Nat.le_refl _) _⟩
             case measure=>have:=HLT3.out;simp [intOf];omega
           · obtain rfl:j=4:=by omega
             have h9:decide (((4:Nat):Int) < 4)=false:=by decide
             have HH2:=hid hh
             have HB2b:=hid hb
             have hi7:i≤7:=by have:=HL.out;omega
             clear hlt hj4 hh hb
             go_wp2_with fail
             go_roundw
             case rel=>exact ⟨i+1,by omega,by go_num,(by rw [show 4 * (i+1)=4 * i+4 by omega];exact HH2.out),HB2b.out⟩
             case measure=>simp [intOf];omega
        · obtain rfl:i=8:=by omega
          have h9:decide (((8:Nat):Int) < 8)=false:=by decide
          rw [show 4 * 8=32 from rfl,fillA_full _ _ (S8.bytes_len S)] at hh
          have hh:wo.heap[d8]?=some (.cells (dgA S.bytes) 38 (0,0)):=hh
          have HH:=hid hh
          have HB:=hid hb
          have hO:=(hb.block r0 (by have:=HD8.out;have:=HE51.out;have:=HG31.out;omega)).trans HO6.out
          rw [HO1.out] at hO
          have HTH:=hid (there_block hO)
          have HDS:=hid (show (dgA S.bytes).size=32 by rw [dgA_size,S8.bytes_len])
          have HGF:=hid (setCells_all hO (dgA S.bytes).toList (by rw [Array.length_toList,HDS.out];rfl))
          clear hlt hi8 hh hb hO
          go_upto_region 24 with (fail)
          clear h9
          refine wp_region_lit ?_
          refine wpList_load_row rfl 38 (.tmp 8) (by rfl) d8 (by rfl) 38 (dgA S.bytes) (0,0) _ HH.out Tryz.underlying38 rfl (by rw [HDS.out];exact info38) ?_
          refine wpList_store_mid rfl 38 (.tmp 2) (.tmp 71) (by rfl) r0 0 (dgA S.bytes) (by rfl) (by rfl) (by rw [HDS.out];exact HTH.out) (by rw [HDS.out];exact info38) (dgA_all _) ?_
          have HB9:=hid (HB6.out.trans ((HB.out.mono (by have:=HD8.out;have:=HE51.out;have:=HG31.out;omega)).grown (setCells_grown r0 (dgA S.bytes).toList 0 wo) (by have:=HB.out.size;have:=HZ6.out;have:=HD8.out;have:=HE51.out;have:=HG31.out;omega) (fun k hk=>by rw [← Option.some.inj hk];exact Nat.le_refl _)))
          generalize wo.setCells r0 0 (dgA S.bytes).toList=w9 at *
          obtain ⟨DD,hDD⟩:∃ DD,DD=dgA S.bytes:=⟨_,rfl⟩
          have hGF:w9.heap[r0]?=some (.cells DD 38 (0,0)):=by rw [hDD];have:=HGF.out;simpa using this
          have HGF9:=hid hGF
          have HDD:=hid hDD
          rw [← hDD]
          rw [← hDD] at HDS
          clear HTH HGF HH hGF hDD
          go_wp2_with fail
          refine bodyPost_ret (v:=.agg DD) (results_cell_row (p:=2) (ty:=38) rfl _ _ r0 38 DD (0,0) _ rfl HGF9.out Tryz.underlying38 rfl (by rw [HDS.out];exact info38)) rfl ⟨by rw [HS.out,HDD.out],?_⟩
          rw [← HR0.out]
          exact HB9.out
end
section
theorem zero5 (w:World):(zeroValue 5).run Tryz.prog w=.ok (.int .u8 0) w:=by kernel_rfl
theorem slice_arr (wx:World) (g k:Nat) (hk:k≤32) (x:Int) (hx:x=(k:Int)):(Instr.sliceAt 38 (.pointer (some ⟨g,0,none⟩)) (some (.int .i64 x)) none none).run Tryz.prog wx=.ok (.slice (some (if 32=k then ⟨g,0,none⟩ else ⟨g,k,none⟩)) (32 - k) (32 - k)) wx:=by
 subst hx
 have ht:Tryz.prog.underlying 38=some (.array (Tryz.prog.arrayLen 38) (Tryz.prog.elem 38)):=by kernel_rfl
 have hl:Tryz.prog.arrayLen 38=32:=by kernel_rfl
 have hs:(sizeOf (Tryz.prog.elem 38)).run Tryz.prog wx=.ok 1 wx:=by kernel_rfl
 rw [run_sliceAt_array_l wx 38 ⟨g,0,none⟩ ht .i64 (k:Int) (by omega) (by rw [hl];omega),hs,hl]
 simp only [Result.andThen,slicedAt,Int.toNat_natCast,Nat.mul_one,Addr.add_lit,Nat.zero_add]
theorem cutP'_eq (wd:Int) (d:List UInt8) (hd:d.length=32) (k:Nat) (hk:(k:Int)=min (max wd 1) 32):cutP' wd d=d.take k++List.replicate (32 - k) 0:=by
 unfold cutP'
 rw [hd]
 by_cases h:(max wd 1).toNat≤32
 · rw [show (max wd 1).toNat=k by omega]
 · rw [List.take_of_length_le (by omega),List.take_of_length_le (show d.length≤k by omega),show 32 - (max wd 1).toNat=32 - k by omega]
set_option maxHeartbeats 4000000
theorem cut_dg (w:World) (d:List UInt8) (hd:d.length=32) (wd:Int) (h0:-9223372036854775808≤wd) (h1:wd≤9223372036854775807) :
 Calls Tryz.prog 110 #[.agg (dgA d),.int .i64 wd] w fun e w'=>e=.returned (.agg (dgA (cutP' wd d)))∧Below w.heap.size w w':=by
 obtain ⟨k,hk⟩:∃ k:Nat,(k:Int)=min (max wd 1) 32:=⟨(min (max wd 1) 32).toNat,by omega⟩
 have hkr:1≤k∧k≤32:=by omega
 obtain ⟨D,hD⟩:∃ D,D=dgA d:=⟨_,rfl⟩
 obtain ⟨E,hE⟩:∃ E,E=dgA (cutP' wd d):=⟨_,rfl⟩
 rw [← hD,← hE]
 have HD:=hid hD;have HE:=hid hE;have HK:=hid hk;have HKR:=hid hkr;have HDL:=hid hd
 have HES:=hid (show E.size=32 by rw [hE,dgA_size,cutP'_len,hd])
 have HE1:=hid (show E.all (·.oneCell')=true by rw [hE];exact dgA_all _)
 clear hD hE hk hkr hd
 go_enter Tryz.func110,Tryz.ntmps110
 go_upto_region 1 with (fail)
 obtain ⟨o2,ho2⟩:∃ o2:Obj,o2=.cells #[.int .u8 0,.int .u8 0,.int .u8 0,.int .u8 0,.int .u8 0,.int .u8 0,.int .u8 0,.int .u8 0,.int .u8 0,.int .u8 0,.int .u8 0,.int .u8 0,.int .u8 0,.int .u8 0,.int .u8 0,.int .u8 0,.int .u8 0,.int .u8 0,.int .u8 0,.int .u8 0,.int .u8 0,.int .u8 0,.int .u8 0,.int .u8 0,.int .u8 0,.int .u8 0,.int .u8 0,.int .u8 0,.int .u8 0,.int .u8 0,.int .u8 0,.int .u8 0] 38:=⟨_,rfl⟩
 rw [← ho2]
 have hb1:Below w.heap.size w ((w.alloc (.cells D 38)).alloc o2):=((Below.refl _ _).alloc (Nat.le_refl _) _).alloc (by simp) _
 have hg0:((w.alloc (.cells D 38)).alloc o2).heap[w.heap.size]?=some (.cells D 38 (0,0)):=heap_alloc2_old w _ _
 have hg1:((w.alloc (.cells D 38)).alloc o2).heap[w.heap.size+1]?=some o2:=heap_alloc2_new w _ _
 have hz1:((w.alloc (.cells D 38)).alloc o2).heap.size=w.heap.size+2:=by simp
 generalize (w.alloc (.cells D 38)).alloc o2=w1 at *
 obtain ⟨b0,hb0⟩:∃ b0,b0=w.heap.size:=⟨_,rfl⟩
 rw [← hb0] at hb1 hg0 hg1 hz1 ⊢
 have hk1:=HKR.out
 have hl1:((d.map b8).take k).length=k:=by rw [List.length_take,List.length_map,HDL.out];omega
 have hg0':w1.heap[b0]?=some (.cells ((d.map b8).take k++(d.map b8).drop k).toArray 38 (0,0)):=by rw [List.take_append_drop,hg0,HD.out];rfl
 have hset:=setCells_whole b0 (List.replicate (32 - k) (.int .u8 0)) _ _ w1 38 hg0' (by rw [List.length_replicate,List.length_drop,List.length_map,HDL.out];omega)
 rw [hl1] at hset
 obtain ⟨w2,hw2⟩:∃ w2,w2=w1.setCells b0 k (List.replicate (32 - k) (.int .u8 0)):=⟨_,rfl⟩
 rw [← hw2] at hset
 have hE2:w2.heap[b0]?=some (.cells E 38 (0,0)):=by
  rw [hset,HE.out,cutP'_eq wd d HDL.out k HK.out]
  refine congrArg (fun c=>some (Obj.cells c 38 (0,0))) ?_
  rw [List.length_replicate,List.drop_of_length_le (by rw [List.length_drop,List.length_map,HDL.out];omega),List.append_nil]
  unfold dgA
  rw [List.map_append,List.map_take,List.map_replicate];rfl
 have hgr:=setCells_grown b0 (List.replicate (32 - k) (.int .u8 0)) k w1
 have hzs:=setCells_size b0 (List.replicate (32 - k) (.int .u8 0)) k w1
 rw [← hw2] at hgr hzs
 obtain ⟨A,hA⟩:∃ A:Addr,A=if 32=k then ⟨b0,0,none⟩ else ⟨b0,k,none⟩:=⟨_,rfl⟩
 obtain ⟨q,hq⟩:∃ q,q=32 - k:=⟨_,rfl⟩
 have hsl:∀ wx,(Instr.sliceAt 38 (.pointer (some ⟨b0,0,none⟩)) (some (.int .i64 (min (max wd 1) 32))) none none).run Tryz.prog wx=.ok (.slice (some A) q q) wx:=fun wx=>by
  rw [hA,hq];exact slice_arr wx b0 k (by omega) _ HK.out.symm
 have hcl:∀ ty,(Builtin.clear_ #[53] ty #[.slice (some A) q q]).run Tryz.prog w1=.ok (.tuple #[]) w2:=fun ty=>by
  rw [hw2,hA,hq]
  by_cases h:32=k
  · subst h;rfl
  · rw [if_neg h]
    exact Lib.run_clear_slice w1 53 5 ty (.int .u8 0) Tryz.underlying53 zero5 rfl rfl b0 k (32 - k) (32 - k) (by omega) (fun j hj=>by rw [cell_of_row _ _ _ _ _ _ hg0];rw [Array.getElem?_eq_getElem (by rw [HD.out,dgA_size,HDL.out];omega)];rfl) (fun j hj=>frozen_of_row w1 b0 (k+j) _ _ hg0)
 have HE2:=hid hE2
 have HO2:=hid (show w2.heap[b0+1]?=some o2 from (hgr.block (b0+1) (by omega) (fun e=>by have:=Option.some.inj e;omega)).trans hg1)
 have HB2:=hid (hb1.grown hgr (by omega) (fun k hk=>by rw [← Option.some.inj hk];exact Nat.le_refl _))
 have HZ2:=hid (show w2.heap.size=b0+2 by rw [hzs,hz1])
 have HB0:=hid hb0;have HOO:=hid ho2
 clear hset hw2 hE2 hgr hzs hA hq hg0' hg0 hg1 hz1 hb1 hl1 hk1 hb0 ho2
 go_upto_region 2 with (fail)
 refine wp_region_lit ?_
 refine wpList_load_row rfl 38 (.tmp 2) (by rfl) b0 (by rfl) 38 E (0,0) _ HE2.out Tryz.underlying38 rfl (by rw [HES.out];exact info38) ?_
 have hO:=HO2.out
 rw [HOO.out] at hO
 have HTH:=hid (there_block hO)
 have HGF:=hid (setCells_all hO E.toList (by rw [Array.length_toList,HES.out];rfl))
 clear hO
 refine wpList_store_mid rfl 38 (.tmp 4) (.tmp 9) (by rfl) (b0+1) 0 E (by rfl) (by rfl) (by rw [HES.out];exact HTH.out) (by rw [HES.out];exact info38) HE1.out ?_
 have HB9:=hid (HB2.out.grown (setCells_grown (b0+1) E.toList 0 w2) (by have:=HZ2.out;omega) (fun k hk=>by rw [← Option.some.inj hk];omega))
 generalize w2.setCells (b0+1) 0 E.toList=w9 at *
 have HGF9:=hid (show w9.heap[b0+1]?=some (.cells E 38 (0,0)) by have:=HGF.out;simpa using this)
 clear HTH HGF hsl hcl
 go_wp2_with fail
 refine bodyPost_ret (v:=.agg E) (results_cell_row (p:=4) (ty:=38) rfl _ _ (b0+1) 38 E (0,0) _ rfl HGF9.out Tryz.underlying38 rfl (by rw [HES.out];exact info38)) rfl ⟨rfl,?_⟩
 rw [← HB0.out]
 exact HB9.out
end
section
theorem r8_apart {w:World} {a:Option Addr} {n c:Nat} {p:List UInt8} (h:R8 w a n c p) {gh:Nat} (hg:w.heap.size≤gh):∀ x,a=some x→0 < n→gh ≠ x.block:=by
 intro x hx h0
 obtain ⟨b,off,e,hc⟩:=h.2.2.2 0 (by have:=h.1;omega)
 rw [hx] at e
 obtain rfl:=Option.some.inj e
 have:=World.block_lt_of_cell? w _ hc
 show gh ≠ b
 have:b < w.heap.size:=this
 omega
theorem rt_below {w w':World} {B:Nat} (h:RoundTab w) (hb:Below B w w') (h3:3 < B):RoundTab w':=fun i hi=>by
 rw [hb.cell (p:=⟨3,i,none⟩) h3];exact h i hi
def PartsAt (w:World) (a:Option Addr) (n:Nat) (ps:List (List UInt8)):Prop:=ps.length=n∧∀ i p,ps[i]?=some p→∃ b off ai ni ci,a=some ⟨b,off,none⟩∧w.cell? ⟨b,off+i,none⟩=some (.slice ai ni ci)∧R8 w ai ni ci p
theorem PartsAt.below {w w':World} {a:Option Addr} {n:Nat} {ps:List (List UInt8)} (h:PartsAt w a n ps) {B:Nat} (hb:Below B w w') (hB:w.heap.size≤B):PartsAt w' a n ps:=⟨h.1,fun i p hp=>by
 obtain ⟨b,off,ai,ni,ci,e,hc,hr⟩:=h.2 i p hp
 have hlt:=World.block_lt_of_cell? w _ hc
 exact ⟨b,off,ai,ni,ci,e,(hb.cell (Nat.lt_of_lt_of_le hlt hB)).trans hc,hr.belowB hB hb⟩⟩
theorem flat_take {ps:List (List UInt8)} {k:Nat} {p:List UInt8} (h:ps[k]?=some p):(ps.take (k+1)).flatten=(ps.take k).flatten++p:=by
 rw [List.take_add_one,h];simp
theorem flat_le {ps:List (List UInt8)} (k:Nat):(ps.take k).flatten.length≤ps.flatten.length:=by
 conv=>rhs;rw [← List.take_append_drop k ps,List.flatten_append,List.length_append]
 omega
set_option maxHeartbeats 8000000
theorem of_any (w:World) (wd:Int) (h0:-9223372036854775808≤wd) (h1:wd≤9223372036854775807) (dm:UInt8) (a:Option Addr) (n c:Nat) (ps:List (List UInt8)) (hp:PartsAt w a n ps) (hn:n≤1000) (hl:ps.flatten.length≤281474976710656) (ht:RoundTab w) (h3:3 < w.heap.size) :
 Calls Tryz.prog 185 #[.int .i64 wd,.int .i64 (dm.toNat:Int),.slice a n c] w fun e w'=>e=.returned (.agg (dgA (ofP wd (dm :: ps.flatten))))∧Below w.heap.size w w':=by
 have HP:=hid hp;have HL:=hid hl;have HT:=hid ht;have H01:=hid (And.intro h0 h1)
 have hdm:dm.toNat≤255:=by have:=dm.toNat_lt;omega
 have hdw:IntKind.u8.wrap (dm.toNat:Int)=(dm.toNat:Int):=IntWalk.u8_in _ (by omega)
 clear hp hl ht h0 h1
 go_enter Tryz.func185,Tryz.ntmps185
 go_upto_region 1 with (fail)
 obtain ⟨o1,ho1⟩:∃ o1:Obj,o1=.cells #[.int .u8 0,.int .u8 0,.int .u8 0,.int .u8 0,.int .u8 0,.int .u8 0,.int .u8 0,.int .u8 0,.int .u8 0,.int .u8 0,.int .u8 0,.int .u8 0,.int .u8 0,.int .u8 0,.int .u8 0,.int .u8 0,.int .u8 0,.int .u8 0,.int .u8 0,.int .u8 0,.int .u8 0,.int .u8 0,.int .u8 0,.int .u8 0,.int .u8 0,.int .u8 0,.int .u8 0,.int .u8 0,.int .u8 0,.int .u8 0,.int .u8 0,.int .u8 0] 38:=⟨_,rfl⟩
 obtain ⟨r0,hr0⟩:∃ r0,r0=w.heap.size:=⟨_,rfl⟩
 rw [← ho1,← hr0]
 have hb1:Below r0 w (w.alloc o1):=(Below.refl _ _).alloc (by omega) _
 have hg1:(w.alloc o1).heap[r0]?=some o1:=by rw [hr0];exact heap_alloc_new w _
 have hz1:(w.alloc o1).heap.size=r0+1:=by rw [hr0];simp
 generalize w.alloc o1=w1 at *
 have HB1:=hid hb1;have HG1:=hid hg1;have HZ1:=hid hz1;have HR0:=hid hr0;have HOO:=hid ho1
 clear hb1 hg1 hz1 ho1
 go_upto_region 2 with ((go_at_call 178;(with_reducible refine (newh_any w1).mono ?_);rintro e w2 ⟨gh,rfl,hgh,hs2,hb2⟩))
 have hr03:3 < r0:=by omega
 have HS2:=hid hs2
 have HGH:=hid (show r0+1≤gh∧gh < w2.heap.size from ⟨by have:=HZ1.out;omega,hs2.lt⟩)
 have HB2:=hid (show Below (r0+1) w1 w2 by have:=hb2;rw [HZ1.out] at this;exact this)
 clear hs2 hgh hb2 hr0
 obtain ⟨w3,hw3⟩:∃ w3,w3=w2.alloc (.cells #[.int .u8 (dm.toNat:Int)] 5):=⟨_,rfl⟩
 have hb3:Below (r0+1) w1 w3:=by rw [hw3];exact HB2.out.alloc (by have:=HGH.out;omega) _
 have hh3:HsAt w3 gh []:=HS2.out.keep (by rw [hw3];exact Below.heap_alloc _ _ _ HGH.out.2)
 have hr3:R8 w3 (some ⟨w2.heap.size,0,none⟩) 1 1 [dm]:=by rw [hw3];exact R8.lit w2 5 (0,0) [dm] 1 rfl (by omega) _ rfl
 have HWR:=hid (write_any w3 gh (some ⟨w2.heap.size,0,none⟩) 1 1 [] [dm] hh3 hr3 (fun x hx _=>by obtain rfl:=Option.some.inj hx;have:=HGH.out;show gh ≠ w2.heap.size;omega) (by show 0+1≤_;omega) (rt_below (rt_below HT.out HB1.out hr03) hb3 (by omega)) (by have:=hb3.size;have:=HZ1.out;omega) (by have:=HGH.out;omega))
 have HB3:=hid hb3
 have HW3:=hid hw3
 rw [hw3] at HWR HB3
 clear hb3 hh3 hr3 hw3
 go_upto_region 3 with ((with_reducible refine HWR.out.mono ?_);rintro e w4 ⟨rfl,hs4,hg4⟩)
 have HS4:=hid (show HsAt w4 gh ([]++[dm]++((ps.take 0).flatten)) by simpa using hs4)
 have HB4:=hid (show Below (r0+1) w1 w4 from HB3.out.grown hg4 (by have:=HB3.out.size;have:=HZ1.out;omega) (fun k hk=>by rw [← Option.some.inj hk];exact HGH.out.1))
 rw [← HR0.out]
 clear hs4 hg4 hdw
 have hnl:ps.length=n:=HP.out.1
 have HNL:=hid hnl
 clear hnl
 go_wp2_with fail
 go_loopw [18,9] (fun v _ wr=>∃ k:Nat,k≤n∧v=.int .i64 k∧HsAt wr gh ([]++[dm]++(ps.take k).flatten)∧Below (r0+1) w1 wr) (fun v _ _=>n - (intOf v).toNat)
 case atStart=>exact ⟨0,by omega,rfl,HS4.out,HB4.out⟩
 case round =>
  obtain ⟨k,hkn,rfl,hh,hb⟩:=hrel
  by_cases hlt:k < n
  · obtain ⟨p,hpk⟩:∃ p,ps[k]?=some p:=⟨_,List.getElem?_eq_getElem (by rw [HNL.out];exact hlt)⟩
    obtain ⟨b,off,ai,ni,ci,rfl,hc,hr⟩:=HP.out.2 k p hpk
    have hbw:Below r0 w wr:=HB1.out.trans (hb.mono (by omega))
    have hbl:b < r0:=by rw [HR0.out];exact World.block_lt_of_cell? w _ hc
    have hc2:wr.cell? ⟨b,off+k,none⟩=some (.slice ai ni ci):=(hbw.cell (show b < r0 from hbl)).trans hc
    have hr2:R8 wr ai ni ci p:=hr.belowB (by rw [HR0.out];exact Nat.le_refl _) hbw
    have hfl:=flat_take hpk
    have hle:=flat_le (ps:=ps) (k+1)
    have hln:=congrArg List.length hfl
    rw [List.length_append] at hln
    have hpl:=hr.1
    have HWR:=hid (write_any wr gh ai ni ci _ p hh hr2 (r8_apart hr (by have:=HGH.out;rw [← HR0.out];omega)) (by rw [List.length_append,List.length_append];show 0+1+_+ni≤_;have:=HL.out;omega) (rt_below HT.out hbw hr03) (by have:=hb.size;have:=HZ1.out;omega) (by have:=HGH.out;omega))
    have HFL:=hid hfl
    have HB:=hid hb
    have HLT:=hid hlt
    have h9:decide ((k:Int) < (n:Int))=true:=by simp;omega
    clear hpk hc hr hr2 hfl hle hln hpl hh hb hbw hkn
    go_wp2_with ((with_reducible refine HWR.out.mono ?_);rintro e w5 ⟨rfl,hs5,hg5⟩;have HS5:=hid hs5;have HG5:=hid hg5;clear hs5 hg5 hc2)
    go_roundw
    case rel=>exact ⟨k+1,by have:=HLT.out;omega,by go_num,(by rw [HFL.out,← List.append_assoc];exact HS5.out),HB.out.grown HG5.out (by have:=HB.out.size;have:=HZ1.out;omega) (fun k hk=>by rw [← Option.some.inj hk];exact HGH.out.1)⟩
    case measure=>have:=HLT.out;simp [intOf];omega
  · obtain rfl:k=n:=by omega
    have h9:decide ((k:Int) < (k:Int))=false:=by simp
    rw [List.take_of_length_le (by rw [HNL.out];exact Nat.le_refl _)] at hh
    have hbw:Below r0 w wr:=HB1.out.trans (hb.mono (by omega))
    have hM:[]++[dm]++ps.flatten=dm :: ps.flatten:=rfl
    rw [hM] at hh
    have HSM:=hid (sum_any wr gh _ hh (by rw [List.length_cons];have:=HL.out;omega) (rt_below HT.out hbw hr03) (by have:=hb.size;have:=HZ1.out;omega))
    have HB:=hid hb
    obtain ⟨E,hE⟩:∃ E,E=dgA (ofP wd (dm :: ps.flatten)):=⟨_,rfl⟩
    have HE:=hid hE
    have HES:=hid (show E.size=32 by rw [hE,dgA_size,ofP_len])
    have HE1:=hid (show E.all (·.oneCell')=true by rw [hE];exact dgA_all _)
    clear hlt hkn hh hb hbw hM hE
    go_upto_region 8 with (fail)
    clear h9
    go_wp2_with fail
    with_reducible refine HSM.out.mono ?_
    rintro e w5 ⟨rfl,hb5⟩
    have HB5:=hid hb5
    have HSH:=hid (shaP_len (dm :: ps.flatten))
    have HCT:=hid (cut_dg w5 (shaP (dm :: ps.flatten)) HSH.out wd H01.out.1 H01.out.2)
    clear hb5
    go_wp2_with fail
    with_reducible refine HCT.out.mono ?_
    rintro e w6 ⟨rfl,hb6⟩
    rw [show dgA (cutP' wd (shaP (dm :: ps.flatten)))=E from HE.out.symm]
    have hbb:Below (r0+1) w1 w6:=HB.out.trans ((HB5.out.mono (by have:=HB.out.size;have:=HZ1.out;omega)).trans (hb6.mono (by have:=HB5.out.size;have:=HB.out.size;have:=HZ1.out;omega)))
    have HO:=hid ((hbb.block r0 (Nat.lt_succ_self _)).trans HG1.out)
    have HBB:=hid (HB1.out.trans (hbb.mono (Nat.le_succ _)))
    have HSZ:=hid (show r0≤w6.heap.size by have:=hbb.size;have:=HZ1.out;omega)
    clear hb6 hbb
    have hO:=HO.out
    rw [HOO.out] at hO
    have HTH:=hid (there_block hO)
    have HGF:=hid (setCells_all hO E.toList (by rw [Array.length_toList,HES.out];rfl))
    clear hO
    go_wp2_with (refine wpList_store_mid rfl 38 (.tmp 6) (.tmp 29) (by rfl) r0 0 E (by rfl) (by rfl) (by rw [HES.out];exact HTH.out) (by rw [HES.out];exact info38) HE1.out ?_)
    have HB9:=hid (HBB.out.grown (setCells_grown r0 E.toList 0 w6) HSZ.out (fun k hk=>by rw [← Option.some.inj hk];exact Nat.le_refl _))
    generalize w6.setCells r0 0 E.toList=w9 at *
    have HGF9:=hid (show w9.heap[r0]?=some (.cells E 38 (0,0)) by have:=HGF.out;simpa using this)
    clear HTH HGF
    refine bodyPost_ret (v:=.agg E) (results_cell_row (p:=6) (ty:=38) rfl _ _ r0 38 E (0,0) _ rfl HGF9.out Tryz.underlying38 rfl (by rw [HES.out];exact info38)) rfl ⟨by rw [HE.out],?_⟩
    rw [← HR0.out]
    exact HB9.out
end
end Go.Proofs.YtgkehahklccacaaGreatDoor
