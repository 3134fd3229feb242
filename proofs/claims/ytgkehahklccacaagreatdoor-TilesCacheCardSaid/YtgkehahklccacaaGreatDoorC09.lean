import Derived.Test.YtgkehahklccacaaGreatDoorC08
import Derived.Laws.CopyOwn
import Derived.Deep.RegionHeld3
import Derived.IntWalk
import Derived.Deep.MidRow
import Derived.BigGuardPart
import Derived.BigQuiet
import Derived.Deep.QuietTactic
import Derived.Test.YtgkehahklccacaaGreatDoorCL1
import Derived.Test.YtgkehahklccacaaGreatDoorC03
namespace Go.Proofs.YtgkehahklccacaaGreatDoor
open Go Go.RowKit
open Go.Lib (hid)
set_option maxRecDepth 100000
set_option maxHeartbeats 1000000
set_option linter.unusedVariables false
set_option linter.unusedSimpArgs false
section
set_option maxHeartbeats 4000000
theorem left_any (w:World) (gr:Nat) (a:Option Addr) (n c:Nat) (l:List UInt8) (p:Nat) (h:RdX w gr a n c l p) (hp:p≤l.length) :
 Calls Tryz.prog 226 #[.pointer (some ⟨gr,0,none⟩)] w fun e w'=>e=.returned (.int .i64 ((l.length:Int) - (p:Int)))∧∃ k,w'=w.drewN k:=by
 obtain ⟨hh,hr,hap,hn⟩:=h
 have hnl:=hr.1
 have k0:w.cell? ⟨gr,0,none⟩=some (.slice a n c):=by rw [cell_of_row _ _ _ _ _ _ hh];rfl
 have k1:w.cell? ⟨gr,1,none⟩=some (.int .i64 (p:Int)):=by rw [cell_of_row _ _ _ _ _ _ hh];rfl
 have hw1:IntKind.i64.wrap ((n:Int) - (p:Int))=(n:Int) - (p:Int):=IntWalk.i64_in _ (by omega)
 have HNL:=hid hnl
 clear hr hap hh hnl hn hp
 go_enter Tryz.func226,Tryz.ntmps226
 go_wp2_with fail
 go_quiet (fail)
 go_wp2_with fail
 go_ret
 exact ⟨by rw [HNL.out];rfl,_,rfl⟩
theorem done_any (w:World) (gr:Nat) (a:Option Addr) (n c:Nat) (l:List UInt8) (h:RdX w gr a n c l l.length) :
 Calls Tryz.prog 177 #[.pointer (some ⟨gr,0,none⟩)] w fun e w'=>e=.returned (.int .i64 0)∧∃ k,w'=w.drewN k:=by
 have HL:=hid (left_any w gr a n c l l.length h (Nat.le_refl _))
 obtain ⟨hh,hr,hap,hn⟩:=h
 have k2:w.cell? ⟨gr,2,none⟩=some (.int .i64 0):=by rw [cell_of_row _ _ _ _ _ _ hh];rfl
 clear hr hap hh hn
 go_enter Tryz.func177,Tryz.ntmps177
 go_wp2_with (go_at_call 226;((with_reducible refine HL.out.mono ?_);rintro e w' ⟨rfl,nn,rfl⟩))
 go_ret
 exact ⟨rfl,_,rfl⟩
def dgOf (x:List UInt8):Dg:=⟨(x++List.replicate 32 0).take 32,by simp⟩
theorem dgOf_eq (x:List UInt8) (h:x.length=32):(dgOf x).1=x:=by
 show (x++_).take 32=x
 rw [List.take_append_of_le_length (by omega),List.take_of_length_le (by omega)]
def dsOf (l:List UInt8) (p n:Nat):List Dg:=(List.range n).map fun i=>dgOf ((l.drop (p+32 * i)).take 32)
theorem dsOf_len (l:List UInt8) (p n:Nat):(dsOf l p n).length=n:=by simp [dsOf]
theorem dsOf_take (l:List UInt8) (p n k:Nat) (h:k < n):(dsOf l p n).take (k+1)=(dsOf l p n).take k++[dgOf ((l.drop (p+32 * k)).take 32)]:=by
 rw [List.take_add_one]
 congr 1
 unfold dsOf
 rw [List.getElem?_map,List.getElem?_range h];rfl
theorem sl23:Sl Tryz.prog 23 38 (.agg #[.int .u8 0,.int .u8 0,.int .u8 0,.int .u8 0,.int .u8 0,.int .u8 0,.int .u8 0,.int .u8 0,.int .u8 0,.int .u8 0,.int .u8 0,.int .u8 0,.int .u8 0,.int .u8 0,.int .u8 0,.int .u8 0,.int .u8 0,.int .u8 0,.int .u8 0,.int .u8 0,.int .u8 0,.int .u8 0,.int .u8 0,.int .u8 0,.int .u8 0,.int .u8 0,.int .u8 0,.int .u8 0,.int .u8 0,.int .u8 0,.int .u8 0,.int .u8 0]) 32 32:=⟨Tryz.underlying23,by kernel_rfl,rfl,by decide⟩
theorem flatE_len:∀ ds:List Dg,(ds.flatMap dgE).length=ds.length * 32:=fun ds=>flat_len dgE 32 dgE_len ds
set_option maxHeartbeats 8000000
theorem digests_any (w:World) (gr:Nat) (a:Option Addr) (n c:Nat) (l:List UInt8) (p:Nat) (h:RdX w gr a n c l p) (hp:p+8192≤l.length) :
 Calls Tryz.prog 175 #[.pointer (some ⟨gr,0,none⟩),.int .i64 256] w fun e w'=>∃ gl,e=.returned (.slice (some ⟨gl,0,none⟩) 256 256)∧w.heap.size≤gl∧DS w' (some ⟨gl,0,none⟩) 256 256 (dsOf l p 256)∧RdX w' gr a n c l (p+8192)∧w.grownBy w' (some gr):=by
 have HH:=hid h
 have hgl:=h.lt
 obtain ⟨hh,hr,hap,hn⟩:=h
 have hnl:=hr.1
 have k0:w.cell? ⟨gr,0,none⟩=some (.slice a n c):=by rw [cell_of_row _ _ _ _ _ _ hh];rfl
 have k1:w.cell? ⟨gr,1,none⟩=some (.int .i64 (p:Int)):=by rw [cell_of_row _ _ _ _ _ _ hh];rfl
 have k2:w.cell? ⟨gr,2,none⟩=some (.int .i64 0):=by rw [cell_of_row _ _ _ _ _ _ hh];rfl
 have HP:=hid (show p+8192≤l.length∧l.length=n∧n≤1000000000000 from ⟨hp,hnl.symm ▸ rfl,hn⟩)
 clear hr hap hh hnl hn hp
 go_enter Tryz.func175,Tryz.ntmps175
 go_upto_region 4 with (fail)
 obtain ⟨o1,ho1⟩:∃ o1:Obj,o1=.cells #[.int .u8 0,.int .u8 0,.int .u8 0,.int .u8 0,.int .u8 0,.int .u8 0,.int .u8 0,.int .u8 0,.int .u8 0,.int .u8 0,.int .u8 0,.int .u8 0,.int .u8 0,.int .u8 0,.int .u8 0,.int .u8 0,.int .u8 0,.int .u8 0,.int .u8 0,.int .u8 0,.int .u8 0,.int .u8 0,.int .u8 0,.int .u8 0,.int .u8 0,.int .u8 0,.int .u8 0,.int .u8 0,.int .u8 0,.int .u8 0,.int .u8 0,.int .u8 0] 38:=⟨_,rfl⟩
 rw [← ho1]
 have hb1:Below w.heap.size w (w.alloc o1):=(Below.refl _ _).alloc (Nat.le_refl _) _
 have l0:=keepR hb1 k0
 have l1:=keepR hb1 k1
 generalize w.alloc o1=w1 at *
 have hw1:IntKind.i64.wrap ((n:Int) - (p:Int))=(n:Int) - (p:Int):=IntWalk.i64_in _ (by have:=HP.out;omega)
 obtain ⟨t,ht⟩:∃ t:Nat,t=(n - p) / 32:=⟨_,rfl⟩
 have htd:((n:Int) - (p:Int)).tdiv 32=(t:Int):=by
  have:=HP.out
  rw [show (n:Int) - (p:Int)=((n - p:Nat):Int) by omega,ht]
  rfl
 have htd2:((n:Int) - (p:Int)) / 32=(t:Int):=by have:=HP.out;omega
 have hgt:decide ((t:Int) < 256)=false:=by have:=HP.out;simp;omega
 have htb:t≤1000000000000:=by have:=HP.out;omega
 have hwt:IntKind.i64.wrap (t:Int)=(t:Int):=IntWalk.i64_in _ (by omega)
 have HB1:=hid hb1
 clear ht k0 k1 k2 hb1 ho1
 go_quiet (fail)
 have HB2:=hid (below_drewN HB1.out nq)
 clear l0 l1 hw1 htd htd2 hgt hwt htb
 generalize w1.drewN nq=w2 at *
 go_upto_region 8 with (refine L_make rfl (.tmp 32) (.tmp 32) 23 (by rfl) sl23 w2.heap.size .i64 .i64 256 256 (by rfl) (by rfl) rfl (by omega) (by unfold maxLen;omega) (Nat.le_refl _) (fun w3 ho3 hg3=>?_))
 obtain ⟨gl,hgle⟩:∃ gl,gl=w2.heap.size:=⟨_,rfl⟩
 rw [← hgle] at ho3 ⊢
 obtain ⟨-,hx⟩:=ho3
 have hcur:∃ rst:List Value,rst.length=32 * (256 - 0)∧w3.heap[gl]?=some (.cells (((dsOf l p 256).take 0).flatMap dgE++rst).toArray 38 (0,0)):=by
  rcases hx with ⟨hv,-⟩ | ⟨g,cap,cur,hv,-,hc,-,-,hs,-⟩
  · cases hv
  · have:=Value.slice.inj hv
    have e1:=this.1
    have e3:=this.2.2
    cases e1
    subst e3
    exact ⟨cur.toList,by simpa using hs,by simpa using hc⟩
 have hb3:Below w.heap.size w w3:=HB2.out.grown hg3 HB2.out.size (by intro k hk;cases hk)
 have hgw:w.heap.size≤gl:=by rw [hgle];exact HB2.out.size
 have HRX:=hid (HH.out.below hb3)
 have HG3:=hid (show w.grownBy w3 (some gr) from ⟨hb3.os,hb3.tape,hb3.output,hb3.size,fun k hk _=>hb3.block k hk⟩)
 have HCUR:=hid hcur
 have HGW:=hid hgw
 clear hx hcur hb3 hgle hgw hg3
 go_wp2_with fail
 go_loopw [36,7] (fun v _ wr=>∃ k:Nat,k≤256∧v=.int .i64 k∧(∃ rst:List Value,rst.length=32 * (256 - k)∧wr.heap[gl]?=some (.cells (((dsOf l p 256).take k).flatMap dgE++rst).toArray 38 (0,0)))∧RdX wr gr a n c l (p+32 * k)∧w.grownBy wr (some gr)) (fun v _ _=>256 - (intOf v).toNat)
 case atStart=>exact ⟨0,by omega,rfl,HCUR.out,HRX.out,HG3.out⟩
 case round =>
  obtain ⟨k,hk,rfl,hcur,hrx,hg⟩:=hrel
  have HG:=hid hg
  have HC:=hid hcur
  have HRD:=hid hrx
  by_cases hlt:k < 256
  · have HDA:=hid (digest_any wr gr a n c l (p+32 * k) hrx (by have:=HP.out;omega))
    have HLT:=hid hlt
    have h9:decide ((k:Int) < 256)=true:=by simp;omega
    clear hk hcur hrx hg hlt
    have hk7:k≤255:=by have:=HLT.out;omega
    go_upto_region 11 with (fail)
    clear h9
    go_wp2_with fail
    with_reducible refine HDA.out.mono ?_
    rintro e w4 ⟨rfl,hrx4,hg4⟩
    obtain ⟨rst,hrl,hcc⟩:=HC.out
    have hgl4:w4.heap[gl]?=some (.cells (((dsOf l p 256).take k).flatMap dgE++rst).toArray 38 (0,0)):=(hg4.block gl ((Array.getElem?_eq_some_iff.1 hcc).1) (fun e=>by have:=Option.some.inj e;have:=HGW.out;omega)).trans hcc
    obtain ⟨E,hE⟩:∃ E,E=dgA ((l.drop (p+32 * k)).take 32):=⟨_,rfl⟩
    have hdl:((l.drop (p+32 * k)).take 32).length=32:=by rw [List.length_take,List.length_drop];have:=HP.out;have:=HLT.out;omega
    have HES:=hid (show E.size=32 by rw [hE,dgA_size,hdl])
    have HE1:=hid (show E.all (·.oneCell')=true by rw [hE];exact dgA_all _)
    have hpl:(((dsOf l p 256).take k).flatMap dgE).length=k * 32:=by rw [flatE_len,List.length_take,dsOf_len,Nat.min_eq_left (by have:=HLT.out;omega)]
    have hsw:=setCells_whole gl E.toList _ _ w4 38 hgl4 (by rw [Array.length_toList,HES.out,hrl];have:=HLT.out;omega)
    rw [hpl] at hsw
    have HTH:=hid (show w4.there gl (k * 32) E.size from fun j hj=>by
     have h0:=there_block hgl4
     have:=h0 (k * 32+j) (by rw [List.size_toArray,List.length_append,hpl,hrl];have:=HLT.out;have:=HES.out;omega)
     rwa [Nat.zero_add] at this)
    have HSW:=hid hsw
    have hgs:=setCells_grown gl E.toList (k * 32) w4
    have HGS:=hid hgs
    have HE:=hid hE
    have HRX4:=hid hrx4;have HG4:=hid hg4;have HRL:=hid hrl;have HDL:=hid hdl
    have HGL4:=hid (Array.getElem?_eq_some_iff.1 hgl4).1
    rw [← hE]
    clear hrx4 hg4 hcc hgl4 hE hpl hsw hgs hrl hdl
    go_wp2_with (refine wpList_store_mid rfl 38 (.tmp 43) (.tmp 42) (by rfl) gl (k * 32) E (by rfl) (by rfl) HTH.out (by rw [HES.out];exact info38) HE1.out ?_)
    have hG4:=grown_trans HG.out HG4.out
    have hgle:=HGW.out
    have hgk:w.grownBy (w4.setCells gl (k * 32) E.toList) (some gr):=⟨HGS.out.os.trans hG4.os,HGS.out.tape.trans hG4.tape,HGS.out.output.trans hG4.output,Nat.le_trans hG4.size HGS.out.size,fun i hi hne=>(HGS.out.block i (Nat.lt_of_lt_of_le hi hG4.size) (fun e=>by have:=Option.some.inj e;omega)).trans (hG4.block i hi hne)⟩
    have hrx5:RdX (w4.setCells gl (k * 32) E.toList) gr a n c l (p+32 * (k+1)):=HH.out.grown hgk ((HGS.out.block gr (Nat.lt_of_lt_of_le hgl hG4.size) (fun e=>by have:=Option.some.inj e;omega)).trans (by rw [show p+32 * (k+1)=p+32 * k+32 by omega];exact HRX4.out.1))
    have hcc5:∃ rst':List Value,rst'.length=32 * (256 - (k+1))∧(w4.setCells gl (k * 32) E.toList).heap[gl]?=some (.cells (((dsOf l p 256).take (k+1)).flatMap dgE++rst').toArray 38 (0,0)):=by
     refine ⟨rst.drop 32,by rw [List.length_drop,HRL.out];have:=HLT.out;omega,?_⟩
     rw [HSW.out,dsOf_take l p 256 k HLT.out,List.flatMap_append,Array.length_toList,HES.out]
     have:E.toList=[dgOf ((l.drop (p+32 * k)).take 32)].flatMap dgE:=by
      rw [HE.out]
      simp [dgA,dgE,dgOf_eq _ HDL.out]
     rw [this]
    have HA:=hid hgk;have HB:=hid hrx5;have HC5:=hid hcc5
    clear hG4 hgle hgk hrx5 hcc5
    go_roundw
    case rel=>exact ⟨k+1,by have:=HLT.out;omega,by go_num,HC5.out,HB.out,HA.out⟩
    case measure=>have:=HLT.out;simp [intOf];omega
  · obtain rfl:k=256:=by omega
    have h9:decide (((256:Nat):Int) < 256)=false:=by decide
    obtain ⟨rst,hrl,hcc⟩:=hcur
    have hnil:rst=[]:=List.eq_nil_of_length_eq_zero (by rw [hrl])
    rw [hnil,List.append_nil,List.take_of_length_le (by rw [dsOf_len];exact Nat.le_refl _)] at hcc
    have HDS:=hid (show DS wr (some ⟨gl,0,none⟩) 256 256 (dsOf l p 256) from ⟨dsOf_len _ _ _,Nat.le_refl _,by omega,fun i x hx=>⟨gl,0,rfl,fun j v hv=>by
     rw [cell_of_row _ _ _ _ _ _ hcc,Nat.zero_add,List.getElem?_toArray]
     exact flat_get dgE 32 dgE_len _ i x hx j v hv⟩⟩)
    clear hlt hk hcc hrl hnil hrx hg HC
    go_wp2_with fail
    go_ret
    exact ⟨gl,rfl,HGW.out,HDS.out,HRD.out,HG.out⟩
end
section
theorem bitAux_lt:∀ (f x:Nat),x < 2 ^ f→x < 2 ^ Lib.bitLenAux f x
 | 0,x,h=>by simpa [Lib.bitLenAux] using h
 | f+1,x,h=>by
   unfold Lib.bitLenAux
   split
   · omega
   · have:=bitAux_lt f (x / 2) (by rw [Nat.pow_succ] at h;omega)
     rw [Nat.add_comm,Nat.pow_succ];omega
theorem bitAux_le:∀ (f x:Nat),x < 2 ^ f→0 < x→0 < Lib.bitLenAux f x∧2 ^ (Lib.bitLenAux f x - 1)≤x
 | 0,x,h,h0=>by simp at h;omega
 | f+1,x,h,h0=>by
   unfold Lib.bitLenAux
   rw [if_neg (by omega)]
   refine ⟨by omega,?_⟩
   rw [Nat.add_sub_cancel_left]
   by_cases h1:x / 2=0
   · rw [h1]
     have:Lib.bitLenAux f 0=0:=by cases f <;> simp [Lib.bitLenAux]
     rw [this];simp;omega
   · obtain ⟨a,b⟩:=bitAux_le f (x / 2) (by rw [Nat.pow_succ] at h;omega) (by omega)
     have:2 ^ Lib.bitLenAux f (x / 2)=2 ^ (Lib.bitLenAux f (x / 2) - 1) * 2:=by rw [← Nat.pow_succ];congr 1;omega
     omega
theorem bitAux_max:∀ (f x:Nat),Lib.bitLenAux f x≤f
 | 0,x=>by simp [Lib.bitLenAux]
 | f+1,x=>by
   unfold Lib.bitLenAux
   split
   · omega
   · have:=bitAux_max f (x / 2);omega
def leftP (n:Nat):Nat:=2 ^ (Lib.bitLen (n - 1) - 1)
theorem leftP_lt (n:Nat) (h:2≤n) (hn:n≤9223372036854775807):1≤leftP n∧leftP n < n:=by
 obtain ⟨a,b⟩:=bitAux_le 64 (n - 1) (by omega) (by omega)
 unfold leftP Lib.bitLen
 exact ⟨Nat.pow_pos (by omega),by omega⟩
set_option maxHeartbeats 4000000
theorem tleft_any (w:World) (n:Nat) (h:2≤n) (hn:n≤1099511627776):Calls Tryz.prog 144 #[.int .i64 (n:Int)] w fun e w'=>e=.returned (.int .i64 (leftP n:Int))∧w=w':=by
 have hl:Lib.bitLen (n - 1)≤64:=bitAux_max 64 _
 have hl0:0 < Lib.bitLen (n - 1):=(bitAux_le 64 (n - 1) (by omega) (by omega)).1
 have hll:=leftP_lt n h (by omega)
 have HC:=hid (Any.bits_Len Tryz.lays125 ((n:Int) - 1) w (by omega) (by omega))
 have hnn:((n:Int) - 1).toNat=n - 1:=by omega
 rw [hnn] at HC
 obtain ⟨q,hq⟩:∃ q,q=Lib.bitLen (n - 1) - 1:=⟨_,rfl⟩
 have hb:((Lib.bitLen (n - 1):Nat):Int) - 1=(q:Int):=by omega
 have hlp:leftP n=2 ^ q:=by unfold leftP;rw [hq]
 have hq40:q≤40:=by
  have h1:=(bitAux_le 64 (n - 1) (by omega) (by omega)).2
  have h2:2 ^ q≤n - 1:=by rw [hq];exact h1
  by_cases hc:q≤40
  · exact hc
  · have:2 ^ 41≤2 ^ q:=Nat.pow_le_pow_right (by omega) (by omega)
    omega
 rw [hlp]
 rw [hlp] at hll
 have hw1:IntKind.i64.wrap (2 ^ q)=((2 ^ q:Nat):Int):=by
  have:(2:Int) ^ q=((2 ^ q:Nat):Int):=by push_cast;rfl
  rw [this];exact IntWalk.i64_in _ (by omega)
 have hw2:IntKind.u64.wrap ((n:Int) - 1)=(n:Int) - 1:=by
  simp [IntKind.wrap,IntKind.bits,IntKind.signed];omega
 clear hnn hlp hq
 obtain ⟨b,hbb⟩:∃ b,b=Lib.bitLen (n - 1):=⟨_,rfl⟩
 rw [← hbb] at hb HC hl hl0
 clear hbb
 go_enter Tryz.func144,Tryz.ntmps144
 go_wp2_with (go_at_call 112;(refine HC.out.mono ?_);rintro e w' ⟨rfl,rfl⟩)
 go_ret
 exact ⟨by push_cast;rfl,rfl⟩
theorem slice_toD (wx:World) (a:Option Addr) (n c k:Nat) (hk:k≤c):(Instr.slice 23 (.slice a n c) none (some (.int .i64 (k:Int))) none).run Tryz.prog wx=.ok (.slice a k c) wx:=by
 obtain ⟨i,hi,hz0,hz1,hz2⟩:=info_parts sl23.inf
 have he:Tryz.prog.elem 23=38:=by simp [Program.elem,sl23.und]
 have h1:Tryz.prog.underlying 23=some (.slice (Tryz.prog.elem 23)):=by rw [he];exact sl23.und
 have h2:(sizeOf (Tryz.prog.elem 23)).run Tryz.prog wx=.ok 32 wx:=by rw [he];simp [sizeOf,typeInfo,hi,hz1]
 rw [run_slice_h wx 23 a n c h1 .i64 k (by omega) (by omega),h2]
 have e:a.map (·.add 0)=a:=by cases a with | none=>rfl | some x=>cases x;simp [Addr.add]
 simp [Result.andThen,sliced,e]
def dropD (a:Option Addr) (k c:Nat):Option Addr:=if c=k then a else a.map (·.add (k * 32))
theorem slice_fromD (wx:World) (a:Option Addr) (n c k:Nat) (hk:k≤n):(Instr.slice 23 (.slice a n c) (some (.int .i64 (k:Int))) none none).run Tryz.prog wx=.ok (.slice (dropD a k c) (n - k) (c - k)) wx:=by
 obtain ⟨i,hi,hz0,hz1,hz2⟩:=info_parts sl23.inf
 have he:Tryz.prog.elem 23=38:=by simp [Program.elem,sl23.und]
 have h1:Tryz.prog.underlying 23=some (.slice (Tryz.prog.elem 23)):=by rw [he];exact sl23.und
 have h2:(sizeOf (Tryz.prog.elem 23)).run Tryz.prog wx=.ok 32 wx:=by rw [he];simp [sizeOf,typeInfo,hi,hz1]
 rw [run_slice_l wx 23 a n c h1 .i64 k (by omega) (by omega),h2]
 simp [Result.andThen,sliced,dropD]
theorem DS.take {w:World} {a:Option Addr} {n c:Nat} {ds:List Dg} (h:DS w a n c ds) (k:Nat) (hk:k≤n):DS w a k c (ds.take k):=by
 obtain ⟨h1,h2,h3,h4⟩:=h
 refine ⟨by rw [List.length_take];omega,by omega,by omega,fun i x hx=>?_⟩
 rw [List.getElem?_take] at hx
 split at hx
 · exact h4 i x hx
 · cases hx
theorem DS.drop {w:World} {a:Option Addr} {n c:Nat} {ds:List Dg} (h:DS w a n c ds) (k:Nat) (hk:k≤n):DS w (dropD a k c) (n - k) (c - k) (ds.drop k):=by
 obtain ⟨h1,h2,h3,h4⟩:=h
 refine ⟨by rw [List.length_drop];omega,by omega,by omega,fun i x hx=>?_⟩
 rw [List.getElem?_drop] at hx
 obtain ⟨b,off,e,hc⟩:=h4 (k+i) x hx
 have hlt:=(List.getElem?_eq_some_iff.1 hx).1
 refine ⟨b,off+k * 32,?_,fun j v hj=>?_⟩
 · unfold dropD
   rw [if_neg (by omega),e]
   simp [Addr.add_lit]
 · have:=hc j v hj
   rwa [show off+k * 32+i * 32+j=off+(k+i) * 32+j by omega]
theorem DS.below {w w':World} {a:Option Addr} {n c:Nat} {ds:List Dg} (h:DS w a n c ds) (hb:Below w.heap.size w w'):DS w' a n c ds:=RS.below h hb
def nodeD (wd:Int) (l r:Dg):Dg:=⟨nodeP wd l.1 r.1,ofP_len _ _⟩
def nothingD (wd:Int):Dg:=⟨cutP' wd (shaP []),by rw [cutP'_len,shaP_len]⟩
def rootF:Nat→Int→List Dg→Dg
 | 0,wd,_=>nothingD wd
 | f+1,wd,ds=>match ds with
   | []=>nothingD wd
   | [d]=>d
   | d :: e :: r=>nodeD wd (rootF f wd ((d :: e :: r).take (leftP (d :: e :: r).length))) (rootF f wd ((d :: e :: r).drop (leftP (d :: e :: r).length)))
def rootP (wd:Int) (ds:List Dg):Dg:=rootF ds.length wd ds
def RootC (f:Nat):Prop:=∀ (w:World) (wd:Int) (a:Option Addr) (n c:Nat) (ds:List Dg),-9223372036854775808≤wd→wd≤9223372036854775807→DS w a n c ds→n≤f→n≤1000000→RoundTab w→3 < w.heap.size →
 Calls Tryz.prog 77 #[.int .i64 wd,.slice a n c] w fun e w'=>e=.returned (.agg (dgA (rootF f wd ds).1))∧Below w.heap.size w w'
theorem root_0 (w:World) (wd:Int) (h0:-9223372036854775808≤wd) (h1:wd≤9223372036854775807) (a:Option Addr) (c:Nat) (ht:RoundTab w) (h3:3 < w.heap.size) :
 Calls Tryz.prog 77 #[.int .i64 wd,.slice a 0 c] w fun e w'=>e=.returned (.agg (dgA (nothingD wd).1))∧Below w.heap.size w w':=by
 have HT:=hid ht
 have H01:=hid (And.intro h0 h1)
 obtain ⟨E,hE⟩:∃ E,E=dgA (nothingD wd).1:=⟨_,rfl⟩
 have HE:=hid hE
 have HES:=hid (show E.size=32 by rw [hE,dgA_size,(nothingD wd).2])
 have HE1:=hid (show E.all (·.oneCell')=true by rw [hE];exact dgA_all _)
 clear ht hE h0 h1
 go_enter Tryz.func77,Tryz.ntmps77
 go_upto_region 1 with (fail)
 obtain ⟨o1,ho1⟩:∃ o1:Obj,o1=.cells #[.int .u8 0,.int .u8 0,.int .u8 0,.int .u8 0,.int .u8 0,.int .u8 0,.int .u8 0,.int .u8 0,.int .u8 0,.int .u8 0,.int .u8 0,.int .u8 0,.int .u8 0,.int .u8 0,.int .u8 0,.int .u8 0,.int .u8 0,.int .u8 0,.int .u8 0,.int .u8 0,.int .u8 0,.int .u8 0,.int .u8 0,.int .u8 0,.int .u8 0,.int .u8 0,.int .u8 0,.int .u8 0,.int .u8 0,.int .u8 0,.int .u8 0,.int .u8 0] 38:=⟨_,rfl⟩
 rw [← ho1]
 have hb1:Below w.heap.size w (w.alloc o1):=(Below.refl _ _).alloc (Nat.le_refl _) _
 have hg1:(w.alloc o1).heap[w.heap.size]?=some o1:=heap_alloc_new w _
 have hz1:(w.alloc o1).heap.size=w.heap.size+1:=by simp
 generalize w.alloc o1=w1 at *
 obtain ⟨rb,hrb⟩:∃ rb,rb=w.heap.size:=⟨_,rfl⟩
 rw [← hrb] at hg1 hz1 ⊢
 have HB1:=hid hb1;have HG1:=hid hg1;have HZ1:=hid hz1;have HOO:=hid ho1
 have HRB:=hid (show w.heap.size≤rb by omega)
 have HRR:=hid hrb
 clear hb1 hg1 hz1 ho1 hrb
 have HN:=hid (nothing_dg w1 wd H01.out.1 H01.out.2 (rt_below HT.out HB1.out h3) (by have:=HB1.out.size;omega))
 go_wp2_with fail
 with_reducible refine HN.out.mono ?_
 rintro e w6 ⟨rfl,hb6⟩
 rw [show dgA (cutP' wd (shaP []))=E from HE.out.symm]
 have hbb:Below (rb+1) w1 w6:=by rw [HZ1.out] at hb6;exact hb6
 have HO:=hid ((hbb.block rb (Nat.lt_succ_self _)).trans HG1.out)
 have HBB:=hid (HB1.out.trans (hbb.mono (by have:=HRR.out;omega)))
 have HSZ:=hid (show w.heap.size≤w6.heap.size by have:=hbb.size;have:=HZ1.out;have:=HRR.out;omega)
 clear hb6 hbb
 have hO:=HO.out
 rw [HOO.out] at hO
 have HTH:=hid (there_block hO)
 have HGF:=hid (setCells_all hO E.toList (by rw [Array.length_toList,HES.out];rfl))
 clear hO
 go_wp2_with (refine wpList_store_mid rfl 38 (.tmp 4) (.tmp 11) (by rfl) rb 0 E (by rfl) (by rfl) (by rw [HES.out];exact HTH.out) (by rw [HES.out];exact info38) HE1.out ?_)
 have HB9:=hid (HBB.out.grown (setCells_grown rb E.toList 0 w6) HSZ.out (fun k hk=>by rw [← Option.some.inj hk];exact HRB.out))
 generalize w6.setCells rb 0 E.toList=w9 at *
 have HGF9:=hid (show w9.heap[rb]?=some (.cells E 38 (0,0)) by have:=HGF.out;simpa using this)
 clear HTH HGF
 go_wp2_with fail
 refine bodyPost_ret (v:=.agg E) (results_cell_row (p:=4) (ty:=38) rfl _ _ rb 38 E (0,0) _ rfl HGF9.out Tryz.underlying38 rfl (by rw [HES.out];exact info38)) rfl ⟨by rw [HE.out],?_⟩
 exact HB9.out
theorem root_1 (w:World) (wd:Int) (a:Option Addr) (c:Nat) (d:Dg) (hd:DS w a 1 c [d]) :
 Calls Tryz.prog 77 #[.int .i64 wd,.slice a 1 c] w fun e w'=>e=.returned (.agg (dgA d.1))∧Below w.heap.size w w':=by
 obtain ⟨E,hE⟩:∃ E,E=dgA d.1:=⟨_,rfl⟩
 have HE:=hid hE
 have HES:=hid (show E.size=32 by rw [hE,dgA_size,d.2])
 have HE1:=hid (show E.all (·.oneCell')=true by rw [hE];exact dgA_all _)
 obtain ⟨b,off,rfl,hbl,hr⟩:=hd.at (i:=0) (d:=d) rfl
 have HR:=hid (show w.rangeAt b off E.toList by rw [hE];unfold dgA;rw [List.toList_toArray];simpa using hr)
 clear hE hr hd
 go_enter Tryz.func77,Tryz.ntmps77
 go_upto_region 1 with (fail)
 obtain ⟨o1,ho1⟩:∃ o1:Obj,o1=.cells #[.int .u8 0,.int .u8 0,.int .u8 0,.int .u8 0,.int .u8 0,.int .u8 0,.int .u8 0,.int .u8 0,.int .u8 0,.int .u8 0,.int .u8 0,.int .u8 0,.int .u8 0,.int .u8 0,.int .u8 0,.int .u8 0,.int .u8 0,.int .u8 0,.int .u8 0,.int .u8 0,.int .u8 0,.int .u8 0,.int .u8 0,.int .u8 0,.int .u8 0,.int .u8 0,.int .u8 0,.int .u8 0,.int .u8 0,.int .u8 0,.int .u8 0,.int .u8 0] 38:=⟨_,rfl⟩
 rw [← ho1]
 have hb1:Below w.heap.size w (w.alloc o1):=(Below.refl _ _).alloc (Nat.le_refl _) _
 have hg1:(w.alloc o1).heap[w.heap.size]?=some o1:=heap_alloc_new w _
 have hz1:(w.alloc o1).heap.size=w.heap.size+1:=by simp
 generalize w.alloc o1=w1 at *
 obtain ⟨rb,hrb⟩:∃ rb,rb=w.heap.size:=⟨_,rfl⟩
 rw [← hrb] at hg1 hz1 ⊢
 have HB1:=hid hb1;have HG1:=hid hg1;have HZ1:=hid hz1;have HOO:=hid ho1
 have HRB:=hid (show w.heap.size≤rb by omega)
 have HRR:=hid hrb
 clear hb1 hg1 hz1 ho1 hrb
 have HR1:=hid (show w1.rangeAt b off E.toList from fun j v hj=>(HB1.out.cell (p:=⟨b,off+j,none⟩) hbl).trans (HR.out j v hj))
 have HO:=hid HG1.out
 have HBB:=hid HB1.out
 have HSZ:=hid (show w.heap.size≤w1.heap.size by have:=HZ1.out;have:=HRR.out;omega)
 have w6e:∃ w6,w6=w1:=⟨_,rfl⟩
 obtain ⟨w6,rfl⟩:=w6e
 have hO:=HO.out
 rw [HOO.out] at hO
 have HTH:=hid (there_block hO)
 have HGF:=hid (setCells_all hO E.toList (by rw [Array.length_toList,HES.out];rfl))
 clear hO
 go_wp2_with (first
  | (refine L_load_arr rfl 38 (.tmp 15) (by rfl) b off (by rfl) E _ HR1.out Tryz.underlying38 rfl (by rw [HES.out];exact info38) ?_)
  | (refine wpList_store_mid rfl 38 (.tmp 4) (.tmp 16) (by rfl) rb 0 E (by rfl) (by rfl) (by rw [HES.out];exact HTH.out) (by rw [HES.out];exact info38) HE1.out ?_))
 have HB9:=hid (HBB.out.grown (setCells_grown rb E.toList 0 w6) HSZ.out (fun k hk=>by rw [← Option.some.inj hk];exact HRB.out))
 generalize w6.setCells rb 0 E.toList=w9 at *
 have HGF9:=hid (show w9.heap[rb]?=some (.cells E 38 (0,0)) by have:=HGF.out;simpa using this)
 clear HTH HGF
 go_wp2_with fail
 refine bodyPost_ret (v:=.agg E) (results_cell_row (p:=4) (ty:=38) rfl _ _ rb 38 E (0,0) _ rfl HGF9.out Tryz.underlying38 rfl (by rw [HES.out];exact info38)) rfl ⟨by rw [HE.out],?_⟩
 exact HB9.out
end
section
set_option maxHeartbeats 4000000
theorem root_s (f:Nat) (ih:RootC f) (w:World) (wd:Int) (h0:-9223372036854775808≤wd) (h1:wd≤9223372036854775807) (a:Option Addr) (n c:Nat) (ds:List Dg) (hd:DS w a n c ds) (h2:2≤n) (hf:n≤f+1) (hn:n≤1000000) (ht:RoundTab w) (h3:3 < w.heap.size) :
 Calls Tryz.prog 77 #[.int .i64 wd,.slice a n c] w fun e w'=>e=.returned (.agg (dgA (nodeD wd (rootF f wd (ds.take (leftP n))) (rootF f wd (ds.drop (leftP n)))).1))∧Below w.heap.size w w':=by
 have HT:=hid ht
 have H01:=hid (And.intro h0 h1)
 have HD:=hid hd
 have HIH:=hid ih
 obtain ⟨k,hk⟩:∃ k,k=leftP n:=⟨_,rfl⟩
 have hkr:1≤k∧k < n:=by rw [hk];exact leftP_lt n h2 (by omega)
 have HK:=hid hk;have HKR:=hid hkr
 obtain ⟨L,hL⟩:∃ L,L=rootF f wd (ds.take k):=⟨_,rfl⟩
 obtain ⟨R,hR⟩:∃ R,R=rootF f wd (ds.drop k):=⟨_,rfl⟩
 rw [← hk,← hL,← hR]
 have HL:=hid hL;have HR:=hid hR
 obtain ⟨E,hE⟩:∃ E,E=dgA (nodeD wd L R).1:=⟨_,rfl⟩
 have HE:=hid hE
 have HES:=hid (show E.size=32 by rw [hE,dgA_size,(nodeD wd L R).2])
 have HE1:=hid (show E.all (·.oneCell')=true by rw [hE];exact dgA_all _)
 have b1:((n:Int) == 0)=false:=by simp;omega
 have b2:((n:Int) == 1)=false:=by simp;omega
 have HN:=hid (show 2≤n∧n≤f+1∧n≤1000000 from ⟨h2,hf,hn⟩)
 have HTL:=hid (fun wx=>tleft_any wx n h2 (by omega))
 have hcap:=hd.2.1
 have hto:=fun wx=>slice_toD wx a n c k (by omega)
 have hfr:=fun wx=>slice_fromD wx a n c k (by omega)
 clear hd ih hk hkr hL hR hE h0 h1 ht h2 hf hn
 go_enter Tryz.func77,Tryz.ntmps77
 go_upto_region 1 with (fail)
 obtain ⟨o1,ho1⟩:∃ o1:Obj,o1=.cells #[.int .u8 0,.int .u8 0,.int .u8 0,.int .u8 0,.int .u8 0,.int .u8 0,.int .u8 0,.int .u8 0,.int .u8 0,.int .u8 0,.int .u8 0,.int .u8 0,.int .u8 0,.int .u8 0,.int .u8 0,.int .u8 0,.int .u8 0,.int .u8 0,.int .u8 0,.int .u8 0,.int .u8 0,.int .u8 0,.int .u8 0,.int .u8 0,.int .u8 0,.int .u8 0,.int .u8 0,.int .u8 0,.int .u8 0,.int .u8 0,.int .u8 0,.int .u8 0] 38:=⟨_,rfl⟩
 rw [← ho1]
 have hb1:Below w.heap.size w (w.alloc o1):=(Below.refl _ _).alloc (Nat.le_refl _) _
 have hg1:(w.alloc o1).heap[w.heap.size]?=some o1:=heap_alloc_new w _
 have hz1:(w.alloc o1).heap.size=w.heap.size+1:=by simp
 generalize w.alloc o1=w1 at *
 obtain ⟨rb,hrb⟩:∃ rb,rb=w.heap.size:=⟨_,rfl⟩
 rw [← hrb] at hg1 hz1 ⊢
 have HB1:=hid hb1;have HG1:=hid hg1;have HZ1:=hid hz1;have HOO:=hid ho1
 have HRB:=hid (show w.heap.size≤rb by omega)
 have HRR:=hid hrb
 clear hb1 hg1 hz1 ho1 hrb
 go_upto_region 7 with ((go_at_call 144;(refine (HTL.out _).mono ?_);rintro e w' ⟨rfl,rfl⟩))
 rw [← HK.out]
 have hks:=HKR.out
 have HB1d:=hid (show Below w.heap.size w w1.drew from HB1.out.drew)
 have HC1:=hid (HIH.out w1.drew wd a k c (ds.take k) H01.out.1 H01.out.2 ((show DS w1 a n c ds from HD.out.below HB1.out).take k (by omega)) (by have:=HN.out;omega) (by have:=HN.out;omega) (rt_below HT.out HB1d.out h3) (by have:=HB1d.out.size;omega))
 clear hks
 refine wp_region_held_drew (S:=fun _=>True) (by kernel_rfl) trivial (fun hHeld=>?_)
 apply wpT 0
 apply wpT 1
 apply wpT 2
 apply wpT 3
 apply wpT 4
 apply wpT 6
 apply wpT 7
 apply wpT 8
 apply wpT 9
 apply wpR 5
 intro K hK
 go_simp
 refine HC1.out.mono ?_
 rintro e w4 ⟨rfl,hb4⟩
 have hb4:Below (rb+1) w1 w4:=by have:=hb4;rw [show w1.drew.heap.size=rb+1 from HZ1.out] at this;exact ((Below.refl _ _).drew).trans this
 have hbw4:Below w.heap.size w w4:=HB1.out.trans (hb4.mono (by have:=HRR.out;omega))
 have HC2:=hid (HIH.out w4 wd (dropD a k c) (n - k) (c - k) (ds.drop k) H01.out.1 H01.out.2 ((HD.out.below hbw4).drop k (by have:=HKR.out;omega)) (by have:=HN.out;have:=HKR.out;omega) (by have:=HN.out;omega) (rt_below HT.out hbw4 h3) (by have:=hbw4.size;omega))
 have HB4:=hid hb4
 clear hb4 hbw4
 apply bk hK
 · exact trivial
 intro hHeld
 clear hK K
 apply wpR 10
 intro K hK
 go_simp
 refine HC2.out.mono ?_
 rintro e w5 ⟨rfl,hb5⟩
 have hb5:Below (rb+1) w1 w5:=HB4.out.trans (hb5.mono (by have:=HB4.out.size;have:=HZ1.out;omega))
 have hbw5:Below w.heap.size w w5:=HB1.out.trans (hb5.mono (by have:=HRR.out;omega))
 rw [← HL.out,← HR.out]
 have HC3:=hid (node_any w5 wd H01.out.1 H01.out.2 L.1 R.1 L.2 R.2 (rt_below HT.out hbw5 h3) (by have:=hbw5.size;omega))
 have HB5:=hid hb5
 clear hb5 hbw5
 apply bk hK
 · exact trivial
 intro hHeld
 clear hK K
 apply wpR 11
 intro K hK
 go_simp
 refine HC3.out.mono ?_
 rintro e w6 ⟨rfl,hb6⟩
 rw [show dgA (nodeP wd L.1 R.1)=E from HE.out.symm]
 have hbb:Below (rb+1) w1 w6:=HB5.out.trans (hb6.mono (by have:=HB5.out.size;have:=HZ1.out;omega))
 have HO:=hid ((hbb.block rb (Nat.lt_succ_self _)).trans HG1.out)
 have HBB:=hid (HB1.out.trans (hbb.mono (by have:=HRR.out;omega)))
 have HSZ:=hid (show w.heap.size≤w6.heap.size by have:=hbb.size;have:=HZ1.out;have:=HRR.out;omega)
 clear hb6 hbb
 apply bk hK
 · exact trivial
 intro hHeld
 clear hK K
 have hO:=HO.out
 rw [HOO.out] at hO
 have HTH:=hid (there_block hO)
 have HGF:=hid (setCells_all hO E.toList (by rw [Array.length_toList,HES.out];rfl))
 clear hO
 apply wpR 12
 intro K hK
 refine S_store_mid rfl 38 (.tmp 4) (.tmp 31) (by rfl) rb 0 E (by rfl) (by rfl) (by rw [HES.out];exact HTH.out) (by rw [HES.out];exact info38) HE1.out ?_
 apply bk hK
 · exact trivial
 intro hHeld
 clear hK K
 refine wpAnyH_done (by kernel_rfl) ?_ _
 have HB9:=hid (HBB.out.grown (setCells_grown rb E.toList 0 w6) HSZ.out (fun k hk=>by rw [← Option.some.inj hk];exact HRB.out))
 generalize w6.setCells rb 0 E.toList=w9 at *
 have HGF9:=hid (show w9.heap[rb]?=some (.cells E 38 (0,0)) by have:=HGF.out;simpa using this)
 clear HTH HGF
 go_wp2_with fail
 refine bodyPost_ret (v:=.agg E) (results_cell_row (p:=4) (ty:=38) rfl _ _ rb 38 E (0,0) _ rfl HGF9.out Tryz.underlying38 rfl (by rw [HES.out];exact info38)) rfl ⟨by rw [HE.out],?_⟩
 exact HB9.out
theorem root_f:∀ f,RootC f
 | 0=>by
   intro w wd a n c ds h0 h1 hd hn _ ht h3
   obtain rfl:n=0:=by omega
   exact root_0 w wd h0 h1 a c ht h3
 | f+1=>by
   intro w wd a n c ds h0 h1 hd hn hm ht h3
   have hl:=hd.1
   match ds,hl,hd with
   | [],hl,hd =>
     obtain rfl:n=0:=by simpa using hl.symm
     exact root_0 w wd h0 h1 a c ht h3
   | [d],hl,hd =>
     obtain rfl:n=1:=by simpa using hl.symm
     exact root_1 w wd a c d hd
   | d :: e :: r,hl,hd =>
     have h2:2≤n:=by rw [← hl];simp
     have:=root_s f (root_f f) w wd h0 h1 a n c (d :: e :: r) hd h2 hn hm ht h3
     rw [← hl] at this
     rw [← hl]
     exact this
theorem root_any (w:World) (wd:Int) (h0:-9223372036854775808≤wd) (h1:wd≤9223372036854775807) (a:Option Addr) (n c:Nat) (ds:List Dg) (hd:DS w a n c ds) (hn:n≤1000000) (ht:RoundTab w) (h3:3 < w.heap.size) :
 Calls Tryz.prog 77 #[.int .i64 wd,.slice a n c] w fun e w'=>e=.returned (.agg (dgA (rootP wd ds).1))∧Below w.heap.size w w':=by
 have:=root_f n w wd a n c ds h0 h1 hd (Nat.le_refl _) hn ht h3
 unfold rootP
 rw [hd.1]
 exact this
end
end Go.Proofs.YtgkehahklccacaaGreatDoor
