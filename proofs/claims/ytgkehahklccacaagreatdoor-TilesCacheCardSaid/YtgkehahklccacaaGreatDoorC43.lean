import Derived.Test.YtgkehahklccacaaGreatDoorC42
import Derived.Test.YtgkehahklccacaaGreatDoorC30
import Derived.Test.YtgkehahklccacaaGreatDoorCards
import Derived.Test.YtgkehahklccacaaGreatDoorTie
import Derived.ProofKit
import Derived.OpenShut
import Derived.Deep.DeepHandedRow
import Derived.Lib.LaidTab
import Derived.Lib.LaidU8
import Derived.Lib.SmallJoins
import Derived.SizedLaws
import Derived.MakeChecks
namespace Go.Proofs.YtgkehahklccacaaGreatDoor
open Go Go.RowKit
open Go.Lib (hid)
set_option maxRecDepth 100000
set_option maxHeartbeats 1000000
set_option linter.unusedVariables false
set_option linter.unusedSimpArgs false
section
set_option maxHeartbeats 16000000
theorem cache_go (W:World) (n0:Int) (a0:-9223372036854775808≤n0) (c0:n0≤9223372036854775807) (n1:Int) (a1:-9223372036854775808≤n1) (c1:n1≤9223372036854775807) (n2:Int) (a2:-9223372036854775808≤n2) (c2:n2≤9223372036854775807) (n3:Int) (a3:-9223372036854775808≤n3) (c3:n3≤9223372036854775807) (n4:Int) (a4:-9223372036854775808≤n4) (c4:n4≤9223372036854775807) (n5:Int) (a5:-9223372036854775808≤n5) (c5:n5≤9223372036854775807) (n6:Int) (a6:-9223372036854775808≤n6) (c6:n6≤9223372036854775807) (n7:Int) (a7:-9223372036854775808≤n7) (c7:n7≤9223372036854775807) (n8:Int) (a8:-9223372036854775808≤n8) (c8:n8≤9223372036854775807) (n9:Int) (a9:-9223372036854775808≤n9) (c9:n9≤9223372036854775807) (ht:HalfTab W∧RoundTab W∧TabAt 1 Lib.deBruijn64tab W∧4≤W.heap.size) :
 Calls Tryz.prog 6 #[.int .i64 n0,.int .i64 n1,.int .i64 n2,.int .i64 n3,.int .i64 n4,.int .i64 n5,.int .i64 n6,.int .i64 n7,.int .i64 n8,.int .i64 n9] W (CRet W):=by
 obtain ⟨n,hn,hn1,hn2⟩:=wi_nat n1 0 2000 (by decide)
 obtain ⟨wd,hwd⟩:∃ wd,wd=wiP n3 1 32:=⟨_,rfl⟩
 have hwdb:1≤wd∧wd≤32:=by rw [hwd];exact wiP_le n3 1 32 (by decide)
 obtain ⟨size,hsz,hsz1,hsz2⟩:=wi_nat n7 0 n (by omega)
 obtain ⟨old,hol,hol1,hol2⟩:=wi_nat n8 0 size (by omega)
 have W1:=hid (fun w=>within_any w n1 0 2000 a1 c1 (by decide) (by decide) (by decide))
 have W3:=hid (fun w=>within_any w n3 1 32 a3 c3 (by decide) (by decide) (by decide))
 have W4:=hid (fun w=>within_any w n7 0 (n:Int) a7 c7 (by decide) (by omega) (by omega))
 have W5:=hid (fun w=>within_any w n8 0 (size:Int) a8 c8 (by decide) (by omega) (by omega))
 rw [← show (n:Int)=wiP n1 0 2000 from hn] at W1
 rw [← hwd] at W3
 rw [← show (size:Int)=wiP n7 0 n from hsz] at W4
 rw [← show (old:Int)=wiP n8 0 size from hol] at W5
 have HX:=hid (show n≤2000∧(1≤wd∧wd≤32)∧size≤n∧old≤size from ⟨hn2,hwdb,hsz2,hol2⟩)
 have HT:=hid ht
 have HRW:=hid (row_any W n0 n (by omega))
 clear hn hn1 hn2 hwd hwdb hsz hsz1 hsz2 hol hol1 hol2 ht
 go_enter Tryz.func6,Tryz.ntmps6
 refine wp_two_k (c:=tc0) ⟨_,_,rfl⟩ fun K hK=>?_
 have HK:=hid hK
 clear hK
 conv=>arg 2;whnf
 go_wp2_with fail
 refine HK.out _ _ ?_
 clear HK K
 refine wp_two_k (c:=dropSeq 1 tc0) ⟨_,_,rfl⟩ fun K hK=>?_
 have HK:=hid hK
 clear hK
 conv=>arg 2;whnf
 go_wp2_with (go_at_call 8;(with_reducible refine (W1.out _).mono ?_);rintro e wx ⟨rfl,hw⟩;have hw:=hw.symm;subst hw)
 refine HK.out _ _ ?_
 clear HK K
 rw [dropSeq_succ]
 refine wp_two_k (c:=dropSeq 2 tc0) ⟨_,_,rfl⟩ fun K hK=>?_
 have HK:=hid hK
 clear hK
 conv=>arg 2;whnf
 go_wp2_with (go_at_call 9;refine HRW.out.mono ?_;rintro e w1 ⟨gl,ls,rfl,hgl,hll,hds,hgw,hb1⟩;have HGL:=hid (And.intro hgl hgw);have HLL:=hid hll;have HDS:=hid hds;have HB1:=hid hb1;clear hgl hll hds hgw hb1)
 refine HK.out _ _ ?_
 clear HK K
 rw [dropSeq_succ]
 refine wp_two_k (c:=dropSeq 3 tc0) ⟨_,_,rfl⟩ fun K hK=>?_
 have HK:=hid hK
 clear hK
 conv=>arg 2;whnf
 go_wp2_with (go_at_call 8;(with_reducible refine (W3.out _).mono ?_);rintro e wx ⟨rfl,hw⟩;have hw:=hw.symm;subst hw)
 refine HK.out _ _ ?_
 clear HK K
 rw [dropSeq_succ]
 refine wp_two_k (c:=dropSeq 4 tc0) ⟨_,_,rfl⟩ fun K hK=>?_
 have HK:=hid hK
 clear hK
 conv=>arg 2;whnf
 go_wp2_with (go_at_call 8;(with_reducible refine (W4.out _).mono ?_);rintro e wx ⟨rfl,hw⟩;have hw:=hw.symm;subst hw)
 refine HK.out _ _ ?_
 clear HK K
 rw [dropSeq_succ]
 refine wp_two_k (c:=dropSeq 5 tc0) ⟨_,_,rfl⟩ fun K hK=>?_
 have HK:=hid hK
 clear hK
 conv=>arg 2;whnf
 go_wp2_with (go_at_call 8;(with_reducible refine (W5.out _).mono ?_);rintro e wx ⟨rfl,hw⟩;have hw:=hw.symm;subst hw)
 refine HK.out _ _ ?_
 clear HK K
 rw [dropSeq_succ]
 by_cases h0:0 < size
 · obtain ⟨i,hi,hi1,hi2⟩:=wi_nat n9 0 (size - 1) (by omega)
   have W6:=hid (fun w=>within_any w n9 0 (((size - 1:Nat):Nat):Int) a9 c9 (by decide) (by omega) (by have:=HX.out;omega))
   rw [← show (i:Int)=wiP n9 0 ((size - 1:Nat):Nat) from hi,show (((size - 1:Nat):Nat):Int)=(size:Int) - 1 by omega] at W6
   have h9:decide ((size:Int) > 0)=true:=by simp;omega
   have h8:decide (0 < size)=true:=by simp;omega
   have hw:wrap64 ((size:Int) - 1)=(size:Int) - 1:=wrap64_small (by omega) (by have:=HX.out;omega)
   have HI:=hid (show i < size by omega)
   clear h0 hi hi1 hi2
   refine wp_two_k (c:=dropSeq 6 tc0) ⟨_,_,rfl⟩ fun K hK=>?_
   have HK:=hid hK
   clear hK
   conv=>arg 2;whnf
   go_wp2_with (go_at_call 8;(with_reducible refine (W6.out _).mono ?_);rintro e wx ⟨rfl,hw⟩;have hw:=hw.symm;subst hw)
   refine HK.out _ _ ?_
   clear HK K
   rw [dropSeq_succ]
   exact cache_rest W w1 gl n wd ls size old ((i:Int)) ⟨HB1.out,HDS.out,HGL.out.2,HLL.out,HX.out.1,HX.out.2.1,HX.out.2.2.1,HX.out.2.2.2,fun _=>⟨i,rfl,HI.out⟩,HT.out⟩ n2 n3 n4 n5 n6 ⟨a2,c2⟩ ⟨a3,c3⟩ ⟨a4,c4⟩ ⟨a5,c5⟩ ⟨a6,c6⟩ _ _ _ _ _ _ _ _ _ _ _ _ _ _ _ _ _ _ _ _ _ _ _ _ _ _ _ _ _ _ _ _ _ _ _ _ _ _ _ _ _ _ _ _ _ _ _ _ _ _ _ _ _ _ _ _ _ _ _ _ _ _ _ _ _ _ _ _ _ _ _ _ _ _ _ _ _ _ _ _ _ _ _ _ _ _ _ _ _ _ _ _ _ _ _ _ _ _ _ _ _ _ _ _ _ _ _ _ _ _ _ _ _ _ _ _ _ _ _ _ _ _ _ _ _ _ _ _ _ _ _ _ _ _ _ _ _ _ _ _ _ _ _ _ _ _ _ _ _ _ _ _ _ _ _ _ _ _ _ _ _ _ _ _ _ _ _ _ _ _ _ _ _ _ _ _ _ _ _ _ _ _ _ _ _ _ _ _ _ _ _ _ _ _ _ _ _ _ _ _ _ _ _ _ _ _ _ _ 
 · have h9:decide ((size:Int) > 0)=false:=by simp;omega
   have h8:decide (0 < size)=false:=by simp;omega
   have HI:=hid h0
   clear h0
   refine wp_two_k (c:=dropSeq 6 tc0) ⟨_,_,rfl⟩ fun K hK=>?_
   have HK:=hid hK
   clear hK
   conv=>arg 2;whnf
   go_wp2_with fail
   refine HK.out _ _ ?_
   clear HK K
   rw [dropSeq_succ]
   exact cache_rest W w1 gl n wd ls size old (n9) ⟨HB1.out,HDS.out,HGL.out.2,HLL.out,HX.out.1,HX.out.2.1,HX.out.2.2.1,HX.out.2.2.2,fun q=>absurd q HI.out,HT.out⟩ n2 n3 n4 n5 n6 ⟨a2,c2⟩ ⟨a3,c3⟩ ⟨a4,c4⟩ ⟨a5,c5⟩ ⟨a6,c6⟩ _ _ _ _ _ _ _ _ _ _ _ _ _ _ _ _ _ _ _ _ _ _ _ _ _ _ _ _ _ _ _ _ _ _ _ _ _ _ _ _ _ _ _ _ _ _ _ _ _ _ _ _ _ _ _ _ _ _ _ _ _ _ _ _ _ _ _ _ _ _ _ _ _ _ _ _ _ _ _ _ _ _ _ _ _ _ _ _ _ _ _ _ _ _ _ _ _ _ _ _ _ _ _ _ _ _ _ _ _ _ _ _ _ _ _ _ _ _ _ _ _ _ _ _ _ _ _ _ _ _ _ _ _ _ _ _ _ _ _ _ _ _ _ _ _ _ _ _ _ _ _ _ _ _ _ _ _ _ _ _ _ _ _ _ _ _ _ _ _ _ _ _ _ _ _ _ _ _ _ _ _ _ _ _ _ _ _ _ _ _ _ _ _ _ _ _ _ _ _ _ _ _ _ _ _ _ _ _ 
end
section
theorem cache_goN (W:World) (n0:Int) (a0:-9223372036854775808≤n0) (c0:n0≤9223372036854775807) (n1:Int) (a1:-9223372036854775808≤n1) (c1:n1≤9223372036854775807) (n2:Int) (a2:-9223372036854775808≤n2) (c2:n2≤9223372036854775807) (n3:Int) (a3:-9223372036854775808≤n3) (c3:n3≤9223372036854775807) (n4:Int) (a4:-9223372036854775808≤n4) (c4:n4≤9223372036854775807) (n5:Int) (a5:-9223372036854775808≤n5) (c5:n5≤9223372036854775807) (n6:Int) (a6:-9223372036854775808≤n6) (c6:n6≤9223372036854775807) (n7:Int) (a7:-9223372036854775808≤n7) (c7:n7≤9223372036854775807) (n8:Int) (a8:-9223372036854775808≤n8) (c8:n8≤9223372036854775807) (n9:Int) (a9:-9223372036854775808≤n9) (c9:n9≤9223372036854775807) (ht:HalfTab W∧RoundTab W∧4≤W.heap.size∧TabAt 1 Lib.deBruijn64tab W) :
 Calls Tryz.prog 6 #[.int .i64 n0,.int .i64 n1,.int .i64 n2,.int .i64 n3,.int .i64 n4,.int .i64 n5,.int .i64 n6,.int .i64 n7,.int .i64 n8,.int .i64 n9] W fun e w'=>e=.returned (.bool true)∧Below W.heap.size W w' :=
 cache_go W n0 a0 c0 n1 a1 c1 n2 a2 c2 n3 a3 c3 n4 a4 c4 n5 a5 c5 n6 a6 c6 n7 a7 c7 n8 a8 c8 n9 a9 c9 ⟨ht.1,ht.2.1,ht.2.2.2,ht.2.2.1⟩
end
section
open Go.ChangeShapes Go.WideShapes Go.ChangeAt Go.RowKit
theorem own:ownKnob Tryz.prog.godebug=none:=by kernel_rfl
theorem gHalf:Tryz.prog.globalNamed "docket/frame.half" = some 2:=by kernel_rfl
theorem gRound:Tryz.prog.globalNamed "docket/digest.round" = some 3:=by kernel_rfl
theorem gHalfT:(Tryz.prog.globals[2]?).map (·.type)=some 345:=by kernel_rfl
theorem gRoundT:(Tryz.prog.globals[3]?).map (·.type)=some 353:=by kernel_rfl
theorem cHalf:Tryz.prog.cellsOf 345=16:=by kernel_rfl
theorem cRound:Tryz.prog.cellsOf 353=64:=by kernel_rfl
theorem c255:Tryz.prog.cellsOf 255=1:=by kernel_rfl
def halfI:List Int:=[0,498536548,997073096,651767980,1994146192,1802195444,1303535960,1342533948,3988292384,4027552580,3604390888,3412177804,2607071920,2262029012,2685067896,3183342108]
def roundI:List Int:=[1116352408,1899447441,3049323471,3921009573,961987163,1508970993,2453635748,2870763221,3624381080,310598401,607225278,1426881987,1925078388,2162078206,2614888103,3248222580,3835390401,4022224774,264347078,604807628,770255983,1249150122,1555081692,1996064986,2554220882,2821834349,2952996808,3210313671,3336571891,3584528711,113926993,338241895,666307205,773529912,1294757372,1396182291,1695183700,1986661051,2177026350,2456956037,2730485921,2820302411,3259730800,3345764771,3516065817,3600352804,4094571909,275423344,430227734,506948616,659060556,883997877,958139571,1322822218,1537002063,1747873779,1955562222,2024104815,2227730452,2361852424,2428436474,2756734187,3204031479,3329325298]
theorem tab_reads {P:Program} {W:World} {name:String} {k:IntKind} {zs:List Int} {g:Nat} {t e:TypeId} {n:Nat}
 (hg:P.globalNamed name=some g) (hty:(P.globals[g]?).map (·.type)=some t) (ht:P.underlying t=some (.array n e)) (he:P.underlying e=some (.int k)) (hce:P.cellsOf e=1) (hct:P.cellsOf t=n)
 (h:Lib.VarReads P W name (Lib.tabData k zs)):Lib.TabIs P W name k zs:=by
 obtain ⟨g',t',cs,fuel,p,hg',ht',hvar,hd⟩:=h
 obtain rfl:=Option.some.inj (hg.symm.trans hg')
 obtain rfl:=Option.some.inj (hty.symm.trans ht')
 unfold Lib.TabIs
 rw [hvar,← Lib.cells_of_tab ht he hce hct hd]
theorem half_of {W:World} (ht:Lib.TabIs Tryz.prog W "docket/frame.half" .u32 halfI):HalfTab W:=fun i hi=>by
 rw [ht.cell gHalf i hi]
 have e:∀ i:Fin 16,halfI.getD i.val 0=((halfL.getD i.val 0).toNat:Int):=by decide +kernel
 rw [e ⟨i,hi⟩]
theorem round_of {W:World} (ht:Lib.TabIs Tryz.prog W "docket/digest.round" .u32 roundI):RoundTab W:=fun i hi=>by
 rw [ht.cell gRound i hi]
 have e:∀ i:Fin 64,roundI.getD i.val 0=((kT i.val).toNat:Int):=by decide +kernel
 rw [e ⟨i,hi⟩]
def setO (v:Array Value):Obj→Obj
 | .cells _ t frozen=>.cells v t frozen
 | o=>o
noncomputable def laidStart (os:Os):World :=
 { World.holding Tryz.prog os ⟨#[],#[],[]⟩ with heap:=((World.holding Tryz.prog os ⟨#[],#[],[]⟩).heap.modify 2 (setO (halfI.map fun z=>Value.int .u32 z).toArray)).modify 3 (setO (roundI.map fun z=>Value.int .u32 z).toArray) }
end
section
open Go.ChangeShapes Go.WideShapes Go.ChangeAt Go.RowKit
theorem gDb:Tryz.prog.globalNamed "math/bits.deBruijn64tab" = some 1:=by kernel_rfl
theorem gDbT:(Tryz.prog.globals[1]?).map (·.type)=some 330:=by kernel_rfl
theorem cDb:Tryz.prog.cellsOf 330=64:=by kernel_rfl
theorem c5:Tryz.prog.cellsOf 5=1:=by kernel_rfl
def db32I:List Int:=[0,1,28,2,29,14,24,3,30,22,20,15,25,17,4,8,31,27,13,23,21,19,16,7,26,12,18,6,11,5,10,9]
def db64I:List Int:=[0,1,56,2,57,49,28,3,61,58,42,50,38,29,17,4,62,47,59,36,45,43,51,22,53,39,33,30,24,18,12,5,63,55,48,27,60,41,37,16,46,35,44,21,52,32,23,11,54,26,40,15,34,20,31,10,25,14,19,9,13,8,7,6]
theorem db_of {W:World} (ht:Lib.TabIs Tryz.prog W "math/bits.deBruijn64tab" .u8 db64I):TabAt 1 Lib.deBruijn64tab W:=fun i hi=>by
 rw [ht.cell gDb i hi]
 have e:∀ i:Fin 64,db64I.getD i.val 0=((Lib.deBruijn64tab.getD i.val 0:Nat):Int):=by decide +kernel
 rw [e ⟨i,hi⟩]
theorem tableN {W:World} (h:laidMetH Tryz.prog [("math/bits.deBruijn32tab",Rows.laid_math_bits_deBruijn32tab),("math/bits.deBruijn64tab",Rows.laid_math_bits_deBruijn64tab),("docket/digest.round",Rows.laid_docket_digest_round),("docket/frame.half",Rows.laid_docket_frame_half)] W):HalfTab W∧RoundTab W∧4≤W.heap.size∧TabAt 1 Lib.deBruijn64tab W:=by
 rw [MakeChecks.laidMetH_plain _ _ _ (by kernel_rfl)] at h
 have c:=db_of (tab_reads gDb gDbT Tryz.underlying330 Tryz.underlying5 c5 cDb (Lib.laidMet.reads h (.tail _ (.head _))))
 have a:=round_of (tab_reads gRound gRoundT Tryz.underlying353 Tryz.underlying255 c255 cRound (Lib.laidMet.reads h (.tail _ (.tail _ (.head _)))))
 have b:=half_of (tab_reads gHalf gHalfT Tryz.underlying345 Tryz.underlying255 c255 cHalf (Lib.laidMet.reads h (.tail _ (.tail _ (.tail _ (.head _))))))
 refine ⟨b,a,?_,c⟩
 have:=World.block_lt_of_cell? W _ (a 0 (by decide))
 exact this
noncomputable def laidStart4 (os:Os):World :=
 { laidStart os with heap:=((laidStart os).heap.modify 0 (setO (db32I.map fun z=>Value.int .u8 z).toArray)).modify 1 (setO (db64I.map fun z=>Value.int .u8 z).toArray) }
end
end Go.Proofs.YtgkehahklccacaaGreatDoor
