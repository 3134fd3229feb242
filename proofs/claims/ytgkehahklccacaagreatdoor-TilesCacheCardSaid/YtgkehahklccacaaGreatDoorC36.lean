import Derived.Test.YtgkehahklccacaaGreatDoorC03
import Derived.Test.YtgkehahklccacaaGreatDoorC35
import Derived.Test.YtgkehahklccacaaGreatDoorC33
import Derived.Stop.BytesEq
namespace Go.Proofs.YtgkehahklccacaaGreatDoor
open Go Go.RowKit
open Go.Lib (hid)
set_option maxRecDepth 100000
set_option maxHeartbeats 1000000
set_option linter.unusedVariables false
set_option linter.unusedSimpArgs false
section
open Go.Maps Go.WideMaps Go.ChangeMaps
theorem bits_and_nat (x y:Nat) (hx:x < 9223372036854775808) (hy:y < 9223372036854775808):bits .and .i64 (x:Int) (y:Int)=((x &&& y:Nat):Int):=by
 have h1:x &&& y≤x:=Nat.and_le_left
 have e:(BitVec.ofInt 64 (x:Int) &&& BitVec.ofInt 64 (y:Int)).toNat=x &&& y:=by
  rw [BitVec.toNat_and,BitVec.toNat_ofInt,BitVec.toNat_ofInt]
  congr 1 <;> omega
 have h:bits .and .i64 (x:Int) (y:Int)=IntKind.i64.wrap ((BitVec.ofInt 64 (x:Int) &&& BitVec.ofInt 64 (y:Int)).toNat:Int):=rfl
 rw [h,e,IntKind.wrap_i64]
 omega
theorem RS.of_same {α:Type} {sz:Nat} {enc:α→List Value} {w w':World} {a:Option Addr} {n c:Nat} {l:List α} (h:RS sz enc w a n c l) (hk:∀ x,a=some x→0 < n→w'.heap[x.block]?=w.heap[x.block]?):RS sz enc w' a n c l :=
 ⟨h.1,h.2.1,h.2.2.1,fun i x hx=>by
   obtain ⟨b,off,e,hc⟩:=h.2.2.2 i x hx
   refine ⟨b,off,e,fun j v hv=>?_⟩
   have hi:=(List.getElem?_eq_some_iff.1 hx).1
   exact (World.cell?_of_block (a:=⟨b,off+i * sz+j,none⟩) (hk ⟨b,off,none⟩ e (by have:=h.1;omega))).trans (hc j v hv)⟩
theorem exec_alloc38 {ρ:Operand→Value} {o:Oper} (ho:o.op=.alloc 38) (w:World):(execOp ρ o).run Tryz.prog w=.ok (.value (.pointer (some ⟨w.heap.size,0,none⟩))) (w.alloc (.cells (dgA zDg.1) 38)):=by
 unfold execOp
 rw [ho]
 kernel_rfl
set_option maxHeartbeats 16000000
theorem ahead_any (W:World) (wd:Int) (h0:-9223372036854775808≤wd) (h1:wd≤9223372036854775807) (old size:Nat) (ho:0 < old) (hos:old < size) (hs:size≤60000) (x0:Dg) (a:Option Addr) (n c:Nat) (ds:List Dg) (hds:DS W a n c ds) (hn:n=(partsP old size).length) (ht:RoundTab W) (h4:4≤W.heap.size) (lo:Bool) (hlo:lo=true ↔ old &&& (old - 1)=0) (d0:Dg) (hd0:lo=false→ds[0]?=some d0) :
 Calls Tryz.prog 148 #[.int .i64 wd,.int .i64 (old:Int),.int .i64 (size:Int),.agg (dgA x0.1),.slice a n c] W (AhRet W (aheadW wd old (((partsP old size).zip ds).drop (if lo then 0 else 1)) (if lo then (x0,x0) else (d0,d0)))):=by
 have hpl:=parts_len (Nat.le_of_lt hos) (show size≤1000000 by omega)
 obtain ⟨l,hl⟩:∃ l,l=partsP old size:=⟨_,rfl⟩
 have hll:l.length=n:=by rw [hl,hn]
 have hn6:n≤60000:=by omega
 obtain ⟨O,hO⟩:∃ O,O=dgA x0.1:=⟨_,rfl⟩
 have hOS:O.size=32:=by rw [hO,dgA_size,x0.2]
 obtain ⟨ob,hob⟩:∃ ob,ob=W.heap.size:=⟨_,rfl⟩
 obtain ⟨r1,hr1⟩:∃ r1,r1=ob+1:=⟨_,rfl⟩
 obtain ⟨r2,hr2⟩:∃ r2,r2=r1+1:=⟨_,rfl⟩
 obtain ⟨w0,hw0⟩:∃ w0,w0=W.alloc (.cells O 38):=⟨_,rfl⟩
 obtain ⟨w1,hw1⟩:∃ w1,w1=w0.alloc (.cells (dgA zDg.1) 38):=⟨_,rfl⟩
 obtain ⟨w2,hw2⟩:∃ w2,w2=w1.alloc (.cells (dgA zDg.1) 38):=⟨_,rfl⟩
 have hb0:Below W.heap.size W w0:=by rw [hw0];exact bel1 _ _
 have hz0:w0.heap.size=r1:=by rw [hw0,World.size_alloc];omega
 have hb1:Below W.heap.size W w1:=by rw [hw1];exact hb0.alloc hb0.size _
 have hz1:w1.heap.size=r2:=by rw [hw1,World.size_alloc];omega
 have hb2:Below W.heap.size W w2:=by rw [hw2];exact hb1.alloc hb1.size _
 have hz2:w2.heap.size=r2+1:=by rw [hw2,World.size_alloc];omega
 have hgo:w2.heap[ob]?=some (.cells O 38 (0,0)):=by rw [hw2];refine (alOlC w1 _ ob (by omega)).trans ?_;rw [hw1];exact (alOlC w0 _ ob (by omega)).trans (by rw [hw0,hob];exact heap_alloc_new _ _)
 have hg1:w2.heap[r1]?=some (.cells (dgA zDg.1) 38 (0,0)):=by rw [hw2];refine (alOlC w1 _ r1 (by omega)).trans ?_;rw [hw1,← hz0];exact heap_alloc_new _ _
 have hg2:w2.heap[r2]?=some (.cells (dgA zDg.1) 38 (0,0)):=by rw [hw2,← hz1];exact heap_alloc_new _ _
 have HPT:=hid (fun wx=>show Calls Tryz.prog 147 #[.int .i64 (old:Int),.int .i64 (size:Int)] wx (fun e w'=>∃ av c3,e=.returned (.slice av n c3)∧RS 2 spE w' av n c3 l∧(∀ x,av=some x→0 < n→wx.heap.size≤x.block∧x.block < w'.heap.size)∧Below wx.heap.size wx w') by
  refine (parts_any wx old size (Nat.le_of_lt hos) (by omega)).mono ?_
  rintro e w' ⟨v,rfl,hp,hb⟩
  rw [← hl] at hp
  unfold PO at hp
  rw [hll] at hp
  obtain ⟨av,c3,rfl,-⟩:=owns_shape hp
  refine ⟨av,c3,rfl,RS.of_owns hp (by decide) (fun _=>rfl) (by omega),fun x hx h0=>?_,hb⟩
  obtain ⟨gs,cs,hsl,hgs,-⟩:=hp.form h0
  obtain ⟨rfl,-,-⟩:=Value.slice.inj hsl
  cases hx
  exact ⟨hgs,(hp.lt gs rfl).2⟩)
 rw [← hl,← hO]
 have HH:=hid (And.intro h0 (And.intro h1 (And.intro hn6 (And.intro ht h4))))
 have HDS:=hid hds;have HLL:=hid hll;have HB2:=hid hb2;have HGO:=hid hgo;have HG1:=hid hg1;have HG2:=hid hg2;have HOS:=hid hOS
 have HO1:=hid (show O.all (·.oneCell')=true by rw [hO];exact dgA_all _)
 have HO:=hid hO
 have HR:=hid (show r1=ob+1∧r2=r1+1∧ob=W.heap.size∧w2.heap.size=r2+1 by omega)
 have HLO:=hid hlo;have HD0:=hid hd0
 obtain ⟨q0,hq0⟩:∃ q0,q0=(if lo then 0 else 1):=⟨_,rfl⟩
 obtain ⟨s0,hs0⟩:∃ s0,s0=(if lo then (x0,x0) else (d0,d0)):=⟨_,rfl⟩
 rw [← hq0,← hs0]
 have HQS:=hid (show (lo=true→q0=0∧s0=(x0,x0))∧(lo=false→q0=1∧s0=(d0,d0)) from ⟨fun e=>by rw [hq0,hs0,e];exact ⟨rfl,rfl⟩,fun e=>by rw [hq0,hs0,e];exact ⟨rfl,rfl⟩⟩)
 have HOS6:=hid (show 0 < old∧old < size∧size≤60000 from ⟨ho,hos,hs⟩)
 have hw0':W.alloc (.cells O 38)=w0:=hw0.symm
 have hw1':w0.alloc (.cells #[.int .u8 0,.int .u8 0,.int .u8 0,.int .u8 0,.int .u8 0,.int .u8 0,.int .u8 0,.int .u8 0,.int .u8 0,.int .u8 0,.int .u8 0,.int .u8 0,.int .u8 0,.int .u8 0,.int .u8 0,.int .u8 0,.int .u8 0,.int .u8 0,.int .u8 0,.int .u8 0,.int .u8 0,.int .u8 0,.int .u8 0,.int .u8 0,.int .u8 0,.int .u8 0,.int .u8 0,.int .u8 0,.int .u8 0,.int .u8 0,.int .u8 0,.int .u8 0] 38)=w1:=hw1.symm
 have hw2':w1.alloc (.cells #[.int .u8 0,.int .u8 0,.int .u8 0,.int .u8 0,.int .u8 0,.int .u8 0,.int .u8 0,.int .u8 0,.int .u8 0,.int .u8 0,.int .u8 0,.int .u8 0,.int .u8 0,.int .u8 0,.int .u8 0,.int .u8 0,.int .u8 0,.int .u8 0,.int .u8 0,.int .u8 0,.int .u8 0,.int .u8 0,.int .u8 0,.int .u8 0,.int .u8 0,.int .u8 0,.int .u8 0,.int .u8 0,.int .u8 0,.int .u8 0,.int .u8 0,.int .u8 0] 38)=w2:=hw2.symm
 have hz0':w0.heap.size=r1:=hz0
 have hz1':w1.heap.size=r2:=hz1
 have hob':W.heap.size=ob:=hob.symm
 clear hq0 hs0 h0 h1 ho hos hs hds hn ht h4 hlo hd0 hpl hl hll hn6 hO hOS hob hr1 hr2 hw0 hw1 hw2 hb0 hz0 hb1 hz1 hb2 hz2 hgo hg1 hg2
 go_enter Tryz.func148,Tryz.ntmps148
 refine wp_two_k (c:=ah0) ⟨_,_,rfl⟩ fun K hK=>?_
 have HK:=hid hK
 clear hK
 conv=>arg 2;whnf
 go_wp2_with fail
 refine HK.out _ _ ?_
 clear HK K
 have HW:=hid hob'
 clear hw0' hw1' hw2' hz0' hz1' hob'
 refine wp_two_k (c:=dropSeq 1 ah0) ⟨_,_,rfl⟩ fun K hK=>?_
 have HK:=hid hK
 clear hK
 conv=>arg 2;whnf
 go_wp2_with (go_at_call 147;refine (HPT.out _).mono ?_;rintro e w3 ⟨av,c3,rfl,hrs,hbl,hb3⟩;have HRS:=hid hrs;have HBL3:=hid hbl;have HB23:=hid hb3;clear hrs hbl hb3)
 refine HK.out _ _ ?_
 clear HK K
 rw [dropSeq_succ]
 obtain ⟨gw,hgw⟩:∃ gw,gw=w3.heap.size:=⟨_,rfl⟩
 obtain ⟨gi,hgi⟩:∃ gi,gi=gw+1:=⟨_,rfl⟩
 obtain ⟨w4,hw4⟩:∃ w4,w4=w3.alloc (.cells #[.int .i64 wd,.slice none 0 0] 234):=⟨_,rfl⟩
 obtain ⟨w5,hw5⟩:∃ w5,w5=w4.alloc (.cells #[.int .i64 wd,.slice none 0 0] 234):=⟨_,rfl⟩
 have hz4:w4.heap.size=gi:=by rw [hw4,World.size_alloc];omega
 have hz5:w5.heap.size=gi+1:=by rw [hw5,World.size_alloc];omega
 have HGW:=hid (show w5.heap[gw]?=some (.cells #[.int .i64 wd,.slice none 0 0] 234 (0,0)) by rw [hw5];refine (alOlC w4 _ gw (by omega)).trans ?_;rw [hw4,hgw];exact heap_alloc_new _ _)
 have HGI:=hid (show w5.heap[gi]?=some (.cells #[.int .i64 wd,.slice none 0 0] 234 (0,0)) by rw [hw5,← hz4];exact heap_alloc_new _ _)
 have HB35:=hid (show Below w3.heap.size w3 w5 by rw [hw5,hw4];exact (bel1 _ _).alloc (by simp) _)
 have HZ:=hid (show w3.heap.size=gw∧gi=gw+1∧w5.heap.size=gi+1 by omega)
 have hw4':w3.alloc (.cells #[.int .i64 wd,.slice none 0 0] 234)=w4:=hw4.symm
 have hw5':w4.alloc (.cells #[.int .i64 wd,.slice none 0 0] 234)=w5:=hw5.symm
 have hz4':w4.heap.size=gi:=hz4
 have hgw':w3.heap.size=gw:=hgw.symm
 clear hgw hgi hw4 hw5 hz4 hz5
 refine wp_two_k (c:=dropSeq 2 ah0) ⟨_,_,rfl⟩ fun K hK=>?_
 have HK:=hid hK
 clear hK
 conv=>arg 2;whnf
 go_wp2_with fail
 refine HK.out _ _ ?_
 clear HK K
 rw [dropSeq_succ]
 clear hw4' hw5' hz4' hgw'
 have HB5:=hid (show Below W.heap.size W w5 from (HB2.out.trans (HB23.out.mono HB2.out.size)).trans (HB35.out.mono (Nat.le_trans HB2.out.size HB23.out.size)))
 have hb25:Below w2.heap.size w2 w5:=HB23.out.trans (HB35.out.mono HB23.out.size)
 have HGO5:=hid ((hb25.block ob (by have:=HR.out;omega)).trans HGO.out)
 have HG15:=hid ((hb25.block r1 (by have:=HR.out;omega)).trans HG1.out)
 have HG25:=hid ((hb25.block r2 (by have:=HR.out;omega)).trans HG2.out)
 have HSZ:=hid (show r2+1≤gw by have:=HB23.out.size;have:=HR.out;have:=HZ.out;omega)
 obtain ⟨gA,hgA⟩:∃ gA,gA=w5.heap.size:=⟨_,rfl⟩
 obtain ⟨gB,hgB⟩:∃ gB,gB=gA+1:=⟨_,rfl⟩
 obtain ⟨w6,hw6⟩:∃ w6,w6=w5.alloc (.cells (dgA zDg.1) 38):=⟨_,rfl⟩
 obtain ⟨w7,hw7⟩:∃ w7,w7=w6.alloc (.cells (dgA zDg.1) 38):=⟨_,rfl⟩
 have hz6:w6.heap.size=gB:=by rw [hw6,World.size_alloc];omega
 have hz7:w7.heap.size=gB+1:=by rw [hw7,World.size_alloc];omega
 have hA7:w7.heap[gA]?=some (.cells (dgA zDg.1) 38 (0,0)):=by rw [hw7];refine (alOlC w6 _ gA (by omega)).trans ?_;rw [hw6,hgA];exact heap_alloc_new _ _
 have hB7:w7.heap[gB]?=some (.cells (dgA zDg.1) 38 (0,0)):=by rw [hw7,← hz6];exact heap_alloc_new _ _
 have HB57:=hid (show Below w5.heap.size w5 w7 by rw [hw7,hw6];exact (bel1 _ _).alloc (by simp) _)
 have HB56:=hid (show Below w5.heap.size w5 w6 by rw [hw6];exact bel1 _ _)
 have HZ7:=hid (show w5.heap.size=gA∧gB=gA+1∧w7.heap.size=gB+1 by omega)
 have hw6':w5.alloc (.cells #[.int .u8 0,.int .u8 0,.int .u8 0,.int .u8 0,.int .u8 0,.int .u8 0,.int .u8 0,.int .u8 0,.int .u8 0,.int .u8 0,.int .u8 0,.int .u8 0,.int .u8 0,.int .u8 0,.int .u8 0,.int .u8 0,.int .u8 0,.int .u8 0,.int .u8 0,.int .u8 0,.int .u8 0,.int .u8 0,.int .u8 0,.int .u8 0,.int .u8 0,.int .u8 0,.int .u8 0,.int .u8 0,.int .u8 0,.int .u8 0,.int .u8 0,.int .u8 0] 38)=w6:=hw6.symm
 have hw7':w6.alloc (.cells #[.int .u8 0,.int .u8 0,.int .u8 0,.int .u8 0,.int .u8 0,.int .u8 0,.int .u8 0,.int .u8 0,.int .u8 0,.int .u8 0,.int .u8 0,.int .u8 0,.int .u8 0,.int .u8 0,.int .u8 0,.int .u8 0,.int .u8 0,.int .u8 0,.int .u8 0,.int .u8 0,.int .u8 0,.int .u8 0,.int .u8 0,.int .u8 0,.int .u8 0,.int .u8 0,.int .u8 0,.int .u8 0,.int .u8 0,.int .u8 0,.int .u8 0,.int .u8 0] 38)=w7:=hw7.symm
 have hz6':w6.heap.size=gB:=hz6
 have hgA':w5.heap.size=gA:=hgA.symm
 have HA7:=hid hA7;have HB7:=hid hB7
 have HX6:=hid (show ∀ (ρ:Operand→Value) (o:Oper),o.op=.alloc 38→(execOp ρ o).run Tryz.prog w5.drew=.ok (.value (.pointer (some ⟨gA,0,none⟩))) w6.drew from fun ρ o ho=>by rw [exec_alloc38 ho,hgA,hw6];rfl)
 have HX7:=hid (show ∀ (ρ:Operand→Value) (o:Oper),o.op=.alloc 38→(execOp ρ o).run Tryz.prog w6.drew=.ok (.value (.pointer (some ⟨gB,0,none⟩))) w7.drew from fun ρ o ho=>by rw [exec_alloc38 ho,← hz6,hw7];rfl)
 have HS3:=hid (fun (x:World) (hx:x.heap[ob]?=w5.heap[ob]?)=>show (fun x=>(Instr.loadAt 38 (.pointer (some ⟨ob,0,none⟩))).run Tryz.prog x=.ok (.agg O) x) x from load_dg x ob O (hx.trans HGO5.out) HOS.out)
 have hobz:ob < w5.heap.size:=(Array.getElem?_eq_some_iff.1 HGO5.out).1
 have hs5:(fun x=>(Instr.loadAt 38 (.pointer (some ⟨ob,0,none⟩))).run Tryz.prog x=.ok (.agg O) x) w5.drew:=HS3.out _ rfl
 have hs6:(fun x=>(Instr.loadAt 38 (.pointer (some ⟨ob,0,none⟩))).run Tryz.prog x=.ok (.agg O) x) w6.drew:=HS3.out _ (HB56.out.block ob hobz)
 have hs7:(fun x=>(Instr.loadAt 38 (.pointer (some ⟨ob,0,none⟩))).run Tryz.prog x=.ok (.agg O) x) w7.drew:=HS3.out _ (HB57.out.block ob hobz)
 clear hb25 hgA hgB hw6 hw7 hz6 hz7 hA7 hB7 hobz
 refine wp_two_k (c:=dropSeq 3 ah0) ⟨_,_,rfl⟩ fun K hK=>?_
 have HK:=hid hK
 clear hK
 conv=>arg 2;whnf
 go_upto_region 3 with (fail)
 refine wp_region_held_drew (S:=fun x=>(Instr.loadAt 38 (.pointer (some ⟨ob,0,none⟩))).run Tryz.prog x=.ok (.agg O) x) (by kernel_rfl) hs5 (fun hHeld=>?_)
 apply wpL 0 (.agg O)
 · exact fun w hSw=>exec_load rfl (hSw)
 apply wpL 1 (.agg O)
 · exact fun w hSw=>exec_load rfl (hSw)
 refine wpAnyH_ready (rs:=[2,3]) (by kernel_rfl) (by simp) ?_
 refine AllReadyH.cons (o:=_) rfl (fun K hK=>?_) (AllReadyH.cons (o:=_) rfl (fun K hK=>?_) AllReadyH.nil)
 refine S_value rfl (HX6.out _ _ rfl) ?_
 apply bk hK
 · exact hs6
 intro hHeld
 clear hK K
 apply wpR 3
 intro K hK
 refine S_value rfl (HX7.out _ _ rfl) ?_
 apply bk hK
 · exact hs7
 intro hHeld
 clear hK K
 obtain ⟨g16,h16⟩:∃ g16,g16=gA:=⟨_,rfl⟩
 obtain ⟨g17,h17⟩:∃ g17,g17=gB:=⟨_,rfl⟩
 rw [← h16,← h17]
 have HP:=hid (show (g16=gA∧g17=gB)∨(g16=gB∧g17=gA) from .inl ⟨h16,h17⟩)
 clear h16 h17
 rotate_left
 refine S_value rfl (HX6.out _ _ rfl) ?_
 apply bk hK
 · exact hs6
 intro hHeld
 clear hK K
 apply wpR 2
 intro K hK
 refine S_value rfl (HX7.out _ _ rfl) ?_
 apply bk hK
 · exact hs7
 intro hHeld
 clear hK K
 obtain ⟨g16,h16⟩:∃ g16,g16=gB:=⟨_,rfl⟩
 obtain ⟨g17,h17⟩:∃ g17,g17=gA:=⟨_,rfl⟩
 rw [← h16,← h17]
 have HP:=hid (show (g16=gA∧g17=gB)∨(g16=gB∧g17=gA) from .inr ⟨h16,h17⟩)
 clear h16 h17
 all_goals
  have h67:g16 ≠ g17∧gA≤g16∧gA≤g17∧g16 < w7.heap.size∧g17 < w7.heap.size:=by
   have:=HZ7.out
   rcases HP.out with ⟨e1,e2⟩ | ⟨e1,e2⟩ <;> (subst e1;subst e2;omega)
  have hg6:w7.heap[g16]?=some (.cells (dgA zDg.1) 38 (0,0)):=by
   rcases HP.out with ⟨e1,e2⟩ | ⟨e1,e2⟩
   · rw [e1];exact HA7.out
   · rw [e1];exact HB7.out
  have hg7:w7.heap[g17]?=some (.cells (dgA zDg.1) 38 (0,0)):=by
   rcases HP.out with ⟨e1,e2⟩ | ⟨e1,e2⟩
   · rw [e2];exact HB7.out
   · rw [e2];exact HA7.out
  have HN67:=hid h67
  have hth6:=there_block (show w7.drew.heap[g16]?=some (.cells (dgA zDg.1) 38 (0,0)) from hg6)
  rw [show (dgA zDg.1).size=32 from rfl] at hth6
  have hgr8:=setCells_grown g16 O.toList 0 w7.drew
  have hs8:(fun x=>(Instr.loadAt 38 (.pointer (some ⟨ob,0,none⟩))).run Tryz.prog x=.ok (.agg O) x) (w7.drew.setCells g16 0 O.toList):=HS3.out _ ((hgr8.block ob (Nat.lt_trans (Array.getElem?_eq_some_iff.1 HGO5.out).1 (by have:=HZ7.out;show w5.heap.size < w7.heap.size;omega)) (fun e=>by have:=Option.some.inj e;have:=(Array.getElem?_eq_some_iff.1 HGO5.out).1;have:=HZ7.out;omega)).trans (HB57.out.block ob (Array.getElem?_eq_some_iff.1 HGO5.out).1))
  have hg68:=setCells_all (show w7.drew.heap[g16]?=some (.cells (dgA zDg.1) 38 (0,0)) from hg6) O.toList (by rw [Array.length_toList,HOS.out];rfl)
  have hg78:=(hgr8.block g17 h67.2.2.2.2 (fun e=>h67.1 (Option.some.inj e).symm)).trans (show w7.drew.heap[g17]?=some (.cells (dgA zDg.1) 38 (0,0)) from hg7)
  have hth8:=there_block hg78
  rw [show (dgA zDg.1).size=32 from rfl] at hth8
  have hgr9:=setCells_grown g17 O.toList 0 (w7.drew.setCells g16 0 O.toList)
  have hz8:(w7.drew.setCells g16 0 O.toList).heap.size=w7.heap.size:=setCells_size _ _ _ _
  have hk9:∀ j,j < w5.heap.size→((w7.drew.setCells g16 0 O.toList).setCells g17 0 O.toList).heap[j]?=w5.heap[j]?:=fun j hj=>(hgr9.block j (by have:=HZ7.out;rw [hz8];omega) (fun e=>by have:=Option.some.inj e;have:=HZ7.out;omega)).trans ((hgr8.block j (by have:=HZ7.out;show j < w7.heap.size;omega) (fun e=>by have:=Option.some.inj e;have:=HZ7.out;omega)).trans (HB57.out.block j hj))
  have hs9:(fun x=>(Instr.loadAt 38 (.pointer (some ⟨ob,0,none⟩))).run Tryz.prog x=.ok (.agg O) x) ((w7.drew.setCells g16 0 O.toList).setCells g17 0 O.toList):=HS3.out _ (hk9 ob (Array.getElem?_eq_some_iff.1 HGO5.out).1)
  have HG16:=hid (show ((w7.drew.setCells g16 0 O.toList).setCells g17 0 O.toList).heap[g16]?=some (.cells O 38 (0,0)) from (hgr9.block g16 (by rw [hz8];exact h67.2.2.2.1) (fun e=>h67.1 (Option.some.inj e))).trans (by simpa using hg68))
  have HG17:=hid (show ((w7.drew.setCells g16 0 O.toList).setCells g17 0 O.toList).heap[g17]?=some (.cells O 38 (0,0)) by simpa using setCells_all hg78 O.toList (by rw [Array.length_toList,HOS.out];rfl))
  have HB59:=hid (show Below w5.heap.size w5 ((w7.drew.setCells g16 0 O.toList).setCells g17 0 O.toList) from ⟨hgr9.os.trans (hgr8.os.trans HB57.out.os),hgr9.tape.trans (hgr8.tape.trans HB57.out.tape),hgr9.output.trans (hgr8.output.trans HB57.out.output),by rw [setCells_size,hz8];have:=HZ7.out;omega,hk9⟩)
  have HTH6:=hid hth6;have HTH8:=hid hth8
  have HZ9:=hid (show ((w7.drew.setCells g16 0 O.toList).setCells g17 0 O.toList).heap.size=w7.heap.size by rw [setCells_size,hz8])
  clear h67 hg6 hg7 hth6 hgr8 hg68 hg78 hth8 hgr9 hz8 hk9
  apply wpR 4
  intro K hK
  refine S_store_mid rfl 38 (.tmp 16) (.tmp 29) (by rfl) g16 0 O (by rfl) (by rfl) (by rw [HOS.out];exact HTH6.out) (by rw [HOS.out];exact info38) HO1.out ?_
  apply bk hK
  · exact hs8
  intro hHeld
  clear hK K
  apply wpR 5
  intro K hK
  refine S_store_mid rfl 38 (.tmp 17) (.tmp 30) (by rfl) g17 0 O (by rfl) (by rfl) (by rw [HOS.out];exact HTH8.out) (by rw [HOS.out];exact info38) HO1.out ?_
  apply bk hK
  · exact hs9
  intro hHeld
  clear hK K
  apply wpT 6
  refine wpAnyH_done (by kernel_rfl) ?_ _
  clear hs5 hs6 hs7 hs8 hs9 hw6' hw7' hz6' hgA'
  generalize (w7.drew.setCells g16 0 O.toList).setCells g17 0 O.toList=w9 at *
  clear HTH6 HTH8
  go_wp2_with fail
  refine HK.out _ _ ?_
  clear HK K
  rw [dropSeq_succ]
  have hzw:w7.heap.size=gB+1:=HZ7.out.2.2
  have hm1:(old:Int) - 1=((old - 1:Nat):Int):=by have:=HOS6.out;omega
  have hbit:=bits_and_nat old (old - 1) (by have:=HOS6.out;omega) (by have:=HOS6.out;omega)
  have ho6:old≤60000:=by have:=HOS6.out;omega
  have hw7:Below W.heap.size W w9:=HB5.out.trans (HB59.out.mono HB5.out.size)
  have HB9:=hid hw7
  have HBW3:=hid (show Below w3.heap.size w3 w9 from HB35.out.trans (HB59.out.mono HB35.out.size))
  have HRS9:=hid (show RS 2 spE w9 av n c3 l from HRS.out.below HBW3.out)
  have HAV:=hid (show ∀ x,av=some x→0 < n→x.block < gw from fun x hx h0=>by have:=(HBL3.out x hx h0).2;have:=HZ.out;omega)
  have h5:=HZ.out
  have HGW9:=hid ((HB59.out.block gw (by omega)).trans HGW.out)
  have HGI9:=hid ((HB59.out.block gi (by omega)).trans HGI.out)
  have HR19:=hid ((HB59.out.block r1 (by have:=HSZ.out;have:=HR.out;omega)).trans HG15.out)
  have HR29:=hid ((HB59.out.block r2 (by have:=HSZ.out;omega)).trans HG25.out)
  have HDD:=hid (show AhD w9 gw gi g16 g17 from by
   have h1:=HN67.out;have h2:=HZ7.out;have h3:=HZ9.out;have h4:=HR.out;have h6:=HSZ.out;have h7:=HH.out
   exact ⟨by omega,by omega,by omega,by omega,by omega,by omega,by omega,by omega,by omega,h1.1,by omega,by omega⟩)
  have hLOOP:=fun (q:Nat) (s:Dg × Dg) (wf:World) (hk:Below 0 w9 wf) (hkk:∀ j,j < w9.heap.size→j ≠ g16→j ≠ g17→wf.heap[j]?=w9.heap[j]?) (ha:wf.heap[g16]?=some (.cells (dgA s.1.1) 38 (0,0))) (hbb:wf.heap[g17]?=some (.cells (dgA s.2.1) 38 (0,0))) (hq:q≤n)=>by
   have h1:=HN67.out;have h2:=HZ7.out;have h3:=HZ9.out;have h4:=HR.out;have h6:=HSZ.out;have h7:=HH.out
   have d9:=HDD.out
   have hsz9:w9.heap.size≤wf.heap.size:=hk.size
   have hkw:∀ j,j < gA→wf.heap[j]?=w9.heap[j]?:=fun j hj=>hkk j (by omega) (by omega) (by omega)
   have hbf:Below W.heap.size W wf:=⟨hk.os.trans HB9.out.os,hk.tape.trans HB9.out.tape,hk.output.trans HB9.out.output,Nat.le_trans HB9.out.size hsz9,fun j hj=>(hkw j (by omega)).trans (HB9.out.block j hj)⟩
   exact ahead_loop W wf wd HH.out.1 HH.out.2.1 old size a n c ds HDS.out l HLL.out HH.out.2.2.1 ho6 av c3 (RS.of_same HRS9.out (fun x hx h0=>hkw x.block (by have:=HAV.out x hx h0;omega))) r1 r2 gw gi g16 g17 q
    ⟨by omega,by omega,by have:=d9.l16;omega,by have:=d9.l17;omega,d9.nwi,d9.n16w,d9.n16i,d9.n17w,d9.n17i,d9.n1617,d9.bw,d9.bi⟩ (fun x hx h0=>by have:=HAV.out x hx h0;omega) (by omega) (by omega) (by omega) (by omega) (by omega) (by omega) s
    ⟨ha,hbb,⟨.slice none 0 0,.slice none 0 0,0,0,Nat.zero_le _,Nat.zero_le _,⟨(hkw gw (by omega)).trans HGW9.out,[],World.ownsRow_nil _ _ _ _,fun u hu=>by cases hu⟩,⟨(hkw gi (by omega)).trans HGI9.out,[],World.ownsRow_nil _ _ _ _,fun u hu=>by cases hu⟩,fun j hj=>by cases hj⟩,Below.refl _ _,fun _ _ _ _ _ _=>rfl⟩
    ((hkw r1 (by omega)).trans HR19.out) ((hkw r2 (by omega)).trans HR29.out) hq hbf HH.out.2.2.2.1 HH.out.2.2.2.2
  have HLOOP:=hid hLOOP
  clear hLOOP hzw hw7 h5
  cases lo with
  | true =>
    obtain ⟨rfl,rfl⟩:=HQS.out.1 rfl
    have hz0:=HLO.out.1 rfl
    rw [hz0] at hbit
    have hbit:bits .and .i64 (old:Int) ((old - 1:Nat):Int)=0:=hbit
    clear hz0
    refine wp_two_k (c:=dropSeq 4 ah0) ⟨_,_,rfl⟩ fun K hK=>?_
    have HK:=hid hK
    clear hK
    conv=>arg 2;whnf
    go_wp2_with fail
    refine HK.out _ _ ?_
    clear HK K
    rw [dropSeq_succ]
    exact HLOOP.out 0 (x0,x0) w9 (Below.refl _ _) (fun _ _ _ _=>rfl) (by rw [← HO.out];exact HG16.out) (by rw [← HO.out];exact HG17.out) (Nat.zero_le _) _ _ _ _ _ _ _ _ _ _ _ _ _ _ _ _ _ _ _ _ _ _ _ _ _ _ _ _ _ _ _ _ _ _ _ _ _ _ _ _ _ _ _ _ _ _ _ _ _ _ _ _ _ _ _ _ _ _ _ _ _ _ _ _ _ _ _ _ _ _ _ _ _ _ _
  | false =>
    obtain ⟨rfl,rfl⟩:=HQS.out.2 rfl
    obtain ⟨m,hm⟩:∃ m,m=old &&& (old - 1):=⟨_,rfl⟩
    rw [← hm] at hbit
    have hm0:m ≠ 0:=by rw [hm];intro e;exact absurd (HLO.out.2 e) (by decide)
    have hmb:((m:Int) != 0)=true:=by simp;omega
    have hmb2:((m:Int) == 0)=false:=by simp;omega
    have hd0:=HD0.out rfl
    obtain ⟨b',off',rfl,hbl,hr⟩:=HDS.out.at hd0
    have hn0:0 < n:=by have:=HDS.out.1;have:=(List.getElem?_eq_some_iff.1 hd0).1;omega
    have hcap:=HDS.out.2.1
    have hn6:n≤60000:=HH.out.2.2.1
    obtain ⟨Yv,hYv⟩:∃ Yv,Yv=dgA d0.1:=⟨_,rfl⟩
    have hYS:Yv.size=32:=by rw [hYv,dgA_size,d0.2]
    have HY1:=hid (show Yv.all (·.oneCell')=true by rw [hYv];exact dgA_all _)
    have hr2:W.rangeAt b' off' Yv.toList:=by rw [hYv];rw [Nat.zero_mul,Nat.add_zero] at hr;simpa [dgA] using hr
    have HSS:=hid (show ∀ x:World,x.heap[b']?=W.heap[b']?→(fun x=>(Instr.loadAt 38 (.pointer (some ⟨b',off',none⟩))).run Tryz.prog x=.ok (.agg Yv) x) x from fun x hx=>load_dig (fun j v hv=>(World.cell?_of_block hx).trans (hr2 j v hv)) hYS)
    have hob:∀ j,j < W.heap.size→j < w9.heap.size∧j ≠ g16∧j ≠ g17:=fun j hj=>by have h1:=HN67.out;have h2:=HZ7.out;have h3:=HZ9.out;have h4:=HR.out;have h6:=HSZ.out;have h7:=HZ.out;refine ⟨?_,?_,?_⟩ <;> omega
    have hs9:(fun x=>(Instr.loadAt 38 (.pointer (some ⟨b',off',none⟩))).run Tryz.prog x=.ok (.agg Yv) x) w9.drew:=HSS.out _ (HB9.out.block b' hbl)
    have hth6:=there_block (show w9.drew.heap[g16]?=some (.cells O 38 (0,0)) from HG16.out)
    rw [HOS.out] at hth6
    have hgr8:=setCells_grown g16 Yv.toList 0 w9.drew
    have hs10:(fun x=>(Instr.loadAt 38 (.pointer (some ⟨b',off',none⟩))).run Tryz.prog x=.ok (.agg Yv) x) (w9.drew.setCells g16 0 Yv.toList):=HSS.out _ ((hgr8.block b' (hob b' hbl).1 (fun e=>(hob b' hbl).2.1 (Option.some.inj e))).trans (HB9.out.block b' hbl))
    have hg68:=setCells_all (show w9.drew.heap[g16]?=some (.cells O 38 (0,0)) from HG16.out) Yv.toList (by rw [Array.length_toList,HOS.out,hYS])
    have hg78:=(hgr8.block g17 (by have:=HDD.out.l17;exact this) (fun e=>HDD.out.n1617 (Option.some.inj e).symm)).trans (show w9.drew.heap[g17]?=some (.cells O 38 (0,0)) from HG17.out)
    have hth8:=there_block hg78
    rw [HOS.out] at hth8
    have hgr9:=setCells_grown g17 Yv.toList 0 (w9.drew.setCells g16 0 Yv.toList)
    have hz8:(w9.drew.setCells g16 0 Yv.toList).heap.size=w9.heap.size:=setCells_size _ _ _ _
    have hk9:∀ j,j < w9.heap.size→j ≠ g16→j ≠ g17→((w9.drew.setCells g16 0 Yv.toList).setCells g17 0 Yv.toList).heap[j]?=w9.heap[j]?:=fun j hj h1 h2=>(hgr9.block j (by rw [hz8];exact hj) (fun e=>h2 (Option.some.inj e))).trans (hgr8.block j hj (fun e=>h1 (Option.some.inj e)))
    have hs11:(fun x=>(Instr.loadAt 38 (.pointer (some ⟨b',off',none⟩))).run Tryz.prog x=.ok (.agg Yv) x) ((w9.drew.setCells g16 0 Yv.toList).setCells g17 0 Yv.toList):=HSS.out _ ((hk9 b' (hob b' hbl).1 (hob b' hbl).2.1 (hob b' hbl).2.2).trans (HB9.out.block b' hbl))
    have HGX:=hid (show ((w9.drew.setCells g16 0 Yv.toList).setCells g17 0 Yv.toList).heap[g16]?=some (.cells Yv 38 (0,0)) from (hgr9.block g16 (by rw [hz8];exact HDD.out.l16) (fun e=>HDD.out.n1617 (Option.some.inj e))).trans (by simpa using hg68))
    have HGY:=hid (show ((w9.drew.setCells g16 0 Yv.toList).setCells g17 0 Yv.toList).heap[g17]?=some (.cells Yv 38 (0,0)) by simpa using setCells_all hg78 Yv.toList (by rw [Array.length_toList,HOS.out,hYS]))
    have HK9:=hid hk9
    have HBX:=hid (show Below 0 w9 ((w9.drew.setCells g16 0 Yv.toList).setCells g17 0 Yv.toList) from ⟨hgr9.os.trans hgr8.os,hgr9.tape.trans hgr8.tape,hgr9.output.trans hgr8.output,by rw [setCells_size,hz8];exact Nat.le_refl _,fun j hj=>absurd hj (Nat.not_lt_zero j)⟩)
    have HTH6:=hid hth6;have HTH8:=hid hth8;have HYS:=hid hYS;have HYV:=hid hYv
    clear hm0 hm hd0 hbl hr hr2 hob hth6 hgr8 hg68 hg78 hth8 hgr9 hz8 hk9 hYv hYS
    refine wp_two_k (c:=dropSeq 4 ah0) ⟨_,_,rfl⟩ fun K hK=>?_
    have HK:=hid hK
    clear hK
    conv=>arg 2;whnf
    go_upto_region 5 with (fail)
    refine wp_region_held_drew (S:=fun x=>(Instr.loadAt 38 (.pointer (some ⟨b',off',none⟩))).run Tryz.prog x=.ok (.agg Yv) x) (by kernel_rfl) hs9 (fun hHeld=>?_)
    apply wpT 0
    apply wpT 1
    apply wpL 2 (.agg Yv)
    · exact fun w hSw=>exec_load rfl (hSw)
    apply wpT 3
    apply wpT 4
    apply wpL 5 (.agg Yv)
    · exact fun w hSw=>exec_load rfl (hSw)
    apply wpR 6
    intro K hK
    refine S_store_mid rfl 38 (.tmp 16) (.tmp 38) (by rfl) g16 0 Yv (by rfl) (by rfl) (by rw [HYS.out];exact HTH6.out) (by rw [HYS.out];exact info38) HY1.out ?_
    apply bk hK
    · exact hs10
    intro hHeld
    clear hK K
    apply wpR 7
    intro K hK
    refine S_store_mid rfl 38 (.tmp 17) (.tmp 41) (by rfl) g17 0 Yv (by rfl) (by rfl) (by rw [HYS.out];exact HTH8.out) (by rw [HYS.out];exact info38) HY1.out ?_
    apply bk hK
    · exact hs11
    intro hHeld
    clear hK K
    apply wpT 8
    refine wpAnyH_done (by kernel_rfl) ?_ _
    clear hs9 hs10 hs11
    generalize (w9.drew.setCells g16 0 Yv.toList).setCells g17 0 Yv.toList=w10 at *
    clear HTH6 HTH8
    go_wp2_with fail
    refine HK.out _ _ ?_
    clear HK K
    rw [dropSeq_succ]
    exact HLOOP.out 1 (d0,d0) w10 HBX.out HK9.out (by rw [← HYV.out];exact HGX.out) (by rw [← HYV.out];exact HGY.out) (by omega) _ _ _ _ _ _ _ _ _ _ _ _ _ _ _ _ _ _ _ _ _ _ _ _ _ _ _ _ _ _ _ _ _ _ _ _ _ _ _ _ _ _ _ _ _ _ _ _ _ _ _ _ _ _ _ _ _ _ _ _ _ _ _ _ _ _ _ _ _ _ _ _ _ _ _
end
section
open Go.Maps Go.WideMaps Go.ChangeMaps
set_option maxHeartbeats 8000000
theorem consT_any (w:World) (Ly:Lay) (τ:Nat→Nat) (gt gd:Nat) (d:Dm) (T:TT) (Y:TY) (h:BT w Ly τ gt gd d T Y) (hlv:T.live d tlN=0) (ht:RoundTab w) (htz:TabAt 1 Lib.deBruijn64tab w) (old size:Nat) (ho:old≤size) (hs:size≤T.L.length) :
 Calls Tryz.prog 78 #[.pointer (some ⟨gt,0,none⟩),.int .i64 (old:Int),.int .i64 (size:Int)] w fun e w'=>∃ v,e=.returned (.tuple #[v,.nilIface])∧w'.ownsRow w.heap.size 38 32 v (partsP old size).length (((partsP old size).map (partD T.wd T.L)).flatMap dgE)∧Below w.heap.size w w':=by
 have hfew:=h.t.few
 have h4:=h.t.sz
 have HASK:=hid (ask_any w Ly τ gt gd d T Y h hlv ⟨#[67,111,110,115,105,115,116,101,110,99,121]⟩)
 have HTC:=hid (fun (wx:World) (hb:Below w.heap.size w wx)=>tcons62 wx T.wd T.L gt h.t.wdb old size ho (by omega) (by have:=hb.size;omega) (rt_below ht hb (by omega)) (tab_below htz hb (by omega)) (fun wy q i hby hq hi=>at_any wy τ gt gd T Y (h.t.below (hb.trans (hby.mono hb.size))) q i hq (by omega) (rt_below ht (hb.trans (hby.mono hb.size)) (by omega))))
 obtain ⟨-,-,-,c3,c4,-⟩:=h.t.cells
 have HC3:=hid (show ∀ wx,Below w.heap.size w wx→wx.cell? ⟨gt,3,none⟩=some (.int .i64 T.wd) from fun wx hb=>(hb.cell (h.t.dom gt (by rw [h.t.lg];decide))).trans c3)
 have d1:decide ((0:Int)≤(old:Int))=true:=by simp
 have d2:decide ((old:Int)≤(size:Int))=true:=by simp;omega
 have d3:decide ((size:Int)≤(T.L.length:Int))=true:=by simp;omega
 have d4:decide (old≤size)=true:=by simp;omega
 have d5:decide (size≤T.L.length)=true:=by simp;omega
 clear ho hs
 clear h hlv ht htz hfew h4 c3
 go_enter Tryz.func78,Tryz.ntmps78
 go_wp2_with (first
  | (go_at_call 59;refine HASK.out.mono ?_;rintro e w2 ⟨rfl,hb2⟩;have HB2:=hid hb2;have c3:=HC3.out w2 hb2;clear hb2)
  | (go_at_call 79;refine (HTC.out _ HB2.out).mono ?_;rintro e w3 ⟨v,rfl,ho,hb3⟩))
 go_ret2
 exact ⟨_,rfl,⟨ho.1,ho.2.imp id fun ⟨g,cap,cur,hv,hg,r⟩=>⟨g,cap,cur,hv,Nat.le_trans HB2.out.size hg,r⟩⟩,HB2.out.trans (hb3.mono HB2.out.size)⟩
theorem inclT_any (w:World) (Ly:Lay) (τ:Nat→Nat) (gt gd:Nat) (d:Dm) (T:TT) (Y:TY) (h:BT w Ly τ gt gd d T Y) (hlv:T.live d tlN=0) (ht:RoundTab w) (htz:TabAt 1 Lib.deBruijn64tab w) (size i:Nat) (hi:i < size) (hs:size≤T.L.length) :
 Calls Tryz.prog 82 #[.pointer (some ⟨gt,0,none⟩),.int .i64 (size:Int),.int .i64 (i:Int)] w fun e w'=>∃ v,e=.returned (.tuple #[v,.nilIface])∧w'.ownsRow w.heap.size 38 32 v ((wayP size 0 size i).reverse).length ((((wayP size 0 size i).reverse).map (partD T.wd T.L)).flatMap dgE)∧Below w.heap.size w w':=by
 have hfew:=h.t.few
 have h4:=h.t.sz
 have HASK:=hid (ask_any w Ly τ gt gd d T Y h hlv ⟨#[73,110,99,108,117,115,105,111,110]⟩)
 have HTC:=hid (fun (wx:World) (hb:Below w.heap.size w wx)=>tincl62 wx T.wd T.L gt h.t.wdb size i hi (by omega) (by have:=hb.size;omega) (rt_below ht hb (by omega)) (tab_below htz hb (by omega)) (fun wy q i hby hq hi=>at_any wy τ gt gd T Y (h.t.below (hb.trans (hby.mono hb.size))) q i hq (by omega) (rt_below ht (hb.trans (hby.mono hb.size)) (by omega))))
 obtain ⟨-,-,-,c3,c4,-⟩:=h.t.cells
 have HC3:=hid (show ∀ wx,Below w.heap.size w wx→wx.cell? ⟨gt,3,none⟩=some (.int .i64 T.wd) from fun wx hb=>(hb.cell (h.t.dom gt (by rw [h.t.lg];decide))).trans c3)
 have d1:decide ((1:Int)≤(size:Int))=true:=by simp;omega
 have d2:decide ((size:Int)≤(T.L.length:Int))=true:=by simp;omega
 have d3:decide ((0:Int)≤(i:Int))=true:=by simp
 have d4:decide ((i:Int) < (size:Int))=true:=by simp;omega
 have d5:decide (size≤T.L.length)=true:=by simp;omega
 have d6:decide (i < size)=true:=by simp;omega
 clear hi hs
 clear h hlv ht htz hfew h4 c3
 go_enter Tryz.func82,Tryz.ntmps82
 go_wp2_with (first
  | (go_at_call 59;refine HASK.out.mono ?_;rintro e w2 ⟨rfl,hb2⟩;have HB2:=hid hb2;have c3:=HC3.out w2 hb2;clear hb2)
  | (go_at_call 83;refine (HTC.out _ HB2.out).mono ?_;rintro e w3 ⟨v,rfl,ho,hb3⟩))
 go_ret2
 exact ⟨_,rfl,⟨ho.1,ho.2.imp id fun ⟨g,cap,cur,hv,hg,r⟩=>⟨g,cap,cur,hv,Nat.le_trans HB2.out.size hg,r⟩⟩,HB2.out.trans (hb3.mono HB2.out.size)⟩
end
section
open Go.Maps Go.WideMaps Go.ChangeMaps
theorem size5 (w:World):(Go.sizeOf 5).run Tryz.prog w=.ok 1 w:=by kernel_rfl
theorem dgA_cell (l:List UInt8):dgA l=(l.map Extern.Stop.cell).toArray:=rfl
theorem eql_dg (x y:Dg) (w:World):(binOp .eql 38 (.agg (dgA x.1)) (.agg (dgA y.1))).run Tryz.prog w=.ok (.bool (x.1 == y.1)) w:=by
 rw [dgA_cell,dgA_cell]
 exact run_eql_bytes w 38 5 32 Tryz.underlying38 Tryz.underlying5 size5 x.1 y.1 x.2 y.2
theorem neq_dg (x y:Dg) (w:World):(binOp .neq 38 (.agg (dgA x.1)) (.agg (dgA y.1))).run Tryz.prog w=.ok (.bool (!(x.1 == y.1))) w:=by
 rw [dgA_cell,dgA_cell]
 rw [run_neq_struct,run_equalIn_bytes w 9998 38 5 32 Tryz.underlying38 Tryz.underlying5 size5 x.1 y.1 x.2 y.2]
 rfl
end
end Go.Proofs.YtgkehahklccacaaGreatDoor
