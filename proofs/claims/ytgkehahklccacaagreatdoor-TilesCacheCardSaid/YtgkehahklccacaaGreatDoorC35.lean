import Derived.Test.YtgkehahklccacaaGreatDoorC03
import Derived.Test.YtgkehahklccacaaGreatDoorC28
import Derived.Test.YtgkehahklccacaaGreatDoorC34
namespace Go.Proofs.YtgkehahklccacaaGreatDoor
open Go Go.RowKit
open Go.Lib (hid)
set_option maxRecDepth 100000
set_option maxHeartbeats 1000000
set_option linter.unusedVariables false
set_option linter.unusedSimpArgs false
section
open Go.Maps Go.WideMaps Go.ChangeMaps
structure AhSt (w wr:World) (gw gi g16 g17:Nat) (wd:Int) (k:Nat) (x y:Array Value):Prop where
 a:wr.heap[g16]?=some (.cells x 38 (0,0))
 b:wr.heap[g17]?=some (.cells y 38 (0,0))
 two:∃ tv tv',Two wr w.heap.size gw gi wd k tv tv'
 fr:Below 0 w wr
 blk:∀ j,j < w.heap.size→j ≠ gw→j ≠ gi→j ≠ g16→j ≠ g17→wr.heap[j]?=w.heap[j]?
structure AhD (w:World) (gw gi g16 g17:Nat):Prop where
 lw:gw < w.heap.size
 li:gi < w.heap.size
 l16:g16 < w.heap.size
 l17:g17 < w.heap.size
 nwi:gw ≠ gi
 n16w:g16 ≠ gw
 n16i:g16 ≠ gi
 n17w:g17 ≠ gw
 n17i:g17 ≠ gi
 n1617:g16 ≠ g17
 bw:3 < gw
 bi:3 < gi
theorem AhSt.swap {w wr:World} {gw gi g16 g17 k:Nat} {wd:Int} {x y:Array Value} (h:AhSt w wr gw gi g16 g17 wd k x y):AhSt w wr gi gw g17 g16 wd k y x:=by
 obtain ⟨tv,tv',ht⟩:=h.two
 exact ⟨h.b,h.a,⟨tv',tv,ht.swap⟩,h.fr,fun j h1 h2 h3 h4 h5=>h.blk j h1 h3 h2 h5 h4⟩
theorem AhD.swap {w:World} {gw gi g16 g17:Nat} (h:AhD w gw gi g16 g17):AhD w gi gw g17 g16:=⟨h.li,h.lw,h.l17,h.l16,h.nwi.symm,h.n17i,h.n17w,h.n16i,h.n16w,h.n1617.symm,h.bi,h.bw⟩
theorem AhSt.step {w wr w6:World} {gw gi g16 g17 k:Nat} {wd:Int} {x y z:Array Value} {tv':Value} (h:AhSt w wr gw gi g16 g17 wd k x y) (hd:AhD w gw gi g16 g17) (hb:Below 0 wr w6) (h2:∃ tv1,Two w6 w.heap.size gw gi wd (k+1) tv1 tv') (hk:∀ j,j < w.heap.size→j ≠ gw→w6.heap[j]?=wr.heap[j]?) (hz:z.size=32) (hx:x.size=32) :
 AhSt w (w6.setCells g16 0 z.toList) gw gi g16 g17 wd (k+1) z y:=by
 have hgr:=setCells_grown g16 z.toList 0 w6
 have hsz:w.heap.size≤w6.heap.size:=Nat.le_trans h.fr.size hb.size
 have ha6:=(hk g16 hd.l16 hd.n16w).trans h.a
 have hset:=setCells_all ha6 z.toList (by rw [Array.length_toList,hz,hx])
 have hne:∀ j,j ≠ g16→j < w6.heap.size→(w6.setCells g16 0 z.toList).heap[j]?=w6.heap[j]?:=fun j hj hl=>hgr.block j hl (fun e=>hj (Option.some.inj e))
 refine ⟨by simpa using hset,(hne g17 hd.n1617.symm (Nat.lt_of_lt_of_le hd.l17 hsz)).trans ((hk g17 hd.l17 hd.n17w).trans h.b),?_,(h.fr.trans hb).trans ⟨hgr.os,hgr.tape,hgr.output,hgr.size,fun j hj=>absurd hj (Nat.not_lt_zero j)⟩,fun j h1 h3 h4 h5 h6=>(hne j h5 (Nat.lt_of_lt_of_le h1 hsz)).trans ((hk j h1 h3).trans (h.blk j h1 h3 h4 h5 h6))⟩
 obtain ⟨tv1,ht⟩:=h2
 exact ⟨tv1,tv',ht.keep (hne gw hd.n16w.symm (Nat.lt_of_lt_of_le hd.lw hsz)) (hne gi hd.n16i.symm (Nat.lt_of_lt_of_le hd.li hsz)) (fun j hj hl=>hne j (by have:=hd.l16;omega) hl)⟩
theorem AhSt.node {w wr:World} {gw gi g16 g17 k:Nat} {wd:Int} {x y:Array Value} (h:AhSt w wr gw gi g16 g17 wd k x y) (hd:AhD w gw gi g16 g17) (h0:-9223372036854775808≤wd) (h1:wd≤9223372036854775807) (hk:k≤1000000) (ht:RoundTab wr) (h4:4≤w.heap.size) (l r:Dg) :
 ∃ tv',Calls Tryz.prog 205 #[.pointer (some ⟨gw,0,none⟩),.agg (dgA l.1),.agg (dgA r.1)] wr.drew fun e w'=>e=.returned (.agg (dgA (nodeD wd l r).1))∧(∃ tv1,Two w' w.heap.size gw gi wd (k+1) tv1 tv')∧Below 0 wr.drew w'∧∀ j,j < w.heap.size→j ≠ gw→w'.heap[j]?=wr.drew.heap[j]?:=by
 obtain ⟨tv,tv',h2⟩:=h.two
 exact ⟨tv',two_node wr.drew w.heap.size gw gi k tv tv' wd h0 h1 (h2.keep (w':=wr.drew) rfl rfl (fun _ _ _=>rfl)) hd.nwi hk h.fr.size l r (fun i hi=>ht i hi) (by omega) hd.bw hd.li⟩
theorem ahead_take (wd:Int) (old:Nat) (Z:List ((Nat × Nat) × Dg)) (s:Dg × Dg) (q k:Nat) (hq:q≤k) (x:(Nat × Nat) × Dg) (h:Z[k]?=some x):aheadW wd old ((Z.take (k+1)).drop q) s=aheadS wd old (aheadW wd old ((Z.take k).drop q) s) x:=by
 have hk:k < Z.length:=(List.getElem?_eq_some_iff.1 h).1
 unfold aheadW
 rw [List.take_add_one,h,List.drop_append_of_le_length (by rw [List.length_take];omega),List.foldl_append]
 rfl
noncomputable def ah0:Code:=Tryz.f148.body.getD .skip
def AhRet (W:World) (R:Dg × Dg) (e:Ending) (w':World):Prop:=∃ v,e=.returned (.tuple #[.agg (dgA R.1.1),.agg (dgA R.2.1),v])∧Below W.heap.size W w'
set_option maxHeartbeats 16000000
theorem ahead_loop (W w:World) (wd:Int) (h0:-9223372036854775808≤wd) (h1:wd≤9223372036854775807) (old size:Nat) (a:Option Addr) (n c:Nat) (ds:List Dg) (hds:DS W a n c ds) (l:List (Nat × Nat)) (hll:l.length=n) (hn6:n≤60000) (ho6:old≤60000) (av:Option Addr) (c3:Nat) (hrs:RS 2 spE w av n c3 l)
 (r1 r2 gw gi g16 g17 q0:Nat) (hD:AhD w gw gi g16 g17) (hav:∀ x,av=some x→0 < n→x.block ≠ gw∧x.block ≠ gi∧x.block ≠ g16∧x.block ≠ g17) (hr1:W.heap.size≤r1) (hr12:r1 < r2) (hrw:r2 < gw) (hri:r2 < gi) (hr6:r2 < g16) (hr7:r2 < g17) (s0:Dg × Dg) (hst:AhSt w w gw gi g16 g17 wd q0 (dgA s0.1.1) (dgA s0.2.1))
 (hz1:w.heap[r1]?=some (.cells (dgA zDg.1) 38 (0,0))) (hz2:w.heap[r2]?=some (.cells (dgA zDg.1) 38 (0,0))) (hq:q0≤n) (hb:Below W.heap.size W w) (ht:RoundTab W) (h4:4≤W.heap.size) (u3 u5 u6 u7 u8 u9 u19 u20 u21 u22 u23 u24 u25 u26 u27 u28 u29 u30 u31 u32 u33 u34 u35 u36 u37 u38 u39 u40 u41 u42 u43 u44 u45 u46 u47 u48 u49 u50 u51 u52 u53 u54 u55 u56 u57 u58 u59 u60 u61 u62 u63 u64 u65 u66 u67 u68 u69 u70 u71 u72 u73 u74 u75 u76 u77 u78 u79 u80 u81 u82 u83 u84 u85 u86 u87:Value) :
 Code.wp Tryz.prog (dropSeq 5 ah0) (bodyPost Tryz.prog Tryz.f148 (AhRet W (aheadW wd old ((l.zip ds).drop q0) s0))) ⟨#[.int .i64 wd,.int .i64 (old:Int),.int .i64 (size:Int),u3,.slice a n c,u5,u6,u7,u8,u9,.pointer (some ⟨r1,0,none⟩),.pointer (some ⟨r2,0,none⟩),.slice none 0 0,.slice av n c3,.pointer (some ⟨gw,0,none⟩),.pointer (some ⟨gi,0,none⟩),.pointer (some ⟨g16,0,none⟩),.pointer (some ⟨g17,0,none⟩),.int .i64 (q0:Int),u19,u20,u21,u22,u23,u24,u25,u26,u27,u28,u29,u30,u31,u32,u33,u34,u35,u36,u37,u38,u39,u40,u41,u42,u43,u44,u45,u46,u47,u48,u49,u50,u51,u52,u53,u54,u55,u56,u57,u58,u59,u60,u61,u62,u63,u64,u65,u66,u67,u68,u69,u70,u71,u72,u73,u74,u75,u76,u77,u78,u79,u80,u81,u82,u83,u84,u85,u86,u87],[]⟩ w:=by
 obtain ⟨Z,hZ⟩:∃ Z,Z=l.zip ds:=⟨_,rfl⟩
 rw [← hZ]
 have HZZ:=hid hZ
 have HD:=hid hD;have HDS:=hid hds;have HLL:=hid hll;have HRS:=hid hrs;have HAV:=hid hav;have HB:=hid hb;have HST:=hid hst
 have HH:=hid (And.intro h0 (And.intro h1 (And.intro hn6 (And.intro ht h4))))
 have HR:=hid (show W.heap.size≤r1∧r1 < r2∧r2 < gw∧r2 < gi∧r2 < g16∧r2 < g17 from ⟨hr1,hr12,hrw,hri,hr6,hr7⟩)
 have HZ12:=hid (And.intro hz1 hz2)
 have HQ:=hid hq
 have HO6:=hid ho6
 clear hZ hD hds hll hrs hav hb hst h0 h1 hn6 ht h4 hr1 hr12 hrw hri hr6 hr7 hz1 hz2 hq ho6
 refine wp_two_k (c:=dropSeq 5 ah0) ⟨_,_,rfl⟩ fun K hK=>?_
 have HK:=hid hK
 clear hK
 conv=>arg 2;whnf
 go_wp2_with fail
 go_loopw [19] (fun v wr=>∃ k:Nat,q0≤k∧k≤n∧v=.int .i64 (k:Int)∧AhSt w wr gw gi g16 g17 wd (2 * k) (dgA (aheadW wd old ((Z.take k).drop q0) s0).1.1) (dgA (aheadW wd old ((Z.take k).drop q0) s0).2.1)) (fun v _=>n - (intOf v).toNat)
 case atStart =>
  refine ⟨q0,Nat.le_refl _,HQ.out,rfl,?_⟩
  rw [List.drop_eq_nil_of_le (by rw [List.length_take];omega)]
  obtain ⟨q1,q2,⟨tv,tv',q3⟩,q4,q5⟩:=HST.out
  exact ⟨q1,q2,⟨tv,tv',q3.mono (by omega)⟩,q4,q5⟩
 case round =>
  obtain ⟨k,hqk,hk,rfl,hst⟩:=hrel
  by_cases hlt:k < n
  · obtain ⟨p,hp⟩:∃ p,l[k]?=some p:=⟨_,List.getElem?_eq_getElem (by have:=HLL.out;omega)⟩
    obtain ⟨y,hy⟩:∃ y,ds[k]?=some y:=⟨_,List.getElem?_eq_getElem (by have:=HDS.out.1;omega)⟩
    obtain ⟨pa,pb⟩:=p
    have hzk:Z[k]?=some ((pa,pb),y):=by rw [HZZ.out,List.getElem?_zip_eq_some];exact ⟨hp,hy⟩
    obtain ⟨gs,off,rfl,hcs⟩:=HRS.out.2.2.2 k (pa,pb) hp
    obtain ⟨b',off',rfl,hbl,hr⟩:=HDS.out.at hy
    have hgs3:gs < w.heap.size:=World.block_lt_of_cell? w _ (hcs 0 (.int .i64 (pa:Int)) rfl)
    have hgn:=HAV.out _ rfl (by omega)
    have c0:wr.cell? ⟨gs,off+k * 2,none⟩=some (.int .i64 (pa:Int)):=(World.cell?_of_block (hst.blk gs hgs3 hgn.1 hgn.2.1 hgn.2.2.1 hgn.2.2.2)).trans (hcs 0 (.int .i64 (pa:Int)) rfl)
    have hbn:b' < w.heap.size∧b' ≠ gw∧b' ≠ gi∧b' ≠ g16∧b' ≠ g17:=by have:=HR.out;have:=HB.out.size;refine ⟨?_,?_,?_,?_,?_⟩ <;> omega
    have hrd:wr.rangeAt b' (off'+k * 32) (y.1.map b8):=fun j v hv=>(World.cell?_of_block ((hst.blk b' hbn.1 hbn.2.1 hbn.2.2.1 hbn.2.2.2.1 hbn.2.2.2.2).trans (HB.out.block b' hbl))).trans (hr j v hv)
    obtain ⟨Yv,hYv⟩:∃ Yv,Yv=dgA y.1:=⟨_,rfl⟩
    have hYS:Yv.size=32:=by rw [hYv,dgA_size,y.2]
    have hrd:wr.rangeAt b' (off'+k * 32) Yv.toList:=by rw [hYv];simpa [dgA] using hrd
    have hrt:RoundTab wr:=fun q hqq=>(World.cell?_of_block (w:=W) (w':=wr) ((hst.blk 3 (by have:=HB.out.size;have:=HH.out;omega) (by have:=HD.out.bw;omega) (by have:=HD.out.bi;omega) (by have:=HR.out;have:=HH.out;omega) (by have:=HR.out;have:=HH.out;omega)).trans (HB.out.block 3 (by have:=HH.out;omega)))).trans (HH.out.2.2.2.1 q hqq)
    have hw4:4≤w.heap.size:=by have:=HB.out.size;have:=HH.out;omega
    obtain ⟨sk,hsk⟩:∃ sk,sk=aheadW wd old ((Z.take k).drop q0) s0:=⟨_,rfl⟩
    rw [← hsk] at hst
    have HNX:=hid (show aheadW wd old ((Z.take (k+1)).drop q0) s0=aheadS wd old sk ((pa,pb),y) by rw [ahead_take wd old Z s0 q0 k hqk _ hzk,hsk])
    obtain ⟨A,hA⟩:∃ A,A=dgA sk.1.1:=⟨_,rfl⟩
    obtain ⟨B,hBB⟩:∃ B,B=dgA sk.2.1:=⟨_,rfl⟩
    rw [← hA,← hBB] at hst
    have HAS:=hid (show A.size=32 by rw [hA,dgA_size,sk.1.2]);have HBS:=hid (show B.size=32 by rw [hBB,dgA_size,sk.2.2])
    have h9:decide ((k:Int) < (n:Int))=true:=by simp;omega
    have h8:decide (k < n)=true:=by simp;omega
    have hk6:k≤1000000:=by have:=HH.out;omega
    have HKN:=hid hlt;have HQK:=hid hqk;have HST:=hid hst;have HRD:=hid hrd;have HRT:=hid hrt;have HYS:=hid hYS;have HYV:=hid hYv
    have HA:=hid hA;have HBV:=hid hBB;have HBL:=hid hbn
    have HK6:=hid hk6
    have hcap:=HDS.out.2.1
    have hkn:k < n:=hlt
    clear hqk hk hlt hp hy hzk hcs hbl hr hgs3 hgn hbn hrd hYv hYS hrt hsk hst hA hBB
    by_cases hside:old≤pa
    · have d3:decide ((old:Int)≤(pa:Int))=true:=by simp;omega
      have d4:decide (old≤pa)=true:=by simp;omega
      have d5:decide ((pa:Int) ≥ (old:Int))=true:=by simp;omega
      obtain ⟨G,hG⟩:∃ G,G=dgA (nodeD wd sk.2 y).1:=⟨_,rfl⟩
      have HGS:=hid (show G.size=32 by rw [hG,dgA_size,(nodeD wd sk.2 y).2])
      have HG1:=hid (show G.all (·.oneCell')=true by rw [hG];exact dgA_all _)
      have HG:=hid hG
      obtain ⟨tvx,hnd⟩:=HST.out.swap.node HD.out.swap HH.out.1 HH.out.2.1 (by have:=HH.out;omega) HRT.out hw4 sk.2 y
      rw [← hG,← HBV.out,← HYV.out] at hnd
      have HND:=hid hnd
      have HNZ:=hid (show aheadW wd old ((Z.take (k+1)).drop q0) s0=(sk.1,nodeD wd sk.2 y) by rw [HNX.out];unfold aheadS;rw [if_pos (show old≤pa from hside)])
      clear hside hG hnd hw4
      have hs0:(fun x=>(Instr.loadAt 38 (.pointer (some ⟨b',off'+k * 32,none⟩))).run Tryz.prog x=.ok (.agg Yv) x) wr.drew:=load_dig (w:=wr.drew) HRD.out HYS.out
      have HLBX:=hid (show wr.heap[g17]?=some (.cells B 38 (0,0)) from HST.out.b)
      go_upto_region 10 with (fail)
      refine wp_region_held_drew (S:=fun x=>(Instr.loadAt 38 (.pointer (some ⟨b',off'+k * 32,none⟩))).run Tryz.prog x=.ok (.agg Yv) x) (by kernel_rfl) hs0 (fun hHeld=>?_)
      apply wpT 0
      apply wpT 2
      apply wpT 3
      apply wpT 4
      apply wpL 5 (.agg Yv)
      · exact fun w hSw=>exec_load rfl (hSw)
      apply wpR 1
      intro K hK
      refine S_value rfl (exec_load rfl (load_dg wr.drew g17 B HLBX.out HBS.out)) ?_
      apply bk hK
      · exact hs0
      intro hHeld
      clear hK K
      apply wpR 6
      intro K hK
      go_simp
      refine (HND.out).mono ?_
      rintro e w6 ⟨rfl,htw6,hb6,hk6⟩
      have hb6':Below 0 wr w6:=⟨hb6.os,hb6.tape,hb6.output,hb6.size,fun j hj=>absurd hj (Nat.not_lt_zero j)⟩
      have hk6':∀ j,j < w.heap.size→j ≠ gi→w6.heap[j]?=wr.heap[j]?:=hk6
      have hbx6:=(hk6' g17 HD.out.l17 HD.out.n17i).trans HLBX.out
      have hth6:=there_block hbx6
      rw [HBS.out] at hth6
      have HTH6:=hid hth6
      have hgr6:=setCells_grown g17 G.toList 0 w6
      have hs6:(fun x=>(Instr.loadAt 38 (.pointer (some ⟨b',off'+k * 32,none⟩))).run Tryz.prog x=.ok (.agg Yv) x) w6:=load_dig (fun j v hv=>(World.cell?_of_block (hk6' b' HBL.out.1 HBL.out.2.2.1)).trans (HRD.out j v hv)) HYS.out
      have hr7:(w6.setCells g17 0 G.toList).rangeAt b' (off'+k * 32) Yv.toList:=fun j v hv=>(World.cell?_of_block (hgr6.block b' (Nat.lt_of_lt_of_le HBL.out.1 (Nat.le_trans HST.out.fr.size hb6.size)) (fun e=>HBL.out.2.2.2.2 (Option.some.inj e)))).trans ((World.cell?_of_block (hk6' b' HBL.out.1 HBL.out.2.2.1)).trans (HRD.out j v hv))
      have hs7:(fun x=>(Instr.loadAt 38 (.pointer (some ⟨b',off'+k * 32,none⟩))).run Tryz.prog x=.ok (.agg Yv) x) (w6.setCells g17 0 G.toList):=load_dig hr7 HYS.out
      have HRD':=hid hr7
      have HST7:=hid (((HST.out.swap.step HD.out.swap hb6' htw6 hk6' HGS.out HBS.out).swap))
      clear hb6 htw6 hk6 hb6' hk6' hbx6 hth6 hgr6 hr7
      apply bk hK
      · exact hs6
      intro hHeld
      clear hK K
      apply wpR 7
      intro K hK
      refine S_store_mid rfl 38 (.tmp 17) (.tmp 62) (by rfl) g17 0 G (by rfl) (by rfl) (by rw [HGS.out];exact HTH6.out) (by rw [HGS.out];exact info38) HG1.out ?_
      apply bk hK
      · exact hs7
      intro hHeld
      clear hK K
      refine wpAnyH_done (by kernel_rfl) ?_ _
      clear hs0 hs6 hs7
      generalize w6.setCells g17 0 G.toList=w7 at *
      clear HTH6 HLBX
      go_wp2_with fail
      refine ⟨⟨k+1,by have:=HQK.out;omega,HKN.out,by push_cast;rfl,?_⟩,?_⟩
      · rw [HNZ.out,← HA.out,← HG.out]
        obtain ⟨q1,q2,⟨tv,tv',q3⟩,q4,q5⟩:=HST7.out
        exact ⟨q1,q2,⟨tv,tv',q3.mono (by omega)⟩,q4,q5⟩
      · have:=HKN.out
        simp [intOf];omega
    · have d3:decide ((old:Int)≤(pa:Int))=false:=by simp;omega
      have d4:decide (old≤pa)=false:=by simp;omega
      have d5:decide ((pa:Int) ≥ (old:Int))=false:=by simp;omega
      obtain ⟨G,hG⟩:∃ G,G=dgA (nodeD wd y sk.1).1:=⟨_,rfl⟩
      have HGS:=hid (show G.size=32 by rw [hG,dgA_size,(nodeD wd y sk.1).2])
      have HG1:=hid (show G.all (·.oneCell')=true by rw [hG];exact dgA_all _)
      have HG:=hid hG
      obtain ⟨G2,hG2⟩:∃ G2,G2=dgA (nodeD wd y sk.2).1:=⟨_,rfl⟩
      have HG2S:=hid (show G2.size=32 by rw [hG2,dgA_size,(nodeD wd y sk.2).2])
      have HG21:=hid (show G2.all (·.oneCell')=true by rw [hG2];exact dgA_all _)
      have HG2:=hid hG2
      obtain ⟨tvx,hnd⟩:=HST.out.node HD.out HH.out.1 HH.out.2.1 (by have:=HH.out;omega) HRT.out hw4 y sk.1
      rw [← hG,← HA.out,← HYV.out] at hnd
      have HND:=hid hnd
      have HNZ:=hid (show aheadW wd old ((Z.take (k+1)).drop q0) s0=(nodeD wd y sk.1,nodeD wd y sk.2) by rw [HNX.out];unfold aheadS;rw [if_neg (show ¬ old≤pa from hside)])
      have HW4:=hid hw4
      clear hside hG hG2 hnd hw4
      have hs0:(fun x=>(Instr.loadAt 38 (.pointer (some ⟨b',off'+k * 32,none⟩))).run Tryz.prog x=.ok (.agg Yv) x) wr.drew:=load_dig (w:=wr.drew) HRD.out HYS.out
      have HLBX:=hid (show wr.heap[g16]?=some (.cells A 38 (0,0)) from HST.out.a)
      go_upto_region 11 with (fail)
      refine wp_region_held_drew (S:=fun x=>(Instr.loadAt 38 (.pointer (some ⟨b',off'+k * 32,none⟩))).run Tryz.prog x=.ok (.agg Yv) x) (by kernel_rfl) hs0 (fun hHeld=>?_)
      apply wpT 0
      apply wpT 1
      apply wpT 2
      apply wpT 3
      apply wpL 4 (.agg Yv)
      · exact fun w hSw=>exec_load rfl (hSw)
      apply wpR 5
      intro K hK
      refine S_value rfl (exec_load rfl (load_dg wr.drew g16 A HLBX.out HAS.out)) ?_
      apply bk hK
      · exact hs0
      intro hHeld
      clear hK K
      apply wpR 6
      intro K hK
      go_simp
      refine (HND.out).mono ?_
      rintro e w6 ⟨rfl,htw6,hb6,hk6⟩
      have hb6':Below 0 wr w6:=⟨hb6.os,hb6.tape,hb6.output,hb6.size,fun j hj=>absurd hj (Nat.not_lt_zero j)⟩
      have hk6':∀ j,j < w.heap.size→j ≠ gw→w6.heap[j]?=wr.heap[j]?:=hk6
      have hbx6:=(hk6' g16 HD.out.l16 HD.out.n16w).trans HLBX.out
      have hth6:=there_block hbx6
      rw [HAS.out] at hth6
      have HTH6:=hid hth6
      have hgr6:=setCells_grown g16 G.toList 0 w6
      have hs6:(fun x=>(Instr.loadAt 38 (.pointer (some ⟨b',off'+k * 32,none⟩))).run Tryz.prog x=.ok (.agg Yv) x) w6:=load_dig (fun j v hv=>(World.cell?_of_block (hk6' b' HBL.out.1 HBL.out.2.1)).trans (HRD.out j v hv)) HYS.out
      have hr7:(w6.setCells g16 0 G.toList).rangeAt b' (off'+k * 32) Yv.toList:=fun j v hv=>(World.cell?_of_block (hgr6.block b' (Nat.lt_of_lt_of_le HBL.out.1 (Nat.le_trans HST.out.fr.size hb6.size)) (fun e=>HBL.out.2.2.2.1 (Option.some.inj e)))).trans ((World.cell?_of_block (hk6' b' HBL.out.1 HBL.out.2.1)).trans (HRD.out j v hv))
      have hs7:(fun x=>(Instr.loadAt 38 (.pointer (some ⟨b',off'+k * 32,none⟩))).run Tryz.prog x=.ok (.agg Yv) x) (w6.setCells g16 0 G.toList):=load_dig hr7 HYS.out
      have HRD':=hid hr7
      have HST7:=hid ((HST.out.step HD.out hb6' htw6 hk6' HGS.out HAS.out))
      clear hb6 htw6 hk6 hb6' hk6' hbx6 hth6 hgr6 hr7
      apply bk hK
      · exact hs6
      intro hHeld
      clear hK K
      apply wpR 7
      intro K hK
      refine S_store_mid rfl 38 (.tmp 16) (.tmp 69) (by rfl) g16 0 G (by rfl) (by rfl) (by rw [HGS.out];exact HTH6.out) (by rw [HGS.out];exact info38) HG1.out ?_
      apply bk hK
      · exact hs7
      intro hHeld
      clear hK K
      refine wpAnyH_done (by kernel_rfl) ?_ _
      clear hs0 hs6 hs7
      generalize w6.setCells g16 0 G.toList=w7 at *
      clear HTH6 HLBX
      have hrt7:RoundTab w7:=fun q hqq=>(World.cell?_of_block (w:=W) (w':=w7) ((HST7.out.blk 3 (by have:=HB.out.size;have:=HH.out;omega) (by have:=HD.out.bw;omega) (by have:=HD.out.bi;omega) (by have:=HR.out;have:=HH.out;omega) (by have:=HR.out;have:=HH.out;omega)).trans (HB.out.block 3 (by have:=HH.out;omega)))).trans (HH.out.2.2.2.1 q hqq)
      obtain ⟨tvy,hnd2⟩:=HST7.out.swap.node HD.out.swap HH.out.1 HH.out.2.1 (by have:=HH.out;omega) hrt7 HW4.out y sk.2
      rw [← HG2.out,← HBV.out,← HYV.out] at hnd2
      have HND2:=hid hnd2
      clear hrt7 hnd2
      have hs0:(fun x=>(Instr.loadAt 38 (.pointer (some ⟨b',off'+k * 32,none⟩))).run Tryz.prog x=.ok (.agg Yv) x) w7.drew:=load_dig (w:=w7.drew) HRD'.out HYS.out
      have HLBX:=hid (show w7.heap[g17]?=some (.cells B 38 (0,0)) from HST7.out.b)
      go_upto_region 12 with (fail)
      refine wp_region_held_drew (S:=fun x=>(Instr.loadAt 38 (.pointer (some ⟨b',off'+k * 32,none⟩))).run Tryz.prog x=.ok (.agg Yv) x) (by kernel_rfl) hs0 (fun hHeld=>?_)
      apply wpT 0
      apply wpT 1
      apply wpT 2
      apply wpT 3
      apply wpL 4 (.agg Yv)
      · exact fun w hSw=>exec_load rfl (hSw)
      apply wpR 5
      intro K hK
      refine S_value rfl (exec_load rfl (load_dg w7.drew g17 B HLBX.out HBS.out)) ?_
      apply bk hK
      · exact hs0
      intro hHeld
      clear hK K
      apply wpR 6
      intro K hK
      go_simp
      refine (HND2.out).mono ?_
      rintro e w6 ⟨rfl,htw6,hb6,hk6⟩
      have hb6':Below 0 w7 w6:=⟨hb6.os,hb6.tape,hb6.output,hb6.size,fun j hj=>absurd hj (Nat.not_lt_zero j)⟩
      have hk6':∀ j,j < w.heap.size→j ≠ gi→w6.heap[j]?=w7.heap[j]?:=hk6
      have hbx6:=(hk6' g17 HD.out.l17 HD.out.n17i).trans HLBX.out
      have hth6:=there_block hbx6
      rw [HBS.out] at hth6
      have HTH6:=hid hth6
      have hgr6:=setCells_grown g17 G2.toList 0 w6
      have hs6:(fun x=>(Instr.loadAt 38 (.pointer (some ⟨b',off'+k * 32,none⟩))).run Tryz.prog x=.ok (.agg Yv) x) w6:=load_dig (fun j v hv=>(World.cell?_of_block (hk6' b' HBL.out.1 HBL.out.2.2.1)).trans (HRD'.out j v hv)) HYS.out
      have hr7:(w6.setCells g17 0 G2.toList).rangeAt b' (off'+k * 32) Yv.toList:=fun j v hv=>(World.cell?_of_block (hgr6.block b' (Nat.lt_of_lt_of_le HBL.out.1 (Nat.le_trans HST7.out.fr.size hb6.size)) (fun e=>HBL.out.2.2.2.2 (Option.some.inj e)))).trans ((World.cell?_of_block (hk6' b' HBL.out.1 HBL.out.2.2.1)).trans (HRD'.out j v hv))
      have hs7:(fun x=>(Instr.loadAt 38 (.pointer (some ⟨b',off'+k * 32,none⟩))).run Tryz.prog x=.ok (.agg Yv) x) (w6.setCells g17 0 G2.toList):=load_dig hr7 HYS.out
      have HRD'':=hid hr7
      have HST8:=hid (((HST7.out.swap.step HD.out.swap hb6' htw6 hk6' HG2S.out HBS.out).swap))
      clear hb6 htw6 hk6 hb6' hk6' hbx6 hth6 hgr6 hr7
      apply bk hK
      · exact hs6
      intro hHeld
      clear hK K
      apply wpR 7
      intro K hK
      refine S_store_mid rfl 38 (.tmp 17) (.tmp 76) (by rfl) g17 0 G2 (by rfl) (by rfl) (by rw [HG2S.out];exact HTH6.out) (by rw [HG2S.out];exact info38) HG21.out ?_
      apply bk hK
      · exact hs7
      intro hHeld
      clear hK K
      refine wpAnyH_done (by kernel_rfl) ?_ _
      clear hs0 hs6 hs7
      generalize w6.setCells g17 0 G2.toList=w8 at *
      clear HTH6 HLBX
      go_wp2_with fail
      refine ⟨⟨k+1,by have:=HQK.out;omega,HKN.out,by push_cast;rfl,?_⟩,?_⟩
      · rw [HNZ.out,← HG.out,← HG2.out]
        obtain ⟨q1,q2,⟨tv,tv',q3⟩,q4,q5⟩:=HST8.out
        exact ⟨q1,q2,⟨tv,tv',q3.mono (by omega)⟩,q4,q5⟩
      · have:=HKN.out
        simp [intOf];omega
  · obtain rfl:k=n:=by omega
    have htk:Z.take k=Z:=List.take_of_length_le (by rw [HZZ.out,List.length_zip];have:=HLL.out;omega)
    rw [htk] at hst
    have HST:=hid hst
    have h9:decide ((k:Int) < (k:Int))=false:=by simp
    have h8:decide (k < k)=false:=by simp
    clear hlt hqk hk hst htk
    go_wp2_with fail
    refine HK.out _ _ ?_
    clear HK
    rw [dropSeq_succ]
    obtain ⟨q1,q2,⟨tv,tv',n1,n2,m1,m2,c1,c2,dj⟩,q4,q5⟩:=HST.out
    obtain ⟨xs1,o1,ones1⟩:=c1.2
    obtain ⟨xs2,o2,ones2⟩:=c2.2
    obtain ⟨ta,tc,rfl,-⟩:=owns_shape o1
    obtain ⟨ta2,tc2,rfl,-⟩:=owns_shape o2
    obtain ⟨R,hR⟩:∃ R,R=aheadW wd old (Z.drop q0) s0:=⟨_,rfl⟩
    rw [← hR] at q1 q2
    rw [← hR]
    obtain ⟨A,hA⟩:∃ A,A=dgA R.1.1:=⟨_,rfl⟩
    obtain ⟨B,hBB⟩:∃ B,B=dgA R.2.1:=⟨_,rfl⟩
    rw [← hA] at q1
    rw [← hBB] at q2
    have hAS:A.size=32:=by rw [hA,dgA_size,R.1.2]
    have hBS:B.size=32:=by rw [hBB,dgA_size,R.2.2]
    have HA1:=hid (show A.all (·.oneCell')=true by rw [hA];exact dgA_all _)
    have HB1:=hid (show B.all (·.oneCell')=true by rw [hBB];exact dgA_all _)
    have HAS:=hid hAS;have HBS:=hid hBS
    have hob:∀ j,(Value.slice ta n1 tc).ownBlock=some j→w.heap.size≤j:=fun j hj=>(o1.lt j hj).1
    have hl1:r1 < w.heap.size:=(Array.getElem?_eq_some_iff.1 HZ12.out.1).1
    have hl2:r2 < w.heap.size:=(Array.getElem?_eq_some_iff.1 HZ12.out.2).1
    have hzr1:wr.heap[r1]?=some (.cells (dgA zDg.1) 38 (0,0)):=(q5 r1 hl1 (by have:=HR.out;omega) (by have:=HR.out;omega) (by have:=HR.out;omega) (by have:=HR.out;omega)).trans HZ12.out.1
    have hzr2:wr.heap[r2]?=some (.cells (dgA zDg.1) 38 (0,0)):=(q5 r2 hl2 (by have:=HR.out;omega) (by have:=HR.out;omega) (by have:=HR.out;omega) (by have:=HR.out;omega)).trans HZ12.out.2
    have hcg1:=c1.1
    have hcg2:=c2.1
    have HS:=hid (fun (x:World) (hx:∀ j,j < w.heap.size→j ≠ r1→j ≠ r2→x.heap[j]?=wr.heap[j]?)=>show (fun x=>(Instr.loadAt 38 (.pointer (some ⟨g16,0,none⟩))).run Tryz.prog x=.ok (.agg A) x∧(Instr.loadAt 38 (.pointer (some ⟨g17,0,none⟩))).run Tryz.prog x=.ok (.agg B) x∧x.cell? ⟨gw,1,none⟩=some (.slice ta n1 tc)∧x.cell? ⟨gi,1,none⟩=some (.slice ta2 n2 tc2)) x from by
     refine ⟨load_dg x g16 A ((hx g16 HD.out.l16 (by have:=HR.out;omega) (by have:=HR.out;omega)).trans q1) hAS,load_dg x g17 B ((hx g17 HD.out.l17 (by have:=HR.out;omega) (by have:=HR.out;omega)).trans q2) hBS,?_,?_⟩
     · rw [cell_of_row _ _ _ _ _ _ ((hx gw HD.out.lw (by have:=HR.out;omega) (by have:=HR.out;omega)).trans hcg1)];rfl
     · rw [cell_of_row _ _ _ _ _ _ ((hx gi HD.out.li (by have:=HR.out;omega) (by have:=HR.out;omega)).trans hcg2)];rfl)
    have hs0:(fun x=>(Instr.loadAt 38 (.pointer (some ⟨g16,0,none⟩))).run Tryz.prog x=.ok (.agg A) x∧(Instr.loadAt 38 (.pointer (some ⟨g17,0,none⟩))).run Tryz.prog x=.ok (.agg B) x∧x.cell? ⟨gw,1,none⟩=some (.slice ta n1 tc)∧x.cell? ⟨gi,1,none⟩=some (.slice ta2 n2 tc2)) wr.drew:=HS.out _ (fun j _ _ _=>rfl)
    have HQ4:=hid q4;have HQ5:=hid q5;have HOB:=hid hob;have HL12:=hid (And.intro hl1 hl2);have HZR:=hid (And.intro hzr1 hzr2)
    have HO1:=hid (show wr.drew.ownsRow w.heap.size 53 1 (.slice ta n1 tc) n1 xs1 from o1);have HO2:=hid (show wr.drew.ownsRow w.heap.size 53 1 (.slice ta2 n2 tc2) n2 xs2 from o2);have HON:=hid ones2
    have HM:=hid (show n1≤200000∧n2≤200000 by have:=HH.out;omega)
    have HRA:=hid hA;have HRB:=hid hBB
    clear q1 q2 m1 m2 c1 c2 dj q4 q5 o1 ones1 o2 ones2 hR hA hBB hAS hBS hob hl1 hl2 hzr1 hzr2 hcg1 hcg2 h9 h8
    conv=>arg 2;whnf
    go_upto_region 13 with (fail)
    refine wp_region_held_drew (S:=fun x=>(Instr.loadAt 38 (.pointer (some ⟨g16,0,none⟩))).run Tryz.prog x=.ok (.agg A) x∧(Instr.loadAt 38 (.pointer (some ⟨g17,0,none⟩))).run Tryz.prog x=.ok (.agg B) x∧x.cell? ⟨gw,1,none⟩=some (.slice ta n1 tc)∧x.cell? ⟨gi,1,none⟩=some (.slice ta2 n2 tc2)) (by kernel_rfl) hs0 (fun hHeld=>?_)
    apply wpL 0 (.agg A)
    · exact fun w hSw=>exec_load rfl (hSw.1)
    apply wpL 1 (.agg B)
    · exact fun w hSw=>exec_load rfl (hSw.2.1)
    apply wpT 2
    apply wpT 3
    apply wpT 4
    apply wpT 5
    apply wpT 6
    apply wpT 7
    apply wpT 8
    apply wpT 9
    apply wpR 10
    intro K hK
    refine S_appendO rfl (.tmp 82) (.tmp 86) 229 (by rfl) sl229 w.heap.size (.slice ta n1 tc) n1 xs1 (by rfl) HO1.out (.slice ta2 n2 tc2) n2 xs2 (by rfl) HO2.out HON.out (by have:=HM.out;omega) (by have:=HM.out;simp [maxLen];omega) (show w.heap.size≤wr.heap.size from HQ4.out.size) (fun v7 w7 hg7=>?_)
    have hk7:∀ j,j < w.heap.size→w7.heap[j]?=wr.heap[j]?:=fun j hj=>hg7.block j (Nat.lt_of_lt_of_le hj HQ4.out.size) (fun e=>by have:=HOB.out j e.symm;omega)
    have hs7:(fun x=>(Instr.loadAt 38 (.pointer (some ⟨g16,0,none⟩))).run Tryz.prog x=.ok (.agg A) x∧(Instr.loadAt 38 (.pointer (some ⟨g17,0,none⟩))).run Tryz.prog x=.ok (.agg B) x∧x.cell? ⟨gw,1,none⟩=some (.slice ta n1 tc)∧x.cell? ⟨gi,1,none⟩=some (.slice ta2 n2 tc2)) w7:=HS.out _ (fun j hj _ _=>hk7 j hj)
    have hz71:=(hk7 r1 HL12.out.1).trans HZR.out.1
    have hth7:=there_block hz71
    rw [show (dgA zDg.1).size=32 from rfl] at hth7
    have HTH7:=hid hth7
    have hgr8:=setCells_grown r1 A.toList 0 w7
    have hsz7:w.heap.size≤w7.heap.size:=Nat.le_trans HQ4.out.size hg7.size
    have hk8:∀ j,j < w.heap.size→j ≠ r1→(w7.setCells r1 0 A.toList).heap[j]?=wr.heap[j]?:=fun j hj hn=>(hgr8.block j (Nat.lt_of_lt_of_le hj hsz7) (fun e=>hn (Option.some.inj e))).trans (hk7 j hj)
    have hs8:(fun x=>(Instr.loadAt 38 (.pointer (some ⟨g16,0,none⟩))).run Tryz.prog x=.ok (.agg A) x∧(Instr.loadAt 38 (.pointer (some ⟨g17,0,none⟩))).run Tryz.prog x=.ok (.agg B) x∧x.cell? ⟨gw,1,none⟩=some (.slice ta n1 tc)∧x.cell? ⟨gi,1,none⟩=some (.slice ta2 n2 tc2)) (w7.setCells r1 0 A.toList):=HS.out _ (fun j hj h _=>hk8 j hj h)
    have hg81:=setCells_all hz71 A.toList (by rw [Array.length_toList,HAS.out];rfl)
    have hz82:=(hk8 r2 HL12.out.2 (by have:=HR.out;omega)).trans HZR.out.2
    have hth8:=there_block hz82
    rw [show (dgA zDg.1).size=32 from rfl] at hth8
    have HTH8:=hid hth8
    have hgr9:=setCells_grown r2 B.toList 0 (w7.setCells r1 0 A.toList)
    have hsz8:(w7.setCells r1 0 A.toList).heap.size=w7.heap.size:=setCells_size _ _ _ _
    have hk9:∀ j,j < w.heap.size→j ≠ r1→j ≠ r2→((w7.setCells r1 0 A.toList).setCells r2 0 B.toList).heap[j]?=wr.heap[j]?:=fun j hj h1 h2=>(hgr9.block j (by rw [hsz8];exact Nat.lt_of_lt_of_le hj hsz7) (fun e=>h2 (Option.some.inj e))).trans (hk8 j hj h1)
    have hs9:(fun x=>(Instr.loadAt 38 (.pointer (some ⟨g16,0,none⟩))).run Tryz.prog x=.ok (.agg A) x∧(Instr.loadAt 38 (.pointer (some ⟨g17,0,none⟩))).run Tryz.prog x=.ok (.agg B) x∧x.cell? ⟨gw,1,none⟩=some (.slice ta n1 tc)∧x.cell? ⟨gi,1,none⟩=some (.slice ta2 n2 tc2)) ((w7.setCells r1 0 A.toList).setCells r2 0 B.toList):=HS.out _ hk9
    have HG2:=hid (show ((w7.setCells r1 0 A.toList).setCells r2 0 B.toList).heap[r2]?=some (.cells B 38 (0,0)) by simpa using setCells_all hz82 B.toList (by rw [Array.length_toList,HBS.out];rfl))
    have HG1:=hid (show ((w7.setCells r1 0 A.toList).setCells r2 0 B.toList).heap[r1]?=some (.cells A 38 (0,0)) from (hgr9.block r1 (by rw [hsz8];exact Nat.lt_of_lt_of_le HL12.out.1 hsz7) (fun e=>by have:=Option.some.inj e;have:=HR.out;omega)).trans (by simpa using hg81))
    have HBB:=hid (show Below W.heap.size W ((w7.setCells r1 0 A.toList).setCells r2 0 B.toList) from by
     have e1:Below 0 w wr:=HQ4.out
     refine ⟨hgr9.os.trans (hgr8.os.trans (hg7.os.trans (e1.os.trans HB.out.os))),hgr9.tape.trans (hgr8.tape.trans (hg7.tape.trans (e1.tape.trans HB.out.tape))),hgr9.output.trans (hgr8.output.trans (hg7.output.trans (e1.output.trans HB.out.output))),?_,fun j hj=>?_⟩
     · have:=HB.out.size;rw [setCells_size,hsz8];omega
     · have hj2:=Nat.lt_of_lt_of_le hj HB.out.size
       have:=HR.out
       exact (hk9 j hj2 (by omega) (by omega)).trans ((HQ5.out j hj2 (by omega) (by omega) (by omega) (by omega)).trans (HB.out.block j hj)))
    clear hg7 hk7 hz71 hth7 hgr8 hsz7 hk8 hg81 hz82 hth8 hgr9 hsz8 hk9
    apply bk hK
    · exact hs7
    intro hHeld
    clear hK K
    apply wpR 11
    intro K hK
    refine S_store_mid rfl 38 (.tmp 10) (.tmp 77) (by rfl) r1 0 A (by rfl) (by rfl) (by rw [HAS.out];exact HTH7.out) (by rw [HAS.out];exact info38) HA1.out ?_
    apply bk hK
    · exact hs8
    intro hHeld
    clear hK K
    apply wpR 12
    intro K hK
    refine S_store_mid rfl 38 (.tmp 11) (.tmp 78) (by rfl) r2 0 B (by rfl) (by rfl) (by rw [HBS.out];exact HTH8.out) (by rw [HBS.out];exact info38) HB1.out ?_
    apply bk hK
    · exact hs9
    intro hHeld
    clear hK K
    apply wpT 13
    refine wpAnyH_done (by kernel_rfl) ?_ _
    clear hs0 hs7 hs8 hs9
    generalize (w7.setCells r1 0 A.toList).setCells r2 0 B.toList=w9 at *
    clear HTH7 HTH8
    go_wp2_with fail
    refine bodyPost_ret (v:=.tuple #[.agg A,.agg B,v7]) (results_row_row_tmp (p:=10) (q:=11) (u:=12) (ty:=38) rfl _ _ r1 r2 38 38 A B (0,0) (0,0) _ rfl HG1.out rfl HG2.out Tryz.underlying38 rfl (by rw [HAS.out];exact info38) (by rw [HBS.out];exact info38)) rfl ⟨_,by rw [HRA.out,HRB.out],HBB.out⟩
end
end Go.Proofs.YtgkehahklccacaaGreatDoor
