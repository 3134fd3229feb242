import Derived.Test.YtgkehahklccacaaGreatDoorC03
import Derived.Test.YtgkehahklccacaaGreatDoorC36
import Derived.Test.YtgkehahklccacaaGreatDoorC37
import Derived.Test.YtgkehahklccacaaGreatDoorC34
import Derived.Test.YtgkehahklccacaaGreatDoorC27
namespace Go.Proofs.YtgkehahklccacaaGreatDoor
open Go Go.RowKit
open Go.Lib (hid)
set_option maxRecDepth 100000
set_option maxHeartbeats 1000000
set_option linter.unusedVariables false
set_option linter.unusedSimpArgs false
section
open Go.Maps Go.WideMaps Go.ChangeMaps
theorem exec_bin {P:Program} {ρ:Operand→Value} {o:Oper} {b:BinOp} {t u:TypeId} {x y:Operand} {v:Value} {w:World} (ho:o.op=.binOp b t x y u) (h:(binOp b t (ρ x) (ρ y)).run P w=.ok v w) (hg:(eqGuard b t x y (ρ x) (ρ y)).run P w=.ok () w):(execOp ρ o).run P w=.ok (.value v) w:=by
 unfold execOp
 simp [ho,Sem.run_bind,h,hg,Result.andThen_ok,Sem.run_pure]
set_option maxHeartbeats 8000000
theorem same_dg (w:World) (a1 a2:Option Addr) (n c1 c2:Nat) (ds:List Dg) (h1:DS w a1 n c1 ds) (h2:DS w a2 n c2 ds) (hn:n≤1000000) :
 Calls Tryz.prog 80 #[.slice a1 n c1,.slice a2 n c2] w fun e w'=>e=.returned (.bool true)∧Below w.heap.size w w':=by
 have H1:=hid h1;have H2:=hid h2;have HN:=hid hn
 have b0:((n:Int) == (n:Int))=true:=by simp
 clear h1 h2 hn
 go_enter Tryz.func80,Tryz.ntmps80
 go_wp2_with fail
 clear b0
 go_loopw [5] (fun v wr=>∃ k:Nat,k≤n∧v=.int .i64 (k:Int)∧Below w.heap.size w wr) (fun v _=>n - (intOf v).toNat)
 case atStart=>exact ⟨0,Nat.zero_le _,rfl,Below.refl _ _⟩
 case round =>
  obtain ⟨k,hk,rfl,hb⟩:=hrel
  by_cases hlt:k < n
  · obtain ⟨x,hx⟩:∃ x,ds[k]?=some x:=⟨_,List.getElem?_eq_getElem (by have:=H1.out.1;omega)⟩
    obtain ⟨b1,o1,rfl,-,hr1⟩:=(H1.out.below hb).at hx
    obtain ⟨b2,o2,rfl,-,hr2⟩:=(H2.out.below hb).at hx
    obtain ⟨E,hE⟩:∃ E,E=dgA x.1:=⟨_,rfl⟩
    have hES:E.size=32:=by rw [hE,dgA_size,x.2]
    have hq1:wr.rangeAt b1 (o1+k * 32) E.toList:=by rw [hE];simpa [dgA] using hr1
    have hq2:wr.rangeAt b2 (o2+k * 32) E.toList:=by rw [hE];simpa [dgA] using hr2
    have hs0:(fun x=>(Instr.loadAt 38 (.pointer (some ⟨b1,o1+k * 32,none⟩))).run Tryz.prog x=.ok (.agg E) x∧(Instr.loadAt 38 (.pointer (some ⟨b2,o2+k * 32,none⟩))).run Tryz.prog x=.ok (.agg E) x∧(binOp .neq 38 (.agg E) (.agg E)).run Tryz.prog x=.ok (.bool false) x) wr.drew:=⟨load_dig (w:=wr.drew) hq1 hES,load_dig (w:=wr.drew) hq2 hES,by rw [hE,neq_dg];simp⟩
    have h9:decide ((k:Int) < (n:Int))=true:=by simp;omega
    have h8:decide (k < n)=true:=by simp;omega
    have HLT:=hid hlt;have HB:=hid hb
    have hk6:k≤1000000:=by have:=HN.out;omega
    clear hk hb hx hr1 hr2 hE hES hq1 hq2
    go_upto_region 6 with (fail)
    refine wp_region_held_drew (S:=fun x=>(Instr.loadAt 38 (.pointer (some ⟨b1,o1+k * 32,none⟩))).run Tryz.prog x=.ok (.agg E) x∧(Instr.loadAt 38 (.pointer (some ⟨b2,o2+k * 32,none⟩))).run Tryz.prog x=.ok (.agg E) x∧(binOp .neq 38 (.agg E) (.agg E)).run Tryz.prog x=.ok (.bool false) x) (by kernel_rfl) hs0 (fun hHeld=>?_)
    apply wpT 0
    apply wpT 1
    apply wpT 2
    apply wpL 3 (.agg E)
    · exact fun w hSw=>exec_load rfl (hSw.1)
    apply wpT 4
    apply wpT 5
    apply wpT 6
    apply wpL 7 (.agg E)
    · exact fun w hSw=>exec_load rfl (hSw.2.1)
    apply wpL 8 (.bool false)
    · exact fun w hSw=>exec_bin rfl hSw.2.2 (by go_simp)
    refine wpAnyH_done (by kernel_rfl) ?_ _
    clear hs0
    go_wp2_with fail
    refine ⟨⟨k+1,HLT.out,by push_cast;rfl,(show Below w.heap.size w wr.drew from ⟨HB.out.os,HB.out.tape,HB.out.output,HB.out.size,HB.out.block⟩)⟩,?_⟩
    simp [intOf];omega
  · obtain rfl:k=n:=by omega
    have h9:decide ((k:Int) < (k:Int))=false:=by simp
    have h8:decide (k < k)=false:=by simp
    clear hlt hk
    go_wp2_with fail
    go_ret
    exact ⟨rfl,hb⟩
end
section
open Go.Maps Go.WideMaps Go.ChangeMaps
noncomputable def an0:Code:=Tryz.f33.body.getD .skip
def AnRet (w:World) (e:Ending) (w':World):Prop:=e=.returned (.bool true)∧Below w.heap.size w w'
set_option maxHeartbeats 32000000
theorem answers_any (w:World) (Ly:Lay) (τ:Nat→Nat) (gt gd:Nat) (d:Dm) (T:TT) (Y:TY) (h:BT w Ly τ gt gd d T Y) (hlv:T.live d tlN=0) (ht:RoundTab w) (htz:TabAt 1 Lib.deBruijn64tab w) (a:Option Addr) (n c:Nat) (hds:DS w a n c T.L) (size old:Nat) (iI:Int) (hos:old≤size) (hsl:size≤T.L.length) (hi:0 < size→∃ i:Nat,iI=(i:Int)∧i < size) :
 Calls Tryz.prog 33 #[.pointer (some ⟨gt,0,none⟩),.int .i64 T.wd,.slice a n c,.int .i64 (size:Int),.int .i64 (old:Int),.int .i64 iI] w (AnRet w):=by
 obtain ⟨wd,hwd⟩:∃ wd,wd=T.wd:=⟨_,rfl⟩
 obtain ⟨L,hL⟩:∃ L,L=T.L:=⟨_,rfl⟩
 have hfew:=h.t.few
 have h4:=h.t.sz
 have hwb:=h.t.wdb
 rw [← hwd] at hwb
 rw [← hL] at hfew hsl hds
 rw [← hwd]
 have hln:=hds.1
 have hcap:=hds.2.1
 have hs6:size≤60000:=by omega
 obtain ⟨E,hE⟩:∃ E,E=dgA (rootP wd (L.take size)).1:=⟨_,rfl⟩
 have hES:E.size=32:=by rw [hE,dgA_size,(rootP wd (L.take size)).2]
 have HE1:=hid (show E.all (·.oneCell')=true by rw [hE];exact dgA_all _)
 have HEQ:=hid (show ∀ wx,(binOp .neq 38 (.agg E) (.agg E)).run Tryz.prog wx=.ok (.bool false) wx from fun wx=>by rw [hE,neq_dg];simp)
 have HEE:=hid (show ∀ wx,(binOp .eql 38 (.agg E) (.agg E)).run Tryz.prog wx=.ok (.bool true) wx from fun wx=>by rw [hE,eql_dg];simp)
 have HROOT:=hid (fun (wx:World) (hb:Below w.heap.size w wx)=>show Calls Tryz.prog 25 #[.pointer (some ⟨gt,0,none⟩),.int .i64 (size:Int)] wx (fun e w'=>e=.returned (.tuple #[.agg E,.nilIface])∧Below wx.heap.size wx w') by
  rw [hE,hwd,hL]
  by_cases h0:size=0
  · subst h0;exact root_none wx Ly τ gt gd d T Y (h.below hb) hlv (rt_below ht hb (by omega))
  · exact root_some wx Ly τ gt gd d T Y (h.below hb) hlv (rt_below ht hb (by omega)) (tab_below htz hb (by omega)) size (by omega) (by rw [← hL];exact hsl))
 have HTR:=hid (fun (wx:World) (hb:Below w.heap.size w wx) (k:Nat) (hk:k≤size)=>show Calls Tryz.prog 77 #[.int .i64 wd,.slice a k c] wx (fun e w'=>e=.returned (.agg (dgA (rootP wd (L.take k)).1))∧Below wx.heap.size wx w') from
  root_any wx wd (by omega) (by omega) a k c (L.take k) ((hds.below hb).take k (by omega)) (by omega) (rt_below ht hb (by omega)) (by have:=hb.size;omega))
 have HSIZE:=hid (fun (wx:World) (hb:Below w.heap.size w wx)=>show Calls Tryz.prog 24 #[.pointer (some ⟨gt,0,none⟩)] wx (fun e w'=>e=.returned (.int .i64 (n:Int))∧w'=wx) by
  have:=tsize_any wx τ gt gd T Y (h.below hb).t
  rw [← hL,hln] at this
  exact this)
 obtain ⟨np,hnp⟩:∃ np,np=(partsP old size).length:=⟨_,rfl⟩
 have hnp6:np≤60000:=by have:=parts_len hos (show size≤1000000 by omega);omega
 have HCONS:=hid (fun (wx:World) (hb:Below w.heap.size w wx)=>show Calls Tryz.prog 78 #[.pointer (some ⟨gt,0,none⟩),.int .i64 (old:Int),.int .i64 (size:Int)] wx (fun e w'=>∃ av cv,e=.returned (.tuple #[.slice av np cv,.nilIface])∧DS w' av np cv ((partsP old size).map (partD wd L))∧Below wx.heap.size wx w') by
  refine (consT_any wx Ly τ gt gd d T Y (h.below hb) hlv (rt_below ht hb (by omega)) (tab_below htz hb (by omega)) old size hos (by rw [← hL];exact hsl)).mono ?_
  rintro e w' ⟨v,rfl,ho,hbx⟩
  rw [← hwd,← hL,← hnp] at ho
  obtain ⟨av,cv,rfl⟩:=rowShape ho
  exact ⟨av,cv,rfl,DS.of_owns ho (by omega),hbx⟩)
 obtain ⟨b7,hb7⟩:∃ b7,b7=w.heap.size:=⟨_,rfl⟩
 obtain ⟨b8,hb8⟩:∃ b8,b8=b7+1:=⟨_,rfl⟩
 obtain ⟨w1,hw1⟩:∃ w1,w1=w.alloc (.cells #[.int .i64 wd] 3):=⟨_,rfl⟩
 obtain ⟨w2,hw2⟩:∃ w2,w2=w1.alloc (.cells #[.slice a n c] 23):=⟨_,rfl⟩
 have hb1:Below w.heap.size w w1:=by rw [hw1];exact bel1 _ _
 have hz1:w1.heap.size=b8:=by rw [hw1,World.size_alloc];omega
 have hb2:Below w.heap.size w w2:=by rw [hw2];exact hb1.alloc (by omega) _
 have hz2:w2.heap.size=b8+1:=by rw [hw2,World.size_alloc];omega
 have hg7:w2.heap[b7]?=some (.cells #[.int .i64 wd] 3 (0,0)):=by rw [hw2,alOld _ _ _ (by omega),hw1,hb7];exact heap_alloc_new _ _
 have hg8:w2.heap[b8]?=some (.cells #[.slice a n c] 23 (0,0)):=by rw [hw2,← hz1];exact heap_alloc_new _ _
 have HAT:=hid (fun (wx:World) (hb:Below w2.heap.size w2 wx) (q i:Nat) (hq:q < 16) (hqi:(i+1) * 2 ^ q≤size)=>at76 wx b7 b8 wd hwb a n c L (hds.below (hb2.trans (hb.mono hb2.size))) (by omega) ((hb.block b7 (by omega)).trans hg7) ((hb.block b8 (by omega)).trans hg8) q i hq (by omega) (rt_below ht (hb2.trans (hb.mono hb2.size)) (by omega)) (by have:=hb.size;omega))
 have HTC:=hid (fun (wx:World) (hb:Below w2.heap.size w2 wx)=>show Calls Tryz.prog 79 #[.int .i64 wd,.int .i64 (old:Int),.int .i64 (size:Int),.func (.func 76) #[] #[.pointer (some ⟨b7,0,none⟩),.pointer (some ⟨b8,0,none⟩)]] wx (fun e w'=>∃ av cv,e=.returned (.tuple #[.slice av np cv,.int .i64 0])∧DS w' av np cv ((partsP old size).map (partD wd L))∧Below wx.heap.size wx w') by
  refine (tcons76 wx wd L _ _ hwb old size hos hs6 (by have:=hb.size;have:=hb2.size;omega) (rt_below ht (hb2.trans (hb.mono hb2.size)) (by omega)) (tab_below htz (hb2.trans (hb.mono hb2.size)) (by omega)) (fun wy q i hby hq hqi=>HAT.out wy (hb.trans (hby.mono hb.size)) q i hq hqi)).mono ?_
  rintro e w' ⟨v,rfl,ho,hbx⟩
  rw [← hnp] at ho
  obtain ⟨av,cv,rfl⟩:=rowShape ho
  exact ⟨av,cv,rfl,DS.of_owns ho (by omega),hbx⟩)
 have HSAME:=hid (fun (wx:World) (av1 av2:Option Addr) (m c1 c2:Nat) (ds:List Dg) (h1:DS wx av1 m c1 ds) (h2:DS wx av2 m c2 ds) (hm:m≤60000)=>same_dg wx av1 av2 m c1 c2 ds h1 h2 (by omega))
 have HAGR:=hid (fun (wx:World) (hb:Below w.heap.size w wx) (av:Option Addr) (cv:Nat) (hd:DS wx av np cv ((partsP old size).map (partD wd L)))=>show Calls Tryz.prog 81 #[.int .i64 wd,.int .i64 (old:Int),.int .i64 (size:Int),.agg (dgA (rootP wd (L.take old)).1),.agg E,.slice av np cv] wx (AgRet wx) by
  rw [hE]
  exact agree_any wx wd hwb L old size hos hsl hs6 av np cv hd (rt_below ht hb (by omega)) (by have:=hb.size;omega))
 have HCAP:=hid hcap;have HLN:=hid hln;have HWB:=hid hwb;have HS6:=hid hs6;have HNP:=hid hnp6;have HOS:=hid hos;have HSL:=hid hsl;have H4:=hid h4
 have HDS:=hid hds;have HI:=hid hi;have HRT:=hid ht;have HTZ:=hid htz
 have HES:=hid hES;have HE:=hid hE;have HB2:=hid hb2;have HG7:=hid hg7;have HG8:=hid hg8;have HZ:=hid (show w.heap.size=b7∧b8=b7+1∧w2.heap.size=b8+1 by omega)
 have HBT:=hid h;have HLV:=hid hlv;have HTL:=hid hL;have HWD:=hid hwd
 have hw1':w.alloc (.cells #[.int .i64 wd] 3)=w1:=hw1.symm
 have hw2':w1.alloc (.cells #[.slice a n c] 23)=w2:=hw2.symm
 have hz1':w1.heap.size=b8:=hz1
 have hb7':w.heap.size=b7:=hb7.symm
 clear h hlv ht htz hds hos hsl hi hwd hL hfew h4 hwb hln hcap hs6 hE hES hnp hnp6 hb7 hb8 hw1 hw2 hb1 hz1 hb2 hz2 hg7 hg8
 go_enter Tryz.func33,Tryz.ntmps33
 refine wp_two_k (c:=an0) ⟨_,_,rfl⟩ fun K hK=>?_
 have HK:=hid hK
 clear hK
 conv=>arg 2;whnf
 go_wp2_with fail
 refine HK.out _ _ ?_
 clear HK K
 have HW:=hid hb7'
 clear hw1' hw2' hz1' hb7'
 refine wp_two_k (c:=dropSeq 1 an0) ⟨_,_,rfl⟩ fun K hK=>?_
 have HK:=hid hK
 clear hK
 conv=>arg 2;whnf
 go_wp2_with fail
 refine HK.out _ _ ?_
 clear HK K
 rw [dropSeq_succ]
 refine wp_two_k (c:=dropSeq 2 an0) ⟨_,_,rfl⟩ fun K hK=>?_
 have HK:=hid hK
 clear hK
 conv=>arg 2;whnf
 go_wp2_with (first
  | (go_at_call 25;refine (HROOT.out w2 HB2.out).mono ?_;rintro e w3 ⟨rfl,hb3⟩;have HB3:=hid hb3;obtain ⟨g14,hg14⟩:∃ g14,g14=w3.heap.size:=⟨_,rfl⟩;obtain ⟨w4,hw4⟩:∃ w4,w4=w3.alloc (.cells (dgA zDg.1) 38):=⟨_,rfl⟩;have HO4:=hid (show w4.heap[g14]?=some (.cells (dgA zDg.1) 38 (0,0)) by rw [hw4,hg14];exact heap_alloc_new _ _);have HB34:=hid (show Below w3.heap.size w3 w4 by rw [hw4];exact bel1 _ _);have HZ4:=hid (show w3.heap.size=g14 from hg14.symm);have hw4':w3.alloc (.cells #[.int .u8 0,.int .u8 0,.int .u8 0,.int .u8 0,.int .u8 0,.int .u8 0,.int .u8 0,.int .u8 0,.int .u8 0,.int .u8 0,.int .u8 0,.int .u8 0,.int .u8 0,.int .u8 0,.int .u8 0,.int .u8 0,.int .u8 0,.int .u8 0,.int .u8 0,.int .u8 0,.int .u8 0,.int .u8 0,.int .u8 0,.int .u8 0,.int .u8 0,.int .u8 0,.int .u8 0,.int .u8 0,.int .u8 0,.int .u8 0,.int .u8 0,.int .u8 0] 38)=w4:=hw4.symm;have hg14':w3.heap.size=g14:=hg14.symm;have HTH4:=hid (there_block HO4.out);clear hb3 hw4 hg14)
  | (refine wpList_store_mid rfl 38 (.tmp 14) (.tmp 26) (by rfl) g14 0 E (by rfl) (by rfl) (by rw [HES.out];exact HTH4.out) (by rw [HES.out];exact info38) HE1.out ?_))
 clear hw4' hg14'
 have hgr5:=setCells_grown g14 E.toList 0 w4
 have HB35:=hid (show Below w3.heap.size w3 (w4.setCells g14 0 E.toList) from HB34.out.grown hgr5 HB34.out.size (fun k hk=>by rw [← Option.some.inj hk];have:=HZ4.out;omega))
 have HG14:=hid (show (w4.setCells g14 0 E.toList).heap[g14]?=some (.cells E 38 (0,0)) by simpa using setCells_all HO4.out E.toList (by rw [Array.length_toList,HES.out];rfl))
 clear hgr5
 generalize w4.setCells g14 0 E.toList=w5 at *
 clear HTH4
 have HB5:=hid (show Below w2.heap.size w2 w5 from HB3.out.trans (HB35.out.mono HB3.out.size))
 have HBW:=hid (show ∀ x,Below w5.heap.size w5 x→Below w.heap.size w x from fun x hx=>HB2.out.trans ((HB5.out.trans (hx.mono HB5.out.size)).mono HB2.out.size))
 have HS:=hid (show ∀ x,Below w5.heap.size w5 x→(fun x=>(Instr.loadAt 38 (.pointer (some ⟨g14,0,none⟩))).run Tryz.prog x=.ok (.agg E) x∧x.cell? ⟨b7,0,none⟩=some (.int .i64 wd)∧x.cell? ⟨b8,0,none⟩=some (.slice a n c)) x from fun x hx=>by
  have h7:=(hx.block b7 (by have:=HB5.out.size;have:=HZ.out;omega)).trans ((HB5.out.block b7 (by have:=HZ.out;omega)).trans HG7.out)
  have h8:=(hx.block b8 (by have:=HB5.out.size;have:=HZ.out;omega)).trans ((HB5.out.block b8 (by have:=HZ.out;omega)).trans HG8.out)
  have h14:=(hx.block g14 (Array.getElem?_eq_some_iff.1 HG14.out).1).trans HG14.out
  exact ⟨load_dg x g14 E h14 HES.out,by rw [cell_of_row _ _ _ _ _ _ h7];rfl,by rw [cell_of_row _ _ _ _ _ _ h8];rfl⟩)
 refine HK.out _ _ ?_
 clear HK K
 rw [dropSeq_succ]
 have hs0:(fun x=>(Instr.loadAt 38 (.pointer (some ⟨g14,0,none⟩))).run Tryz.prog x=.ok (.agg E) x∧x.cell? ⟨b7,0,none⟩=some (.int .i64 wd)∧x.cell? ⟨b8,0,none⟩=some (.slice a n c)) w5.drew:=HS.out _ (Below.refl _ _).drew
 have HR8:=hid (show Calls Tryz.prog 77 #[.int .i64 wd,.slice a size c] w5.drew (fun e w'=>e=.returned (.agg E)∧Below w5.drew.heap.size w5.drew w') by rw [HE.out];exact HTR.out _ (HBW.out _ (Below.refl _ _).drew) size (Nat.le_refl _))
 have hsl:=fun wx=>slice_toD wx a n c size (by have:=HCAP.out;have:=HLN.out;have:=HSL.out;omega)
 have hnn:((n:Int) != (n:Int))=false:=by simp
 refine wp_two_k (c:=dropSeq 3 an0) ⟨_,_,rfl⟩ fun K hK=>?_
 have HK:=hid hK
 clear hK
 conv=>arg 2;whnf
 go_upto_region 3 with (fail)
 refine wp_region_held_drew (S:=fun x=>(Instr.loadAt 38 (.pointer (some ⟨g14,0,none⟩))).run Tryz.prog x=.ok (.agg E) x∧x.cell? ⟨b7,0,none⟩=some (.int .i64 wd)∧x.cell? ⟨b8,0,none⟩=some (.slice a n c)) (by kernel_rfl) hs0 (fun hHeld=>?_)
 apply wpT 0
 apply wpT 1
 apply wpT 2
 apply wpL 3 (.agg E)
 · exact fun w hSw=>exec_load rfl (hSw.1)
 apply wpT 4
 apply wpT 5
 apply wpT 6
 apply wpT 7
 apply wpR 8
 intro K hK
 go_simp
 refine HR8.out.mono ?_
 rintro e w6 ⟨rfl,hb6⟩
 have HB6:=hid (show Below w5.heap.size w5 w6 from ⟨hb6.os,hb6.tape,hb6.output,hb6.size,hb6.block⟩)
 clear hb6
 apply bk hK
 · exact (HS.out _ HB6.out)
 intro hHeld
 clear hK K
 apply wpL 9 (.bool false)
 · exact fun w hSw=>exec_bin rfl (HEQ.out _) (by go_simp)
 apply wpT 10
 apply wpT 11
 apply wpT 12
 apply wpT 14
 apply wpT 15
 apply wpR 13
 intro K hK
 go_simp
 refine (HSIZE.out w6 (HBW.out _ HB6.out)).mono ?_
 rintro e w7 ⟨rfl,hw⟩
 have hw:=hw.symm
 subst hw
 apply bk hK
 · exact (HS.out _ HB6.out)
 intro hHeld
 clear hK K
 apply wpT 16
 apply wpT 17
 refine wpAnyH_done (by kernel_rfl) ?_ _
 clear hs0 hsl hnn
 go_wp2_with fail
 refine HK.out _ _ ?_
 clear HK K
 rw [dropSeq_succ]
 refine wp_two_k (c:=dropSeq 4 an0) ⟨_,_,rfl⟩ fun K hK=>?_
 have HK:=hid hK
 clear hK
 conv=>arg 2;whnf
 go_wp2_with (go_at_call 78;refine (HCONS.out w6 (HBW.out _ HB6.out)).mono ?_;rintro e w8 ⟨av,cv,rfl,hd8,hb8⟩;have HD8:=hid hd8;have HB8:=hid (HB6.out.trans (hb8.mono HB6.out.size));clear hd8 hb8)
 refine HK.out _ _ ?_
 clear HK K
 rw [dropSeq_succ]
 have c7:=(HS.out _ HB8.out).2.1
 refine wp_two_k (c:=dropSeq 5 an0) ⟨_,_,rfl⟩ fun K hK=>?_
 have HK:=hid hK
 clear hK
 conv=>arg 2;whnf
 go_wp2_with (go_at_call 79;refine (HTC.out w8 (HB5.out.trans (HB8.out.mono HB5.out.size))).mono ?_;rintro e w9 ⟨av2,cv2,rfl,hd9,hb9⟩;have HD9:=hid hd9;have HD89:=hid (HD8.out.below hb9);have HB9:=hid (HB8.out.trans (hb9.mono HB8.out.size));clear hd9 hb9)
 refine HK.out _ _ ?_
 clear HK K
 rw [dropSeq_succ]
 clear c7
 have hs9:(fun x=>(Instr.loadAt 38 (.pointer (some ⟨g14,0,none⟩))).run Tryz.prog x=.ok (.agg E) x∧x.cell? ⟨b7,0,none⟩=some (.int .i64 wd)∧x.cell? ⟨b8,0,none⟩=some (.slice a n c)) w9.drew:=HS.out _ HB9.out.drew
 have HSM:=hid (show Calls Tryz.prog 80 #[.slice av np cv,.slice av2 np cv2] w9.drew (fun e w'=>e=.returned (.bool true)∧Below w9.drew.heap.size w9.drew w') from HSAME.out w9.drew av av2 np cv cv2 _ HD89.out HD9.out HNP.out)
 have hsl:=fun wx=>slice_toD wx a n c old (by have:=HCAP.out;have:=HLN.out;have:=HSL.out;have:=HOS.out;omega)
 obtain ⟨F,hF⟩:∃ F,F=dgA (rootP wd (L.take old)).1:=⟨_,rfl⟩
 have HTO:=hid (show ∀ wx,Below w.heap.size w wx→Calls Tryz.prog 77 #[.int .i64 wd,.slice a old c] wx (fun e w'=>e=.returned (.agg F)∧Below wx.heap.size wx w') from fun wx hb=>by rw [hF];exact HTR.out wx hb old HOS.out)
 have HAG:=hid (show ∀ wx,Below w.heap.size w wx→DS wx av np cv ((partsP old size).map (partD wd L))→Calls Tryz.prog 81 #[.int .i64 wd,.int .i64 (old:Int),.int .i64 (size:Int),.agg F,.agg E,.slice av np cv] wx (AgRet wx) from fun wx hb hd=>by rw [hF];exact HAGR.out wx hb av cv hd)
 clear hF
 refine wp_two_k (c:=dropSeq 6 an0) ⟨_,_,rfl⟩ fun K hK=>?_
 have HK:=hid hK
 clear hK
 conv=>arg 2;whnf
 go_upto_region 7 with (fail)
 refine wp_region_held_drew (S:=fun x=>(Instr.loadAt 38 (.pointer (some ⟨g14,0,none⟩))).run Tryz.prog x=.ok (.agg E) x∧x.cell? ⟨b7,0,none⟩=some (.int .i64 wd)∧x.cell? ⟨b8,0,none⟩=some (.slice a n c)) (by kernel_rfl) hs9 (fun hHeld=>?_)
 apply wpT 0
 apply wpT 1
 apply wpT 2
 apply wpT 3
 apply wpT 4
 apply wpT 5
 apply wpT 6
 apply wpT 7
 apply wpT 8
 apply wpR 9
 intro K hK
 go_simp
 refine HSM.out.mono ?_
 rintro e w10 ⟨rfl,hb10⟩
 have HB910:=hid (show Below w9.heap.size w9 w10 from ⟨hb10.os,hb10.tape,hb10.output,hb10.size,hb10.block⟩)
 have HB10:=hid (HB9.out.trans (HB910.out.mono HB9.out.size))
 clear hb10
 apply bk hK
 · exact (HS.out _ HB10.out)
 intro hHeld
 clear hK K
 apply wpT 10
 apply wpT 11
 apply wpT 12
 apply wpT 13
 apply wpT 14
 apply wpT 15
 apply wpT 16
 apply wpT 17
 apply wpT 18
 apply wpT 19
 apply wpL 21 (.agg E)
 · exact fun w hSw=>exec_load rfl (hSw.1)
 apply wpT 22
 apply wpR 20
 intro K hK
 go_simp
 refine (HTO.out w10 (HBW.out _ HB10.out)).mono ?_
 rintro e w11 ⟨rfl,hb11⟩
 have HB11:=hid (HB10.out.trans (hb11.mono HB10.out.size))
 have HD11:=hid ((HD89.out.below HB910.out).below hb11)
 clear hb11
 apply bk hK
 · exact (HS.out _ HB11.out)
 intro hHeld
 clear hK K
 apply wpR 23
 intro K hK
 go_simp
 refine (HAG.out w11 (HBW.out _ HB11.out) HD11.out).mono ?_
 rintro e w12 ⟨rfl,hb12⟩
 have HB12:=hid (HB11.out.trans (hb12.mono HB11.out.size))
 clear hb12
 apply bk hK
 · exact (HS.out _ HB12.out)
 intro hHeld
 clear hK K
 apply wpT 24
 apply wpT 25
 refine wpAnyH_done (by kernel_rfl) ?_ _
 clear hs9 hsl
 go_wp2_with fail
 refine HK.out _ _ ?_
 clear HK K
 rw [dropSeq_succ]
 by_cases h0:size=0
 · subst h0
   refine wp_two_k (c:=dropSeq 7 an0) ⟨_,_,rfl⟩ fun K hK=>?_
   have HK:=hid hK
   clear hK
   conv=>arg 2;whnf
   go_wp2_with fail
   go_ret
   exact ⟨rfl,HBW.out _ HB12.out⟩
 obtain ⟨i,rfl,hi⟩:=HI.out (by omega)
 have b0:((size:Int) == 0)=false:=by simp;omega
 obtain ⟨nw,hnw⟩:∃ nw,nw=(wayP size 0 size i).reverse.length:=⟨_,rfl⟩
 have hnw6:nw≤60000:=by have:=way_len (i:=i) size 0 size (by have:=HS6.out;omega);rw [hnw,List.length_reverse];have:=HS6.out;omega
 obtain ⟨x,hx⟩:∃ x,L[i]?=some x:=⟨_,List.getElem?_eq_getElem (by have:=HSL.out;omega)⟩
 have hroot:climbW wd i ((wayP size 0 size i).reverse.zip ((wayP size 0 size i).reverse.map (partD wd L))) x=rootP wd (L.take size):=by
  have hwr:=way_root wd L i x hx size 0 size (by omega) (Al.zero _) (Nat.zero_le _) hi HSL.out (by have:=HS6.out;omega)
  rw [List.drop_zero,Nat.sub_zero] at hwr
  rw [zip_map',← hwr,List.map_reverse]
 obtain ⟨bL,oL,rfl,hbL,hrL⟩:=HDS.out.at hx
 obtain ⟨X,hX⟩:∃ X,X=dgA x.1:=⟨_,rfl⟩
 have HXS:=hid (show X.size=32 by rw [hX,dgA_size,x.2])
 have hrL2:w.rangeAt bL (oL+i * 32) X.toList:=by rw [hX];simpa [dgA] using hrL
 have HLX:=hid (show ∀ wx,Below w.heap.size w wx→(Instr.loadAt 38 (.pointer (some ⟨bL,oL+i * 32,none⟩))).run Tryz.prog wx=.ok (.agg X) wx from fun wx hb=>load_dig (fun j v hv=>(World.cell?_of_block (hb.block bL hbL)).trans (hrL2 j v hv)) HXS.out)
 have HINC:=hid (fun (wx:World) (hb:Below w.heap.size w wx)=>show Calls Tryz.prog 82 #[.pointer (some ⟨gt,0,none⟩),.int .i64 (size:Int),.int .i64 (i:Int)] wx (fun e w'=>∃ av cv,e=.returned (.tuple #[.slice av nw cv,.nilIface])∧DS w' av nw cv ((wayP size 0 size i).reverse.map (partD wd L))∧Below wx.heap.size wx w') by
  have h4:=H4.out
  refine (inclT_any wx Ly τ gt gd d T Y (HBT.out.below hb) HLV.out (rt_below HRT.out hb (by omega)) (tab_below HTZ.out hb (by omega)) size i hi (by rw [← HTL.out];exact HSL.out)).mono ?_
  rintro e w' ⟨v,rfl,ho,hbx⟩
  rw [← HWD.out,← HTL.out,← hnw] at ho
  obtain ⟨av,cv,rfl⟩:=rowShape ho
  exact ⟨av,cv,rfl,DS.of_owns ho (by omega),hbx⟩)
 have HTI:=hid (fun (wx:World) (hb:Below w2.heap.size w2 wx)=>show Calls Tryz.prog 83 #[.int .i64 wd,.int .i64 (size:Int),.int .i64 (i:Int),.func (.func 76) #[] #[.pointer (some ⟨b7,0,none⟩),.pointer (some ⟨b8,0,none⟩)]] wx (fun e w'=>∃ av cv,e=.returned (.tuple #[.slice av nw cv,.int .i64 0])∧DS w' av nw cv ((wayP size 0 size i).reverse.map (partD wd L))∧Below wx.heap.size wx w') by
  have h4:=H4.out
  have hbx:=HB2.out.trans (hb.mono HB2.out.size)
  refine (tincl76 wx wd L _ _ HWB.out size i hi HS6.out (by have:=hbx.size;omega) (rt_below HRT.out hbx (by omega)) (tab_below HTZ.out hbx (by omega)) (fun wy q i hby hq hqi=>HAT.out wy (hb.trans (hby.mono hb.size)) q i hq hqi)).mono ?_
  rintro e w' ⟨v,rfl,ho,hbx⟩
  rw [← hnw] at ho
  obtain ⟨av,cv,rfl⟩:=rowShape ho
  exact ⟨av,cv,rfl,DS.of_owns ho (by omega),hbx⟩)
 have HIN:=hid (fun (wx:World) (hb:Below w.heap.size w wx) (av:Option Addr) (cv:Nat) (hd:DS wx av nw cv ((wayP size 0 size i).reverse.map (partD wd L)))=>show Calls Tryz.prog 84 #[.int .i64 wd,.int .i64 (size:Int),.int .i64 (i:Int),.agg X,.slice av nw cv] wx (fun e w'=>e=.returned (.tuple #[.agg E,.int .i64 0])∧Below wx.heap.size wx w') by
  have h4:=H4.out
  have:=tinc_any wx wd (by have:=HWB.out;omega) (by have:=HWB.out;omega) size i hi HS6.out x av nw cv _ hd (by rw [hnw,List.length_reverse]) (rt_below HRT.out hb (by omega)) (by have:=hb.size;omega)
  rw [hroot] at this
  rw [HE.out,hX]
  exact this)
 have hi6:i < n:=by have:=HLN.out;have:=HSL.out;omega
 have hi7:i≤60000:=by have:=HS6.out;omega
 have HNW:=hid hnw6
 clear hnw hnw6 hx hroot hbL hrL hX hrL2 hi h0
 refine wp_two_k (c:=dropSeq 7 an0) ⟨_,_,rfl⟩ fun K hK=>?_
 have HK:=hid hK
 clear hK
 conv=>arg 2;whnf
 go_wp2_with fail
 refine HK.out _ _ ?_
 clear HK K
 rw [dropSeq_succ]
 clear b0
 refine wp_two_k (c:=dropSeq 8 an0) ⟨_,_,rfl⟩ fun K hK=>?_
 have HK:=hid hK
 clear hK
 conv=>arg 2;whnf
 go_wp2_with (go_at_call 82;refine (HINC.out w12 (HBW.out _ HB12.out)).mono ?_;rintro e w13 ⟨ax,cx,rfl,hd13,hb13⟩;have HD13:=hid hd13;have HB13:=hid (HB12.out.trans (hb13.mono HB12.out.size));clear hd13 hb13)
 refine HK.out _ _ ?_
 clear HK K
 rw [dropSeq_succ]
 have c7:=(HS.out _ HB13.out).2.1
 refine wp_two_k (c:=dropSeq 9 an0) ⟨_,_,rfl⟩ fun K hK=>?_
 have HK:=hid hK
 clear hK
 conv=>arg 2;whnf
 go_wp2_with (go_at_call 83;refine (HTI.out w13 (HB5.out.trans (HB13.out.mono HB5.out.size))).mono ?_;rintro e w14 ⟨ax2,cx2,rfl,hd14,hb14⟩;have HD14:=hid hd14;have HD134:=hid (HD13.out.below hb14);have HB14:=hid (HB13.out.trans (hb14.mono HB13.out.size));clear hd14 hb14)
 refine HK.out _ _ ?_
 clear HK K
 rw [dropSeq_succ]
 clear c7
 have hs14:(fun x=>(Instr.loadAt 38 (.pointer (some ⟨g14,0,none⟩))).run Tryz.prog x=.ok (.agg E) x∧x.cell? ⟨b7,0,none⟩=some (.int .i64 wd)∧x.cell? ⟨b8,0,none⟩=some (.slice (some ⟨bL,oL,none⟩) n c)∧(Instr.loadAt 38 (.pointer (some ⟨bL,oL+i * 32,none⟩))).run Tryz.prog x=.ok (.agg X) x) w14.drew:=⟨(HS.out _ HB14.out.drew).1,(HS.out _ HB14.out.drew).2.1,(HS.out _ HB14.out.drew).2.2,HLX.out _ (HBW.out _ HB14.out.drew)⟩
 have HSX:=hid (show ∀ x,Below w5.heap.size w5 x→(fun x=>(Instr.loadAt 38 (.pointer (some ⟨g14,0,none⟩))).run Tryz.prog x=.ok (.agg E) x∧x.cell? ⟨b7,0,none⟩=some (.int .i64 wd)∧x.cell? ⟨b8,0,none⟩=some (.slice (some ⟨bL,oL,none⟩) n c)∧(Instr.loadAt 38 (.pointer (some ⟨bL,oL+i * 32,none⟩))).run Tryz.prog x=.ok (.agg X) x) x from fun x hx=>⟨(HS.out x hx).1,(HS.out x hx).2.1,(HS.out x hx).2.2,HLX.out x (HBW.out x hx)⟩)
 have hcap:=HCAP.out
 refine wp_two_k (c:=dropSeq 10 an0) ⟨_,_,rfl⟩ fun K hK=>?_
 have HK:=hid hK
 clear hK
 conv=>arg 2;whnf
 go_upto_region 13 with (fail)
 refine wp_region_held_drew (S:=fun x=>(Instr.loadAt 38 (.pointer (some ⟨g14,0,none⟩))).run Tryz.prog x=.ok (.agg E) x∧x.cell? ⟨b7,0,none⟩=some (.int .i64 wd)∧x.cell? ⟨b8,0,none⟩=some (.slice (some ⟨bL,oL,none⟩) n c)∧(Instr.loadAt 38 (.pointer (some ⟨bL,oL+i * 32,none⟩))).run Tryz.prog x=.ok (.agg X) x) (by kernel_rfl) hs14 (fun hHeld=>?_)
 apply wpT 0
 apply wpT 1
 apply wpT 2
 apply wpT 3
 apply wpT 4
 apply wpT 5
 apply wpL 6 (.agg X)
 · exact fun w hSw=>exec_load rfl (hSw.2.2.2)
 apply wpT 7
 refine wpAnyH_ready (rs:=[8,12]) (by kernel_rfl) (by simp) ?_
 refine AllReadyH.cons (o:=_) rfl (fun K hK=>?_) (AllReadyH.cons (o:=_) rfl (fun K hK=>?_) AllReadyH.nil)
 go_simp
 refine (HIN.out w14.drew (HBW.out _ HB14.out.drew) ax cx HD134.out).mono ?_
 rintro e w15 ⟨rfl,hb15⟩
 have hb15':Below w14.heap.size w14 w15:=⟨hb15.os,hb15.tape,hb15.output,hb15.size,hb15.block⟩
 have HB15:=hid (HB14.out.trans (hb15'.mono HB14.out.size))
 obtain ⟨g19,hg19⟩:∃ g19,g19=w15.heap.size:=⟨_,rfl⟩
 obtain ⟨wq,hwq⟩:∃ wq,wq=w15.alloc (.cells (dgA zDg.1) 38):=⟨_,rfl⟩
 have HXA:=hid (show ∀ (ρ:Operand→Value) (o:Oper),o.op=.alloc 38→(execOp ρ o).run Tryz.prog w15=.ok (.value (.pointer (some ⟨g19,0,none⟩))) wq from fun ρ o ho=>by rw [exec_alloc38 ho,hg19,hwq])
 have HOQ:=hid (show wq.heap[g19]?=some (.cells (dgA zDg.1) 38 (0,0)) by rw [hwq,hg19];exact heap_alloc_new _ _)
 have hbq:Below w15.heap.size w15 wq:=by rw [hwq];exact bel1 _ _
 have HB14Q:=hid (hb15'.trans (hbq.mono hb15'.size))
 have HBQ:=hid (HB15.out.trans (hbq.mono HB15.out.size))
 have HGL:=hid (show w5.heap.size≤g19 by rw [hg19];exact HB15.out.size)
 have HGL14:=hid (show w14.heap.size≤g19 by rw [hg19];exact hb15'.size)
 clear hb15 hb15' hg19 hwq hbq
 apply bk hK
 · exact (HSX.out _ HB15.out)
 intro hHeld
 clear hK K
 apply wpT 9
 apply wpT 10
 apply wpT 11
 apply wpR 12
 intro K hK
 refine S_value rfl (HXA.out _ _ rfl) ?_
 apply bk hK
 · exact (HSX.out _ HBQ.out)
 intro hHeld
 clear hK K
 rotate_left
 obtain ⟨g19,hg19⟩:∃ g19,g19=w14.heap.size:=⟨_,rfl⟩
 obtain ⟨w16,hw16⟩:∃ w16,w16=w14.drew.alloc (.cells (dgA zDg.1) 38):=⟨_,rfl⟩
 have HXA:=hid (show ∀ (ρ:Operand→Value) (o:Oper),o.op=.alloc 38→(execOp ρ o).run Tryz.prog w14.drew=.ok (.value (.pointer (some ⟨g19,0,none⟩))) w16 from fun ρ o ho=>by rw [exec_alloc38 ho,hg19,hw16];rfl)
 have hO16:w16.heap[g19]?=some (.cells (dgA zDg.1) 38 (0,0)):=by rw [hw16,hg19];exact heap_alloc_new _ _
 have hb16:Below w14.heap.size w14 w16:=by rw [hw16];exact ((Below.refl w14.heap.size w14).drew).alloc (Nat.le_refl _) _
 have HB16:=hid (HB14.out.trans (hb16.mono HB14.out.size))
 have HO16:=hid hO16
 have HB1416:=hid hb16
 have HD16:=hid (show DS w16 ax nw cx ((wayP size 0 size i).reverse.map (partD wd L)) from RS.below HD134.out hb16)
 have HGL:=hid (show w5.heap.size≤g19 by rw [hg19];exact HB14.out.size)
 have HGL14:=hid (show w14.heap.size≤g19 by rw [hg19];exact Nat.le_refl _)
 clear hg19 hw16 hO16 hb16
 refine S_value rfl (HXA.out _ _ rfl) ?_
 apply bk hK
 · exact (HSX.out _ HB16.out)
 intro hHeld
 clear hK K
 apply wpR 8
 intro K hK
 go_simp
 refine (HIN.out w16 (HBW.out _ HB16.out) ax cx HD16.out).mono ?_
 rintro e wq ⟨rfl,hb15⟩
 have HOQ:=hid ((hb15.block g19 (Array.getElem?_eq_some_iff.1 HO16.out).1).trans HO16.out)
 have HB14Q:=hid (HB1416.out.trans (hb15.mono HB1416.out.size))
 have HBQ:=hid (HB16.out.trans (hb15.mono HB16.out.size))
 clear hb15
 apply bk hK
 · exact (HSX.out _ HBQ.out)
 intro hHeld
 clear hK K
 apply wpT 9
 apply wpT 10
 apply wpT 11
 all_goals
  have hth:=there_block HOQ.out
  rw [show (dgA zDg.1).size=32 from rfl] at hth
  have HTHQ:=hid hth
  have hgr:=setCells_grown g19 E.toList 0 wq
  have HBZ:=hid (show Below w5.heap.size w5 (wq.setCells g19 0 E.toList) from HBQ.out.grown hgr HBQ.out.size (fun k hk=>by rw [← Option.some.inj hk];exact HGL.out))
  have HB14Z:=hid (show Below w14.heap.size w14 (wq.setCells g19 0 E.toList) from HB14Q.out.grown hgr HB14Q.out.size (fun k hk=>by rw [← Option.some.inj hk];exact HGL14.out))
  have HG19:=hid (show (wq.setCells g19 0 E.toList).heap[g19]?=some (.cells E 38 (0,0)) by simpa using setCells_all HOQ.out E.toList (by rw [Array.length_toList,HES.out];rfl))
  clear hth hgr
  apply wpR 13
  intro K hK
  refine S_store_mid rfl 38 (.tmp 19) (.tmp 114) (by rfl) g19 0 E (by rfl) (by rfl) (by rw [HES.out];exact HTHQ.out) (by rw [HES.out];exact info38) HE1.out ?_
  apply bk hK
  · exact (HSX.out _ HBZ.out)
  intro hHeld
  clear hK K
  apply wpT 14
  refine wpAnyH_done (by kernel_rfl) ?_ _
  clear hs14 hcap
  generalize wq.setCells g19 0 E.toList=wz at *
  clear HTHQ
  go_wp2_with fail
  refine HK.out _ _ ?_
  clear HK K
  rw [dropSeq_succ]
  have heq:=HEE.out
  have HD13Z:=hid (show DS wz ax nw cx ((wayP size 0 size i).reverse.map (partD wd L)) from RS.below HD134.out HB14Z.out)
  have HD14Z:=hid (show DS wz ax2 nw cx2 ((wayP size 0 size i).reverse.map (partD wd L)) from RS.below HD14.out HB14Z.out)
  have HG14Z:=hid ((HBZ.out.block g14 (Array.getElem?_eq_some_iff.1 HG14.out).1).trans HG14.out)
  have HSZ:=hid (HSAME.out wz ax ax2 nw cx cx2 _ HD13Z.out HD14Z.out HNW.out)
  conv=>arg 2;whnf
  go_wp2_with (first
   | (go_at_call 80;refine HSZ.out.mono ?_;rintro e wy ⟨rfl,hby⟩;have HBY:=hid (HBZ.out.trans (hby.mono HBZ.out.size));have HGY:=hid ((hby.block g19 (Array.getElem?_eq_some_iff.1 HG19.out).1).trans HG19.out);have HGY2:=hid ((hby.block g14 (Array.getElem?_eq_some_iff.1 HG14Z.out).1).trans HG14Z.out);clear hby)
   | (refine L_loadW (by rfl) 38 (.tmp 19) (by rfl) g19 (by rfl) 38 E (0,0) _ HGY.out Tryz.underlying38 rfl (by rw [HES.out];exact info38) ?_)
   | (refine L_loadW (by rfl) 38 (.tmp 14) (by rfl) g14 (by rfl) 38 E (0,0) _ HGY2.out Tryz.underlying38 rfl (by rw [HES.out];exact info38) ?_))
  go_ret
  exact ⟨rfl,HBW.out _ HBY.out⟩
end
section
open Go.Maps Go.WideMaps Go.ChangeMaps
def tqF (wd:Int) (ls:List Dg):List UInt8:=tilesQ wd.toNat (chunk ls) (ls.length / 256)
theorem tls_tqF (T:TT):T.tls.flatten=tqF T.wd T.L:=rfl
theorem chunk_len {ls:List Dg} {j:Nat} (h:j < ls.length / 256):(chunk ls j).length=256:=by unfold chunk;rw [List.length_take,List.length_drop];omega
theorem tqF_len (wd:Int) (ls:List Dg):(tqF wd ls).length=8207 * (ls.length / 256):=tilesQ_len _ _ _ fun j hj=>chunk_len hj
section
variable {TB : List UInt8} {N : Nat} {d : Dm}
theorem live_ec {T T':TT} {d':Dm} (h:T.live d tlN=0) (he:EC d d') (hp:d'.power=true) (h1:T'.ep=T.ep) (h2:T'.cl=T.cl):T'.live d' tlN=0:=by
 have hc:d'.claimOf tlN=d.claimOf tlN:=by unfold Dm.claimOf;rw [he.2]
 unfold TT.live at h ⊢
 rw [if_neg (by rw [hp];decide),h1,h2,he.1,hc]
 by_cases hd:d.power=false
 · rw [if_pos hd] at h;cases h
 · rw [if_neg hd] at h;exact h
end
section
variable {w : World} {L : Lay} {τ : Nat → Nat} {gt gd : Nat} {d : Dm} {T : TT} {Y : TY} {wd : Int} {ls : List Dg} {N : Nat}
end
end
section
open Go.Maps Go.WideMaps Go.ChangeMaps
theorem lk_isSome {β:Type} {l:List (Nm × β)} {s:Nm} (h:s ∈ keysOf l):∃ i,lk l s=some i:=Option.isSome_iff_exists.1 (lk_some.2 h)
def imgStep (l:List (Nm × List UInt8)) (d:Dm) (s:Nm):Dm :=
 { d with fs:=d.fs++[⟨(lk l s).getD [],(lk l s).getD [],[]⟩],names:=ins d.names s d.fs.length,safe:=ins d.safe s d.fs.length,used:=wrap64 (d.used+(((lk l s).getD []).length:Int)) }
def imgD (space:Int) (l:List (Nm × List UInt8)) (ks:List Nm):Dm:=ks.foldl (imgStep l) (Dm.new space)
theorem imgD_snoc (space:Int) (l:List (Nm × List UInt8)) (ks:List Nm) (s:Nm):imgD space l (ks++[s])=imgStep l (imgD space l ks) s:=by unfold imgD;rw [List.foldl_append];rfl
structure Imaged (space:Int) (l:List (Nm × List UInt8)) (ks:List Nm) (d:Dm):Prop where
 acts:d.acts=0
 ep:d.epoch=0
 pw:d.power=true
 pl:d.plan=[]
 ch:d.changes=[]
 len:d.fs.length=ks.length
 keys:keysOf d.names=ks
 sf:d.safe=d.names
 at_:∀ (s:Nm) (i:Nat),lk d.names s=some i→i < d.fs.length∧d.file i=⟨(lk l s).getD [],(lk l s).getD [],[]⟩
 fl:∀ f ∈ d.fs,f.loose=[]∧∃ s,f.now=(lk l s).getD []∧f.safe=(lk l s).getD []
theorem imaged (space:Int) (l:List (Nm × List UInt8)):∀ (n:Nat) (ks:List Nm),ks.length=n→ks.Nodup→Imaged space l ks (imgD space l ks):=by
 intro n
 induction n with
 | zero =>
   intro ks hk _
   obtain rfl:ks=[]:=List.eq_nil_of_length_eq_zero hk
   exact ⟨rfl,rfl,rfl,rfl,rfl,rfl,rfl,rfl,fun s i h=>(by cases h),fun f h=>(by cases h)⟩
 | succ n ih =>
   intro ks hk hn
   rcases List.eq_nil_or_concat ks with e | ⟨k0,s,e⟩
   · rw [e] at hk;cases hk
   · rw [List.concat_eq_append] at e
     subst e
     rw [List.length_append] at hk
     rw [List.nodup_append] at hn
     have h:=ih k0 (by simpa using hk) hn.1
     rw [imgD_snoc]
     have hns:s ∉ keysOf (imgD space l k0).names:=by rw [h.keys];intro hm;exact hn.2.2 s hm s (by simp) rfl
     have hlen:((imgD space l k0).fs++[(⟨(lk l s).getD [],(lk l s).getD [],[]⟩:Fl)]).length=(imgD space l k0).fs.length+1:=by rw [List.length_append];rfl
     refine ⟨h.acts,h.ep,h.pw,h.pl,h.ch,?_,?_,?_,fun t i ht=>?_,fun f hf=>?_⟩
     · show ((imgD space l k0).fs++[_]).length=_
       rw [hlen,h.len,List.length_append];rfl
     · show keysOf (ins (imgD space l k0).names s _)=_
       rw [keys_ins,if_neg hns,h.keys]
     · show ins (imgD space l k0).safe s _=ins (imgD space l k0).names s _
       rw [h.sf]
     · have ht:lk (ins (imgD space l k0).names s (imgD space l k0).fs.length) t=some i:=ht
       rw [lk_ins] at ht
       show i < ((imgD space l k0).fs++[_]).length∧(((imgD space l k0).fs++[_])[i]?.getD ⟨[],[],[]⟩)=_
       rw [hlen]
       by_cases e:t=s
       · rw [if_pos e] at ht
         cases ht
         refine ⟨by omega,?_⟩
         rw [List.getElem?_append_right (Nat.le_refl _),Nat.sub_self,e];rfl
       · rw [if_neg e] at ht
         obtain ⟨h1,h2⟩:=h.at_ t i ht
         refine ⟨by omega,?_⟩
         rw [List.getElem?_append_left h1];exact h2
     · have hf:f ∈ (imgD space l k0).fs++[(⟨(lk l s).getD [],(lk l s).getD [],[]⟩:Fl)]:=hf
       rcases List.mem_append.1 hf with h1 | h1
       · exact h.fl f h1
       · rw [List.mem_singleton.1 h1];exact ⟨rfl,s,rfl,rfl⟩
end
end Go.Proofs.YtgkehahklccacaaGreatDoor
