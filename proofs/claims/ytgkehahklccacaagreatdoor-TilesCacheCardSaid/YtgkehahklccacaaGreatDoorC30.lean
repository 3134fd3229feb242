import Derived.Test.YtgkehahklccacaaGreatDoorC29
namespace Go.Proofs.YtgkehahklccacaaGreatDoor
open Go Go.RowKit
open Go.Lib (hid)
set_option maxRecDepth 100000
set_option maxHeartbeats 1000000
set_option linter.unusedVariables false
set_option linter.unusedSimpArgs false
section
open Go.Maps Go.WideMaps Go.ChangeMaps
theorem results_row_tmp {P:Program} {fn:Func} {p u:Tmp} {ty:TypeId} (h:fn.results=#[.cell p ty,.tmp u]) (tmps:Array Value) (w:World) (g:Nat) (t:TypeId) (cs:Array Value) (fr:Nat × Nat) (d:TypeDesc)
 (hp:tmps.getD p undef=.pointer (some ⟨g,0,none⟩)) (hg:w.heap[g]?=some (.cells cs t fr))
 (hu:P.underlying ty=some d) (hd:(match d with | .struct _ | .array _ _=>true | _=>false)=true) (hi:(P.info? ty).map (·.size)=some cs.size) :
 (results fn tmps).run P w=.ok (.tuple #[.agg cs,tmps.getD u undef]) w:=by
 rw [results_cell_tmp h,hp]
 simp [asAddr,run_loadVar_row w g t ty cs fr d hg hu hd hi,Result.andThen]
def sl23z:Value:=.agg (dgA zDg.1)
theorem L_build1 {ops:Array Oper} {rest:List Oper} {o:Oper} {a:Act} {w:World} {Q:Exit→Act→World→Prop} (hg:o.guard=none) (d:Operand) (ho:o.op=.buildSlice 23 1 #[(0,d)]) (D:Array Value) (hd:a.eval d=.agg D) (hs:D.size=32)
 (h:wpList Tryz.prog ops Q rest (a.put o.dst (.slice (some ⟨w.heap.size,0,none⟩) 1 1)) (w.alloc (.cells D 38))):wpList Tryz.prog ops Q (o :: rest) a w:=by
 obtain ⟨ie,hie,hz0,hz1,hz2⟩:=info_parts sl23.inf
 have h32:ie.size=32:=by have:=hz0;have:=hz1;first | assumption | omega
 have hf:Instr.fill (fun i=>some (i * ie.size,ie.size)) ((Array.range (1 * ie.size)).map ((sl23z).cells[· % (sl23z).cells.size]!)) (#[(0,Value.agg D)]:Array (Nat × Value)).toList=some D:=by
  have:=Great.fill_whole (s:=ie.size) (by omega) [Value.agg D] ((Array.range (1 * ie.size)).map ((sl23z).cells[· % (sl23z).cells.size]!)) (by intro v hv;rw [List.mem_singleton.1 hv];show D.size=ie.size;omega) (by simp)
  simpa [Value.cells] using this
 refine wpList_buildSlice hg 23 38 1 #[(0,d)] ho D ie sl23z Tryz.underlying23 hie ?_ (by omega) (by omega) ?_ h
 · first | assumption | exact hz1
 · simp only [List.map_toArray,List.map_cons,List.map_nil,hd]
   exact hf
theorem info133:(Tryz.prog.info? 133).map (·.size)=some 2:=by kernel_rfl
theorem ask_any (w:World) (L:Lay) (τ:Nat→Nat) (gt gd:Nat) (d:Dm) (T:TT) (Y:TY) (h:BT w L τ gt gd d T Y) (hl:T.live d tlN=0) (c:ByteArray) :
 Calls Tryz.prog 59 #[.pointer (some ⟨gt,0,none⟩),.string c,.bool true] w fun e w'=>e=.returned .nilIface∧Below w.heap.size w w':=by
 have HL:=hid (live_any w L τ gt gd d T Y h c)
 rw [hl] at HL
 clear h hl
 go_enter Tryz.func59,Tryz.ntmps59
 go_wp2_with (go_at_call 39;refine HL.out.mono ?_;rintro e w1 ⟨⟨v,rfl,hv⟩,hb⟩;obtain rfl:v=.nilIface:=(hv.resolve_right fun q=>q.1 rfl).2)
 go_ret
 exact ⟨rfl,hb⟩
set_option maxHeartbeats 8000000
theorem root_none (w:World) (L:Lay) (τ:Nat→Nat) (gt gd:Nat) (d:Dm) (T:TT) (Y:TY) (h:BT w L τ gt gd d T Y) (hl:T.live d tlN=0) (ht:RoundTab w) :
 Calls Tryz.prog 25 #[.pointer (some ⟨gt,0,none⟩),.int .i64 0] w fun e w'=>e=.returned (.tuple #[.agg (dgA (rootP T.wd (T.L.take 0)).1),.nilIface])∧Below w.heap.size w w':=by
 have h4:=h.t.sz
 obtain ⟨rb,hrb⟩:∃ rb,rb=w.heap.size:=⟨_,rfl⟩
 obtain ⟨w1,hw1⟩:∃ w1,w1=w.alloc (.cells (dgA zDg.1) 38):=⟨_,rfl⟩
 have hb1:Below w.heap.size w w1:=by rw [hw1];exact (Below.refl _ _).alloc (Nat.le_refl _) _
 have hz1:w1.heap.size=rb+1:=by rw [hw1,World.size_alloc];omega
 have hg1:w1.heap[rb]?=some (.cells (dgA zDg.1) 38 (0,0)):=by rw [hw1,hrb];exact heap_alloc_new _ _
 have HASK:=hid (ask_any w1 L τ gt gd d T Y (h.below hb1) hl ⟨#[82,111,111,116]⟩)
 obtain ⟨E,hE⟩:∃ E,E=dgA (rootP T.wd (T.L.take 0)).1:=⟨_,rfl⟩
 have hNT:=fun (wx:World) (hb:Below w.heap.size w wx)=>show Calls Tryz.prog 60 #[.int .i64 T.wd] wx (fun e w'=>e=.returned (.agg (dgA (rootP T.wd (T.L.take 0)).1))∧Below wx.heap.size wx w') from nothing_dg wx T.wd (by have:=h.t.wdb;omega) (by have:=h.t.wdb;omega) (rt_below ht hb (by omega)) (by have:=hb.size;omega)
 rw [← hE] at hNT
 have HNT:=hid hNT
 have HE:=hid hE
 have HES:=hid (show E.size=32 by rw [hE,dgA_size,(rootP T.wd (T.L.take 0)).2])
 have HE1:=hid (show E.all (·.oneCell')=true by rw [hE];exact dgA_all _)
 obtain ⟨-,-,-,c3,c4,-⟩:=h.t.cells
 have HC3:=hid (show ∀ wx,Below w.heap.size w wx→wx.cell? ⟨gt,3,none⟩=some (.int .i64 T.wd) from fun wx hb=>(hb.cell (h.t.dom gt (by rw [h.t.lg];decide))).trans c3)
 have hc4:=(hb1.cell (h.t.dom gt (by rw [h.t.lg];decide))).trans c4
 have HB1:=hid hb1;have HG1:=hid hg1;have HRB:=hid hrb
 have b3:decide ((0:Int)≤(T.L.length:Int))=true:=by simp
 have hw1':w.alloc (.cells #[.int .u8 0,.int .u8 0,.int .u8 0,.int .u8 0,.int .u8 0,.int .u8 0,.int .u8 0,.int .u8 0,.int .u8 0,.int .u8 0,.int .u8 0,.int .u8 0,.int .u8 0,.int .u8 0,.int .u8 0,.int .u8 0,.int .u8 0,.int .u8 0,.int .u8 0,.int .u8 0,.int .u8 0,.int .u8 0,.int .u8 0,.int .u8 0,.int .u8 0,.int .u8 0,.int .u8 0,.int .u8 0,.int .u8 0,.int .u8 0,.int .u8 0,.int .u8 0] 38)=w1:=hw1.symm
 have hz1':w1.heap.size=rb+1:=hz1
 have hrb':w.heap.size=rb:=hrb.symm
 clear h hl ht h4 hrb hw1 hb1 hz1 hg1 c3 hNT hE
 go_enter Tryz.func25,Tryz.ntmps25
 go_wp2_with (first
  | (go_at_call 59;refine HASK.out.mono ?_;rintro e w2 ⟨rfl,hb2⟩;have HB2:=hid (HB1.out.trans (hb2.mono HB1.out.size));have HG2:=hid ((hb2.block rb (by omega)).trans HG1.out);have c3:=HC3.out w2 HB2.out;clear hb2)
  | (go_at_call 60;refine (HNT.out _ HB2.out).mono ?_;rintro e w6 ⟨rfl,hb6⟩;have HB6:=hid (HB2.out.trans (hb6.mono HB2.out.size));have HG6:=hid ((hb6.block rb (Array.getElem?_eq_some_iff.1 HG2.out).1).trans HG2.out);have HTH6:=hid (there_block HG6.out);clear hb6)
  | (refine wpList_store_mid rfl 38 (.tmp 4) (.tmp 32) (by rfl) rb 0 E (by rfl) (by rfl) (by rw [HES.out];exact HTH6.out) (by rw [HES.out];exact info38) HE1.out ?_))
 have HGF:=hid (setCells_all HG6.out E.toList (by rw [Array.length_toList,HES.out];rfl))
 have HB9:=hid (HB6.out.grown (setCells_grown rb E.toList 0 w6) HB6.out.size (fun k hk=>by rw [← Option.some.inj hk,HRB.out];exact Nat.le_refl _))
 have HGF9:=hid (show (w6.setCells rb 0 E.toList).heap[rb]?=some (.cells E 38 (0,0)) by have:=HGF.out;simpa using this)
 generalize w6.setCells rb 0 E.toList=w9 at *
 clear HTH6 HGF
 refine bodyPost_ret (v:=.tuple #[.agg E,.nilIface]) (results_row_tmp (p:=4) (u:=5) (ty:=38) rfl _ _ rb 38 E (0,0) _ rfl HGF9.out Tryz.underlying38 rfl (by rw [HES.out];exact info38)) rfl ⟨by rw [HE.out],HB9.out⟩
theorem root_some (w:World) (L:Lay) (τ:Nat→Nat) (gt gd:Nat) (d:Dm) (T:TT) (Y:TY) (h:BT w L τ gt gd d T Y) (hl:T.live d tlN=0) (ht:RoundTab w) (htz:TabAt 1 Lib.deBruijn64tab w) (n:Nat) (h0:0 < n) (hn:n≤T.L.length) :
 Calls Tryz.prog 25 #[.pointer (some ⟨gt,0,none⟩),.int .i64 (n:Int)] w fun e w'=>e=.returned (.tuple #[.agg (dgA (rootP T.wd (T.L.take n)).1),.nilIface])∧Below w.heap.size w w':=by
 have hfew:=h.t.few
 have h4:=h.t.sz
 obtain ⟨rb,hrb⟩:∃ rb,rb=w.heap.size:=⟨_,rfl⟩
 obtain ⟨w1,hw1⟩:∃ w1,w1=w.alloc (.cells (dgA zDg.1) 38):=⟨_,rfl⟩
 have hb1:Below w.heap.size w w1:=by rw [hw1];exact (Below.refl _ _).alloc (Nat.le_refl _) _
 have hz1:w1.heap.size=rb+1:=by rw [hw1,World.size_alloc];omega
 have hg1:w1.heap[rb]?=some (.cells (dgA zDg.1) 38 (0,0)):=by rw [hw1,hrb];exact heap_alloc_new _ _
 obtain ⟨sp,hsp⟩:∃ sp,sp=spL 0 n:=⟨_,rfl⟩
 have hfo:=fold_spots T.wd T.L n n 0 (Nat.le_refl _) (Al.zero n) h0 (by omega) (by omega)
 rw [← hsp,List.drop_zero] at hfo
 have hlv:=spL_level n n 0 (Nat.le_refl _) (Al.zero n) (by omega)
 rw [← hsp] at hlv
 have hle:=spL_len n n 0 (Nat.le_refl _)
 rw [← hsp] at hle
 have hpos:0 < sp.length:=by rw [hsp,spL_pos _ _ h0];simp
 have HASK:=hid (ask_any w1 L τ gt gd d T Y (h.below hb1) hl ⟨#[82,111,111,116]⟩)
 have HSP:=hid (fun (wx:World) (hb:Below w.heap.size w wx)=>show Calls Tryz.prog 61 #[.int .i64 0,.int .i64 (n:Int)] wx (fun e w'=>∃ a m c,e=.returned (.slice a m c)∧m=sp.length∧w'.ownsRow wx.heap.size 133 2 (.slice a m c) m (sp.flatMap spE)∧Below wx.heap.size wx w') by
  have:=spots_any wx 0 n (Nat.zero_le _) (by omega) (Al.zero _) (tab_below htz hb (by omega)) (by have:=hb.size;omega)
  rw [Nat.sub_zero,← hsp] at this
  exact this)
 have HAT:=hid (fun (wx:World) (hb:Below w.heap.size w wx) (q i:Nat) (hq:(q,i) ∈ sp)=>show Calls Tryz.prog 62 #[.pointer (some ⟨gt,0,none⟩),.agg #[.int .i64 (q:Int),.int .i64 (i:Int)]] wx (fun e w'=>e=.returned (.agg (dgA (spotD T.wd T.L (q,i)).1))∧Below wx.heap.size wx w') by
  have hh:=hlv _ hq
  refine at_any wx τ gt gd T Y (h.t.below hb) q i ?_ ?_ (rt_below ht hb (by omega))
  · rcases Nat.lt_or_ge q 16 with e | e
    · exact e
    · have:2 ^ 16≤2 ^ q:=Nat.pow_le_pow_right (by decide) e
      have h2:2 ^ q≤n:=by simpa using hh.2
      omega
  · have h2:i * 2 ^ q+2 ^ q≤0+n:=hh.1
    rw [Nat.add_mul,Nat.one_mul]
    omega)
 have HFOLD:=hid (fun (wx:World) (hb:Below w.heap.size w wx) (a:Option Addr) (m c:Nat) (hds:DS wx a m c (sp.map (spotD T.wd T.L))) (hm:m=sp.length)=>hfo ▸ fold_any wx T.wd (by have:=h.t.wdb;omega) (by have:=h.t.wdb;omega) a m c _ hds (by omega) (by omega) (rt_below ht hb (by omega)) (by have:=hb.size;omega))
 obtain ⟨-,-,-,c3,c4,-⟩:=h.t.cells
 have hc3:∀ wx,Below w.heap.size w wx→wx.cell? ⟨gt,3,none⟩=some (.int .i64 T.wd):=fun wx hb=>(hb.cell (h.t.dom gt (by rw [h.t.lg];decide))).trans c3
 have hc4:=(hb1.cell (h.t.dom gt (by rw [h.t.lg];decide))).trans c4
 have HC3:=hid hc3
 have HB1:=hid hb1;have HG1:=hid hg1;have HRB:=hid hrb
 have HN:=hid (And.intro h0 (And.intro hn (And.intro hfew (And.intro hle hpos))))
 have b1:((n:Int) == 0)=false:=by simp;omega
 have b2:decide ((0:Int)≤(n:Int))=true:=by simp
 have b3:decide ((n:Int)≤(T.L.length:Int))=true:=by simp;omega
 have b4:decide (n≤T.L.length)=true:=by simp;omega
 have hw1':w.alloc (.cells #[.int .u8 0,.int .u8 0,.int .u8 0,.int .u8 0,.int .u8 0,.int .u8 0,.int .u8 0,.int .u8 0,.int .u8 0,.int .u8 0,.int .u8 0,.int .u8 0,.int .u8 0,.int .u8 0,.int .u8 0,.int .u8 0,.int .u8 0,.int .u8 0,.int .u8 0,.int .u8 0,.int .u8 0,.int .u8 0,.int .u8 0,.int .u8 0,.int .u8 0,.int .u8 0,.int .u8 0,.int .u8 0,.int .u8 0,.int .u8 0,.int .u8 0,.int .u8 0] 38)=w1:=hw1.symm
 have hz1':w1.heap.size=rb+1:=hz1
 have hrb':w.heap.size=rb:=hrb.symm
 clear h hl ht htz h0 hn hfew h4 hrb hw1 hb1 hz1 hg1 hsp hfo hlv hle hpos c3 hc3
 go_enter Tryz.func25,Tryz.ntmps25
 go_wp2_with (first
  | (go_at_call 59;refine HASK.out.mono ?_;rintro e w2 ⟨rfl,hb2⟩;have HB2:=hid (HB1.out.trans (hb2.mono HB1.out.size));have HG2:=hid ((hb2.block rb (by omega)).trans HG1.out);clear hb2)
  | (go_at_call 61;refine (HSP.out _ HB2.out).mono ?_;rintro e w3 ⟨a,m,c,rfl,hm,ho,hb3⟩;have HM:=hid hm;have HO:=hid ho;have HB3:=hid (HB2.out.trans (hb3.mono HB2.out.size));have HG3:=hid ((hb3.block rb (Array.getElem?_eq_some_iff.1 HG2.out).1).trans HG2.out);clear hm ho hb3))
 obtain ⟨gs,cs,hsl,hgs,-⟩:=HO.out.form (by rw [HM.out];exact HN.out.2.2.2.2)
 obtain ⟨rfl,-,rfl⟩:=Value.slice.inj hsl
 have hrs:RS 2 spE w3 (some ⟨gs,0,none⟩) m c sp:=RS.of_owns HO.out (by decide) (fun _=>rfl) (by have:=HM.out;have:=HN.out;omega)
 have HRS:=hid hrs
 clear hrs hsl hgs b1 b2 b3 b4 hw1' hz1' c4 hc4
 have HW:=hid hrb'
 clear hrb'
 go_loopw [7,36] (fun v u wr=>∃ k:Nat,k≤m∧u=.int .i64 (k:Int)∧wr.ownsRow w3.heap.size 38 32 v k (((sp.take k).map (spotD T.wd T.L)).flatMap dgE)∧Below w3.heap.size w3 wr) (fun _ u _=>m - (intOf u).toNat)
 case atStart=>exact ⟨0,Nat.zero_le _,rfl,World.ownsRow_nil _ _ _ _,Below.refl _ _⟩
 case round =>
  obtain ⟨k,hk,rfl,ho,hb⟩:=hrel
  have HO:=hid ho;have HB:=hid hb;have HK:=hid hk
  by_cases hlt:k < m
  · obtain ⟨s,hs⟩:∃ s,sp[k]?=some s:=⟨_,List.getElem?_eq_getElem (by have:=HM.out;omega)⟩
    obtain ⟨q,i⟩:=s
    have hmem:(q,i) ∈ sp:=List.mem_of_getElem? hs
    obtain ⟨E,hE⟩:∃ E,E=dgA (spotD T.wd T.L (q,i)).1:=⟨_,rfl⟩
    have hES:E.size=32:=by rw [hE,dgA_size,(spotD T.wd T.L (q,i)).2]
    have HE1:=hid (show ∀ u ∈ E.toList,u.oneCell'=true from fun u hu=>by
     rw [hE] at hu
     exact Array.all_eq_true'.1 (dgA_all _) u (Array.mem_toList_iff.1 hu))
    obtain ⟨D,hD⟩:∃ D:Array Value,D=#[.int .i64 (q:Int),.int .i64 (i:Int)]:=⟨_,rfl⟩
    have hDS:D.size=2:=by rw [hD];rfl
    have HD1:=hid (show D.all (·.oneCell')=true by rw [hD];exact all_oneCell_toArray (cs:=[.int .i64 (q:Int),.int .i64 (i:Int)]) (by intro v hv;simp only [List.mem_cons,List.not_mem_nil,or_false] at hv;rcases hv with rfl | rfl <;> rfl))
    have hat:=fun (wx:World) (hb:Below w.heap.size w wx)=>HAT.out wx hb q i hmem
    rw [← hD,← hE] at hat
    have HATK:=hid hat
    have hr:wr.rangeAt gs (0+k * 2) #[.int .i64 (q:Int),.int .i64 (i:Int)].toList:=fun j v hv=>(hb.cell (World.block_lt_of_cell? w3 _ (HRS.out.cell k (q,i) hs j v hv))).trans (HRS.out.cell k (q,i) hs j v hv)
    rw [← hD] at hr
    obtain ⟨r0,hr0⟩:∃ r0,r0=wr.heap.size:=⟨_,rfl⟩
    obtain ⟨w4,hw4⟩:∃ w4,w4=wr.alloc (.cells #[.int .i64 0,.int .i64 0] 133):=⟨_,rfl⟩
    have hO4:w4.heap[r0]?=some (.cells #[.int .i64 0,.int .i64 0] 133 (0,0)):=by rw [hw4,hr0];exact heap_alloc_new _ _
    have hth:w4.there r0 0 2:=there_block hO4
    have h1:=setCells_all hO4 D.toList (by rw [Array.length_toList,hDS];rfl)
    have hb4:Below wr.heap.size wr w4:=by rw [hw4];exact (Below.refl _ _).alloc (Nat.le_refl _) _
    have hb5:Below wr.heap.size wr (w4.setCells r0 0 D.toList):=hb4.grown (setCells_grown _ _ _ _) hb4.size (fun k hk=>by rw [← Option.some.inj hk];omega)
    have HB5:=hid hb5
    have HG5:=hid (show (w4.setCells r0 0 D.toList).heap[r0]?=some (.cells D 133 (0,0)) by simpa using h1)
    have HDS:=hid hDS
    have HTH:=hid hth
    have HR:=hid hr
    have HES:=hid hES
    have HMEM:=hid hmem
    have HHE:=hid hE
    have HS:=hid (show (((sp.take (k+1)).map (spotD T.wd T.L)).flatMap dgE)=((sp.take k).map (spotD T.wd T.L)).flatMap dgE++E.toList by
     rw [List.take_add_one,hs,hE];simp [dgE,dgA])
    have hw4':wr.alloc (.cells #[.int .i64 0,.int .i64 0] 133)=w4:=hw4.symm
    have hr0':wr.heap.size=r0:=hr0.symm
    have h9:decide ((k:Int) < (m:Int))=true:=by simp;omega
    have h8:decide (k < m)=true:=by simp;omega
    have HLT:=hid hlt
    have hk6:k≤1000000:=by have:=HM.out;have:=HN.out;omega
    have HK6:=hid hk6
    clear hk ho hb hlt hs hmem hE hES hr hr0 hw4 hO4 hth h1 hb4 hb5 hD hDS hat
    go_wp2_with (first
     | (refine L_load_arr rfl 133 (.tmp 38) (by rfl) gs (0+k * 2) (by simp only [Nat.zero_add];rfl) D _ HR.out Tryz.underlying133 rfl (by rw [HDS.out];exact info133) ?_)
     | (refine wpList_store_mid rfl 133 (.tmp 9) (.tmp 39) (by rfl) r0 0 D (by rfl) (by rfl) (by rw [HDS.out];exact HTH.out) (by rw [HDS.out];exact info133) HD1.out ?_)
     | (refine wpList_load_row rfl 133 (.tmp 9) (by rfl) r0 (by rfl) 133 D (0,0) _ HG5.out Tryz.underlying133 rfl (by rw [HDS.out];exact info133) ?_)
     | (go_at_call 62;refine (HATK.out _ (HB3.out.trans ((HB.out.trans (HB5.out.mono HB.out.size)).mono HB3.out.size))).mono ?_;rintro e w6 ⟨rfl,hb6⟩;have HB6:=hid (HB5.out.trans (hb6.mono HB5.out.size));clear hb6)
     | (refine L_build1 rfl (.tmp 43) (by rfl) E (by rfl) HES.out ?_;have ho6:=(own_below HO.out HB6.out).alloc (.cells E 38);have hc6:∀ j u,E.toList[j]?=some u→(w6.alloc (.cells E 38)).cell? ((⟨w6.heap.size,0,none⟩:Addr).add j)=some u:=fun j u hu=>cellA E 38 w6 j u hu;have hb6:=HB6.out.alloc HB6.out.size (.cells E 38);have hs6:w3.heap.size≤(w6.alloc (.cells E 38)).heap.size:=Nat.le_trans HB.out.size hb6.size;refine L_appendN rfl (.tmp 40) (.tmp 44) 23 (by rfl) sl23 w3.heap.size _ k _ (by rfl) ho6 ⟨w6.heap.size,0,none⟩ 1 1 E.toList (by rfl) (by rw [Array.length_toList,HES.out]) hc6 HE1.out (by have:=HK6.out;omega) (by have:=HK6.out;simp [maxLen];omega) hs6 (fun a8 c8 w8 ho8 hg8 hat8=>?_);have HO8:=hid ho8;have HB8:=hid ((HB.out.trans (hb6.mono HB.out.size)).grown hg8 (Nat.le_trans HB.out.size hb6.size) (fun k hk=>(ho6.lt k hk).1));clear ho8 hg8 hat8 ho6 hc6 hb6 hs6))
    refine ⟨⟨k+1,HLT.out,by push_cast;rfl,by rw [HS.out];exact HO8.out,HB8.out⟩,?_⟩
    have:=HLT.out
    simp [intOf];omega
  · obtain rfl:k=m:=by omega
    have htk:sp.take k=sp:=List.take_of_length_le (by rw [HM.out];exact Nat.le_refl _)
    rw [htk] at ho
    obtain ⟨g7,c7,rfl,hg7,-⟩:=ho.form (by rw [HM.out];exact HN.out.2.2.2.2)
    have hds:=DS.of_owns ho (by have:=HM.out;have:=HN.out;omega)
    have hbw:=HB3.out.trans (hb.mono HB3.out.size)
    obtain ⟨E,hE⟩:∃ E,E=dgA (rootP T.wd (T.L.take n)).1:=⟨_,rfl⟩
    have hfo:=HFOLD.out wr hbw _ _ _ hds HM.out
    rw [← hE] at hfo
    have HFO:=hid hfo
    have HE:=hid hE
    have HES:=hid (show E.size=32 by rw [hE,dgA_size,(rootP T.wd (T.L.take n)).2])
    have HE1:=hid (show E.all (·.oneCell')=true by rw [hE];exact dgA_all _)
    have c3:=HC3.out wr hbw
    have HBW:=hid hbw
    have HGR:=hid ((hb.block rb (Array.getElem?_eq_some_iff.1 HG3.out).1).trans HG3.out)
    have h9:decide ((k:Int) < (k:Int))=false:=by simp
    have h8:decide (k < k)=false:=by simp
    clear ho hb hbw hds hfo hE hlt hk htk hg7
    go_wp2_with (first
     | (go_at_call 63;refine HFO.out.mono ?_;rintro e w6 ⟨rfl,hb6⟩;have HB6:=hid (HBW.out.trans (hb6.mono HBW.out.size));have HG6:=hid ((hb6.block rb (Array.getElem?_eq_some_iff.1 HGR.out).1).trans HGR.out);have HTH6:=hid (there_block HG6.out);clear hb6)
     | (refine wpList_store_mid rfl 38 (.tmp 4) (.tmp 52) (by rfl) rb 0 E (by rfl) (by rfl) (by rw [HES.out];exact HTH6.out) (by rw [HES.out];exact info38) HE1.out ?_))
    have HGF:=hid (setCells_all HG6.out E.toList (by rw [Array.length_toList,HES.out];rfl))
    have HB9:=hid (HB6.out.grown (setCells_grown rb E.toList 0 w6) HB6.out.size (fun k hk=>by rw [← Option.some.inj hk,HRB.out];exact Nat.le_refl _))
    have HGF9:=hid (show (w6.setCells rb 0 E.toList).heap[rb]?=some (.cells E 38 (0,0)) by have:=HGF.out;simpa using this)
    generalize w6.setCells rb 0 E.toList=w9 at *
    clear HTH6 HGF
    refine bodyPost_ret (v:=.tuple #[.agg E,.nilIface]) (results_row_tmp (p:=4) (u:=5) (ty:=38) rfl _ _ rb 38 E (0,0) _ rfl HGF9.out Tryz.underlying38 rfl (by rw [HES.out];exact info38)) rfl ⟨by rw [HE.out],HB9.out⟩
end
section
open Go.Maps Go.WideMaps Go.ChangeMaps
theorem leftP_two {n:Nat} (h:2≤n) (hn:n≤1000000000000):∃ q,leftP n=2 ^ q∧2 ^ q < n∧n≤2 ^ (q+1):=by
 obtain ⟨h1,h2,h3⟩:=logP_le (n:=n - 1) (by omega) (by omega)
 have hp:2 ^ logP (n - 1) < n:=by omega
 have hq:n≤2 ^ (logP (n - 1)+1):=by omega
 exact ⟨logP (n - 1),leftP_mid hp hq hn,hp,hq⟩
theorem Al.halves {a len:Nat} (h:Al a len) (h2:2≤len) (hn:len≤1000000000000):Al a (leftP len)∧Al (a+leftP len) (len - leftP len):=by
 obtain ⟨q,e,h3,h4⟩:=leftP_two h2 hn
 rw [e]
 refine ⟨fun p hp=>h p (by omega),fun p hp=>?_⟩
 have hpq:p≤q:=by
  rcases Nat.lt_or_ge q p with g | g
  · have:2 ^ (q+1)≤2 ^ p:=Nat.pow_le_pow_right (by decide) g
    rw [Nat.pow_succ] at h4 this
    omega
  · exact g
 exact Nat.dvd_add (h p (by omega)) (Nat.pow_dvd_pow 2 hpq)
def partD (wd:Int) (L:List Dg) (p:Nat × Nat):Dg:=foldP wd ((spL p.1 (p.2 - p.1)).map (spotD wd L))
theorem partD_root (wd:Int) (L:List Dg) {a b:Nat} (h:Al a (b - a)) (hab:a < b) (hb:b≤L.length) (hn:b≤1000000):partD wd L (a,b)=rootP wd ((L.drop a).take (b - a)) :=
 fold_spots wd L (b - a) (b - a) a (Nat.le_refl _) h (by omega) (by omega) (by omega)
theorem root_halves (wd:Int) (L:List Dg) {a b:Nat} (hab:a+2≤b) (hb:b≤L.length) (hn:b≤1000000) :
 rootP wd ((L.drop a).take (b - a))=nodeD wd (rootP wd ((L.drop a).take (leftP (b - a)))) (rootP wd ((L.drop (a+leftP (b - a))).take (b - (a+leftP (b - a))))):=by
 have hl:((L.drop a).take (b - a)).length=b - a:=by rw [List.length_take,List.length_drop];omega
 obtain ⟨q,e,h3,h4⟩:=leftP_two (n:=b - a) (by omega) (by omega)
 rw [rootP_two wd _ (by omega) (by omega),hl]
 congr 2
 · rw [List.take_take,Nat.min_eq_left (by omega)]
 · rw [List.drop_take,List.drop_drop,Nat.sub_sub]
def wayP:Nat→Nat→Nat→Nat→List (Nat × Nat)
 | 0,_,_,_=>[]
 | f+1,a,b,i=>if b - a≤1 then [] else
    if i < a+leftP (b - a) then (a+leftP (b - a),b) :: wayP f a (a+leftP (b - a)) i else (a,a+leftP (b - a)) :: wayP f (a+leftP (b - a)) b i
def climbS (wd:Int) (i:Nat) (leaf:Dg) (x:(Nat × Nat) × Dg):Dg:=if i < x.1.1 then nodeD wd leaf x.2 else nodeD wd x.2 leaf
def climbW (wd:Int) (i:Nat) (l:List ((Nat × Nat) × Dg)) (leaf:Dg):Dg:=l.foldl (climbS wd i) leaf
theorem way_root (wd:Int) (L:List Dg) (i:Nat) (x:Dg) (hx:L[i]?=some x):∀ (f a b:Nat),b - a≤f→Al a (b - a)→a≤i→i < b→b≤L.length→b≤1000000 →
 climbW wd i ((wayP f a b i).map fun p=>(p,partD wd L p)).reverse x=rootP wd ((L.drop a).take (b - a)):=by
 intro f
 induction f with
 | zero=>intro a b h _ h1 h2;omega
 | succ f ih =>
   intro a b hf hal hai hib hb hn
   by_cases h1:b - a≤1
   · obtain rfl:a=i:=by omega
     rw [wayP,if_pos h1,show b - a=1 by omega]
     have:(L.drop a).take 1=[x]:=by
      obtain ⟨hl,he⟩:=List.getElem?_eq_some_iff.1 hx
      rw [List.drop_eq_getElem_cons hl,he]
      rfl
     rw [this]
     rfl
   · obtain ⟨q,e,h3,h4⟩:=leftP_two (n:=b - a) (by omega) (by omega)
     obtain ⟨al1,al2⟩:=hal.halves (by omega) (by omega)
     have hq0:0 < 2 ^ q:=Nat.pow_pos (by decide)
     rw [wayP,if_neg h1,root_halves wd L (by omega) hb hn]
     rw [e] at al1 al2 ⊢
     have e2:b - a - 2 ^ q=b - (a+2 ^ q):=by omega
     have e3:a+2 ^ q - a=2 ^ q:=by omega
     rw [e2] at al2
     by_cases hk:i < a+2 ^ q
     · rw [if_pos hk,List.map_cons,List.reverse_cons,climbW,List.foldl_append]
       have:=ih a (a+2 ^ q) (by omega) (by rw [e3];exact al1) hai hk (by omega) (by omega)
       rw [climbW,e3] at this
       rw [this]
       show climbS wd i _ ((a+2 ^ q,b),_)=_
       unfold climbS
       rw [if_pos (show i < a+2 ^ q from hk),partD_root wd L al2 (by omega) hb hn]
     · rw [if_neg hk,List.map_cons,List.reverse_cons,climbW,List.foldl_append]
       have:=ih (a+2 ^ q) b (by omega) al2 (by omega) hib hb hn
       rw [climbW] at this
       rw [this]
       show climbS wd i _ ((a,a+2 ^ q),_)=_
       unfold climbS
       rw [if_neg (show ¬ i < a by omega),partD_root wd L (by rw [e3];exact al1) (by omega) (by omega) (by omega),e3]
end
section
open Go.Maps Go.WideMaps Go.ChangeMaps
def jointP:Nat→Nat→Nat→Nat→Bool→List (Nat × Nat)
 | 0,_,_,_,_=>[]
 | f+1,a,b,old,whole=>if old=b then (if whole then [] else [(a,b)]) else
    if old≤a+leftP (b - a) then jointP f a (a+leftP (b - a)) old whole++[(a+leftP (b - a),b)] else jointP f (a+leftP (b - a)) b old false++[(a,a+leftP (b - a))]
def aheadS (wd:Int) (old:Nat) (s:Dg × Dg) (x:(Nat × Nat) × Dg):Dg × Dg:=if old≤x.1.1 then (s.1,nodeD wd s.2 x.2) else (nodeD wd x.2 s.1,nodeD wd x.2 s.2)
def aheadW (wd:Int) (old:Nat) (l:List ((Nat × Nat) × Dg)) (s:Dg × Dg):Dg × Dg:=l.foldl (aheadS wd old) s
def rng (L:List Dg) (a b:Nat):List Dg:=(L.drop a).take (b - a)
def lowP (f a b old:Nat) (whole:Bool):Bool :=
 match f with
 | 0=>whole
 | f+1=>if old=b then whole else if old≤a+leftP (b - a) then lowP f a (a+leftP (b - a)) old whole else lowP f (a+leftP (b - a)) b old false
theorem joint_root (wd:Int) (L:List Dg) (old:Nat):∀ (f a b:Nat) (whole:Bool),b - a≤f→Al a (b - a)→a < old→old≤b→b≤L.length→b≤1000000 →
 (lowP f a b old whole=true→whole=true∧aheadW wd old ((jointP f a b old whole).map fun p=>(p,partD wd L p)) (rootP wd (rng L a old),rootP wd (rng L a old))=(rootP wd (rng L a old),rootP wd (rng L a b))) ∧
 (lowP f a b old whole=false→∃ p r,jointP f a b old whole=p :: r∧aheadW wd old (r.map fun p=>(p,partD wd L p)) (partD wd L p,partD wd L p)=(rootP wd (rng L a old),rootP wd (rng L a b))):=by
 intro f
 induction f with
 | zero=>intro a b whole h _ h1 h2;omega
 | succ f ih =>
   intro a b whole hf hal hao hob hb hn
   by_cases he:old=b
   · subst he
     rw [lowP,if_pos rfl,jointP,if_pos rfl]
     refine ⟨fun h=>⟨h,?_⟩,fun h=>?_⟩
     · rw [if_pos h];rfl
     · rw [h]
       refine ⟨(a,old),[],rfl,?_⟩
       rw [partD_root wd L hal hao hb hn]
       rfl
   · obtain ⟨q,e,h3,h4⟩:=leftP_two (n:=b - a) (by omega) (by omega)
     obtain ⟨al1,al2⟩:=hal.halves (by omega) (by omega)
     have hq0:0 < 2 ^ q:=Nat.pow_pos (by decide)
     have hR:rootP wd (rng L a b)=nodeD wd (rootP wd (rng L a (a+2 ^ q))) (rootP wd (rng L (a+2 ^ q) b)):=by
      have:=root_halves wd L (a:=a) (b:=b) (by omega) hb hn
      rw [e] at this
      unfold rng
      rw [this,show a+2 ^ q - a=2 ^ q by omega]
     rw [lowP,if_neg he,jointP,if_neg he]
     rw [e] at al1 al2 ⊢
     have e2:b - a - 2 ^ q=b - (a+2 ^ q):=by omega
     have e3:a+2 ^ q - a=2 ^ q:=by omega
     rw [e2] at al2
     by_cases hk:old≤a+2 ^ q
     · rw [if_pos hk,if_pos hk]
       obtain ⟨i1,i2⟩:=ih a (a+2 ^ q) whole (by omega) (by rw [e3];exact al1) hao hk (by omega) (by omega)
       have hst:∀ s:Dg × Dg,aheadS wd old s ((a+2 ^ q,b),partD wd L (a+2 ^ q,b))=(s.1,nodeD wd s.2 (rootP wd (rng L (a+2 ^ q) b))):=fun s=>by
        unfold aheadS
        rw [if_pos (show old≤a+2 ^ q from hk),partD_root wd L al2 (by omega) hb hn]
        rfl
       refine ⟨fun h=>?_,fun h=>?_⟩
       · obtain ⟨j1,j2⟩:=i1 h
         refine ⟨j1,?_⟩
         rw [List.map_append,aheadW,List.foldl_append]
         rw [aheadW] at j2
         rw [j2]
         show aheadS wd old _ ((a+2 ^ q,b),_)=_
         rw [hst,hR]
       · obtain ⟨p,r,j1,j2⟩:=i2 h
         refine ⟨p,r++[(a+2 ^ q,b)],by rw [j1];rfl,?_⟩
         rw [List.map_append,aheadW,List.foldl_append]
         rw [aheadW] at j2
         rw [j2]
         show aheadS wd old _ ((a+2 ^ q,b),_)=_
         rw [hst,hR]
     · rw [if_neg hk,if_neg hk]
       obtain ⟨i1,i2⟩:=ih (a+2 ^ q) b false (by omega) al2 (by omega) hob hb hn
       refine ⟨fun h=>?_,fun h=>?_⟩
       · exact absurd (i1 h).1 (by decide)
       · obtain ⟨p,r,j1,j2⟩:=i2 h
         refine ⟨p,r++[(a,a+2 ^ q)],by rw [j1];rfl,?_⟩
         rw [List.map_append,aheadW,List.foldl_append]
         rw [aheadW] at j2
         rw [j2]
         show aheadS wd old _ ((a,a+2 ^ q),_)=_
         unfold aheadS
         rw [if_neg (show ¬ old≤a by omega),partD_root wd L (by rw [e3];exact al1) (by omega) (by omega) (by omega),hR]
         have hO:=root_halves wd L (a:=a) (b:=old) (by omega) (by omega) (by omega)
         have hlo:leftP (old - a)=2 ^ q:=leftP_mid (by omega) (by omega) (by omega)
         rw [hlo] at hO
         unfold rng
         rw [hO,e3]
theorem low_pow (old:Nat):∀ (f b:Nat),b≤f→0 < old→old≤b→b≤1000000→(old=b→∃ q,b=2 ^ q)→(lowP f 0 b old true=true ↔ ∃ q,old=2 ^ q):=by
 intro f
 induction f with
 | zero=>intro b h h1 h2;omega
 | succ f ih =>
   intro b hf h0 hob hn hbp
   by_cases he:old=b
   · rw [lowP,if_pos he]
     exact ⟨fun _=>he ▸ hbp he,fun _=>rfl⟩
   · obtain ⟨q,e,h3,h4⟩:=leftP_two (n:=b - 0) (by omega) (by omega)
     rw [lowP,if_neg he,e,Nat.zero_add]
     by_cases hk:old≤2 ^ q
     · rw [if_pos hk]
       exact ih (2 ^ q) (by omega) h0 hk (by omega) (fun _=>⟨q,rfl⟩)
     · rw [if_neg hk]
       have hfalse:∀ (f a b:Nat),lowP f a b old false=false:=by
        intro f
        induction f with
        | zero=>intro a b;rfl
        | succ f ih2 =>
          intro a b
          rw [lowP]
          split
          · rfl
          · split
            · exact ih2 _ _
            · exact ih2 _ _
       rw [hfalse]
       refine ⟨fun h=>(by cases h),fun ⟨p,hp⟩=>?_⟩
       exfalso
       have h5:q < p:=by
        rcases Nat.lt_or_ge q p with g | g
        · exact g
        · have:2 ^ p≤2 ^ q:=Nat.pow_le_pow_right (by decide) g
          omega
       have:2 ^ (q+1)≤2 ^ p:=Nat.pow_le_pow_right (by decide) h5
       omega
theorem pow_and (q:Nat):2 ^ q &&& (2 ^ q - 1)=0:=by
 rw [Nat.and_two_pow_sub_one_eq_mod,Nat.mod_self]
theorem and_pow {n:Nat} (h0:0 < n) (hn:n≤1000000000000) (h:n &&& (n - 1)=0):∃ q,n=2 ^ q:=by
 obtain ⟨h1,h2,-⟩:=logP_le h0 hn
 refine ⟨logP n,?_⟩
 rcases Nat.lt_or_ge (2 ^ logP n) n with g | g
 · exfalso
   have a1:n.testBit (logP n)=true:=by
    rw [Nat.testBit_eq_decide_div_mod_eq]
    have:n / 2 ^ logP n=1:=by rw [Nat.pow_succ] at h2;exact Nat.div_eq_of_lt_le (by omega) (by omega)
    rw [this];rfl
   have a2:(n - 1).testBit (logP n)=true:=by
    rw [Nat.testBit_eq_decide_div_mod_eq]
    have:(n - 1) / 2 ^ logP n=1:=by rw [Nat.pow_succ] at h2;exact Nat.div_eq_of_lt_le (by omega) (by omega)
    rw [this];rfl
   have:=Nat.testBit_and n (n - 1) (logP n)
   rw [h,a1,a2,Nat.zero_testBit] at this
   cases this
 · omega
end
section
open Go.Maps Go.WideMaps Go.ChangeMaps
theorem sizes_any (w:World) (old size:Nat) (h:old≤size) (hs:size≤1099511627776):Calls Tryz.prog 145 #[.int .i64 (old:Int),.int .i64 (size:Int)] w fun e w'=>e=.returned (.bool true)∧w'=w:=by
 have d1:decide ((0:Int)≤(old:Int))=true:=by simp
 have d2:decide ((old:Int)≤(size:Int))=true:=by simp;omega
 have d3:decide ((size:Int)≤1099511627776)=true:=by simp;omega
 have d4:decide (old≤size)=true:=by simp;omega
 clear h hs
 go_enter Tryz.func145,Tryz.ntmps145
 go_wp2_with fail
 go_ret
 exact ⟨rfl,rfl⟩
theorem inside_any (w:World) (size i:Nat) (h:i < size) (hs:size≤1099511627776):Calls Tryz.prog 149 #[.int .i64 (size:Int),.int .i64 (i:Int)] w fun e w'=>e=.returned (.bool true)∧w'=w:=by
 have d1:decide ((1:Int)≤(size:Int))=true:=by simp;omega
 have d2:decide ((0:Int)≤(i:Int))=true:=by simp
 have d3:decide ((size:Int)≤1099511627776)=true:=by simp;omega
 have d4:decide ((i:Int) < (size:Int))=true:=by simp;omega
 have d5:decide (i < size)=true:=by simp;omega
 clear h hs
 go_enter Tryz.func149,Tryz.ntmps149
 go_wp2_with fail
 go_ret
 exact ⟨rfl,rfl⟩
theorem sl227:Sl Tryz.prog 227 300 (.agg #[.int .i64 0,.int .i64 0]) 2 16:=⟨Tryz.underlying227,by kernel_rfl,rfl,by decide⟩
theorem info300:(Tryz.prog.info? 300).map (·.size)=some 2:=by kernel_rfl
def PO (w:World) (B:Nat) (v:Value) (l:List (Nat × Nat)):Prop:=w.ownsRow B 300 2 v l.length (l.flatMap spE)
end
end Go.Proofs.YtgkehahklccacaaGreatDoor
