import Derived.Test.YtgkehahklccacaaGreatDoorC32
namespace Go.Proofs.YtgkehahklccacaaGreatDoor
open Go Go.RowKit
open Go.Lib (hid)
set_option maxRecDepth 100000
set_option maxHeartbeats 1000000
set_option linter.unusedVariables false
set_option linter.unusedSimpArgs false
section
open Go.Maps Go.WideMaps Go.ChangeMaps
set_option maxHeartbeats 8000000
theorem asked62 (w:World) (wd:Int) (L:List Dg) (gt:Nat) (hwd:1≤wd∧wd≤32) (l:List (Nat × Nat)) (av:Option Addr) (n c B:Nat) (hrs:RS 2 spE w av n c l) (hl:∀ p ∈ l,p.1 < p.2∧Al p.1 (p.2 - p.1)∧p.2≤B) (hB:B≤60000) (hn:n≤1000000) (h4:4≤w.heap.size) (ht:RoundTab w) (htz:TabAt 1 Lib.deBruijn64tab w)
 (hat:∀ (wx:World) (q i:Nat),Below w.heap.size w wx→q < 16→(i+1) * 2 ^ q≤B→Calls Tryz.prog 62 #[.pointer (some ⟨gt,0,none⟩),.agg #[.int .i64 (q:Int),.int .i64 (i:Int)]] wx fun e w'=>e=.returned (.agg (dgA (spotD wd L (q,i)).1))∧Below wx.heap.size wx w') :
 Calls Tryz.prog 146 #[.int .i64 wd,.slice av n c,.func (.func 62) #[.pointer (some ⟨gt,0,none⟩)] #[]] w fun e w'=>∃ v,e=.returned v∧w'.ownsRow w.heap.size 38 32 v n ((l.map (partD wd L)).flatMap dgE)∧Below w.heap.size w w':=by
 obtain ⟨b3,hb3⟩:∃ b3,b3=w.heap.size:=⟨_,rfl⟩
 obtain ⟨w0,hw0⟩:∃ w0,w0=w.alloc (.cells #[.int .i64 wd] 3):=⟨_,rfl⟩
 have hb0:Below w.heap.size w w0:=by rw [hw0];exact (Below.refl _ _).alloc (Nat.le_refl _) _
 have hz0:w0.heap.size=b3+1:=by rw [hw0,World.size_alloc];omega
 have hg0:w0.heap[b3]?=some (.cells #[.int .i64 wd] 3 (0,0)):=by rw [hw0,hb3];exact heap_alloc_new _ _
 obtain ⟨b5,hb5⟩:∃ b5,b5=b3+1:=⟨_,rfl⟩
 obtain ⟨w1,hw1⟩:∃ w1,w1=w0.alloc (.cells #[.func (.func 62) #[.pointer (some ⟨gt,0,none⟩)] #[]] 134):=⟨_,rfl⟩
 have hb1:Below w.heap.size w w1:=by rw [hw1];exact hb0.alloc hb0.size _
 have hz1:w1.heap.size=b5+1:=by rw [hw1,World.size_alloc];omega
 have hg5:w1.heap[b5]?=some (.cells #[.func (.func 62) #[.pointer (some ⟨gt,0,none⟩)] #[]] 134 (0,0)):=by rw [hw1,hb5,← hz0];exact heap_alloc_new _ _
 have hg3:w1.heap[b3]?=some (.cells #[.int .i64 wd] 3 (0,0)):=by rw [hw1];exact (alOld w0 _ b3 (by omega)).trans hg0
 have HDG:=hid (fun (wx:World) (hb:Below w1.heap.size w1 wx) (p:Nat × Nat) (hp:p ∈ l)=>digof62 wx b5 b3 wd L gt hwd ((hb.block b5 (by omega)).trans hg5) ((hb.block b3 (by omega)).trans hg3) p.1 p.2 (hl p hp).1 (hl p hp).2.1 (by have:=(hl p hp).2.2;omega) (by have:=hb.size;omega)
  (rt_below ht (hb1.trans (hb.mono hb1.size)) (by omega)) (tab_below htz (hb1.trans (hb.mono hb1.size)) (by omega)) (fun wy q i hby hq hi=>hat wy q i ((hb1.trans (hb.mono hb1.size)).trans (hby.mono (Nat.le_trans hb1.size hb.size))) hq (by have:=(hl p hp).2.2;omega)))
 have HB1:=hid hb1;have HRS:=hid (hrs.below hb1);have HN:=hid hn;have HLN:=hid hrs.1
 have hw0':w.alloc (.cells #[.int .i64 wd] 3)=w0:=hw0.symm
 have hw1':w0.alloc (.cells #[.func (.func 62) #[.pointer (some ⟨gt,0,none⟩)] #[]] 134)=w1:=hw1.symm
 have hb3':w.heap.size=b3:=hb3.symm
 have hz0':w0.heap.size=b5:=by omega
 clear hb3 hw0 hb0 hz0 hg0 hb5 hw1 hb1 hz1 hg5 hg3 hrs hl hB hn h4 ht htz hat hwd
 go_enter Tryz.func146,Tryz.ntmps146
 go_wp2_with fail
 have HW:=hid hb3'
 clear hw0' hw1' hb3' hz0'
 go_loopw [8,14] (fun v u wr=>∃ k:Nat,k≤n∧u=.int .i64 (k:Int)∧wr.ownsRow w1.heap.size 38 32 v k (((l.take k).map (partD wd L)).flatMap dgE)∧Below w1.heap.size w1 wr) (fun _ u _=>n - (intOf u).toNat)
 case atStart=>exact ⟨0,Nat.zero_le _,rfl,World.ownsRow_nil _ _ _ _,Below.refl _ _⟩
 case round =>
  obtain ⟨k,hk,rfl,ho,hb⟩:=hrel
  have HO:=hid ho;have HB:=hid hb;have HK:=hid hk
  by_cases hlt:k < n
  · obtain ⟨p,hp⟩:∃ p,l[k]?=some p:=⟨_,List.getElem?_eq_getElem (by have:=HLN.out;omega)⟩
    obtain ⟨a,b⟩:=p
    have hmem:(a,b) ∈ l:=List.mem_of_getElem? hp
    obtain ⟨gs,off,rfl,hcs⟩:=HRS.out.2.2.2 k (a,b) hp
    obtain ⟨E,hE⟩:∃ E,E=dgA (partD wd L (a,b)).1:=⟨_,rfl⟩
    have hES:E.size=32:=by rw [hE,dgA_size,(partD wd L (a,b)).2]
    have HE1:=hid (show ∀ u ∈ E.toList,u.oneCell'=true from fun u hu=>by
     rw [hE] at hu
     exact Array.all_eq_true'.1 (dgA_all _) u (Array.mem_toList_iff.1 hu))
    obtain ⟨D,hD⟩:∃ D:Array Value,D=#[.int .i64 (a:Int),.int .i64 (b:Int)]:=⟨_,rfl⟩
    have hDS:D.size=2:=by rw [hD];rfl
    have HD1:=hid (show D.all (·.oneCell')=true by rw [hD];exact all_oneCell_toArray (cs:=[.int .i64 (a:Int),.int .i64 (b:Int)]) (by intro v hv;simp only [List.mem_cons,List.not_mem_nil,or_false] at hv;rcases hv with rfl | rfl <;> rfl))
    have hdg:=fun (wx:World) (hb:Below w1.heap.size w1 wx)=>HDG.out wx hb (a,b) hmem
    rw [← hD,← hE] at hdg
    have HATK:=hid hdg
    have hr:wr.rangeAt gs (off+k * 2) #[.int .i64 (a:Int),.int .i64 (b:Int)].toList:=fun j v hv=>(hb.cell (World.block_lt_of_cell? w1 _ (hcs j v hv))).trans (hcs j v hv)
    rw [← hD] at hr
    obtain ⟨r0,hr0⟩:∃ r0,r0=wr.heap.size:=⟨_,rfl⟩
    obtain ⟨w4,hw4⟩:∃ w4,w4=wr.alloc (.cells #[.int .i64 0,.int .i64 0] 300):=⟨_,rfl⟩
    have hO4:w4.heap[r0]?=some (.cells #[.int .i64 0,.int .i64 0] 300 (0,0)):=by rw [hw4,hr0];exact heap_alloc_new _ _
    have hth:w4.there r0 0 2:=there_block hO4
    have h1:=setCells_all hO4 D.toList (by rw [Array.length_toList,hDS];rfl)
    have hb4:Below wr.heap.size wr w4:=by rw [hw4];exact (Below.refl _ _).alloc (Nat.le_refl _) _
    have hb5:Below wr.heap.size wr (w4.setCells r0 0 D.toList):=hb4.grown (setCells_grown _ _ _ _) hb4.size (fun k hk=>by rw [← Option.some.inj hk];omega)
    have HB5:=hid hb5
    have HG5:=hid (show (w4.setCells r0 0 D.toList).heap[r0]?=some (.cells D 300 (0,0)) by simpa using h1)
    have HDS:=hid hDS
    have HTH:=hid hth
    have HR:=hid hr
    have HES:=hid hES
    have HS:=hid (show (((l.take (k+1)).map (partD wd L)).flatMap dgE)=((l.take k).map (partD wd L)).flatMap dgE++E.toList by
     rw [List.take_add_one,hp,hE];simp [dgE,dgA])
    have hw4':wr.alloc (.cells #[.int .i64 0,.int .i64 0] 300)=w4:=hw4.symm
    have hr0':wr.heap.size=r0:=hr0.symm
    have h9:decide ((k:Int) < (n:Int))=true:=by simp;omega
    have h8:decide (k < n)=true:=by simp;omega
    have HLT:=hid hlt
    have hk6:k≤1000000:=by have:=HN.out;omega
    have HK6:=hid hk6
    clear hk ho hb hlt hp hmem hE hES hr hr0 hw4 hO4 hth h1 hb4 hb5 hD hDS hdg hcs
    go_wp2_with (first
     | (refine L_load_arr rfl 300 (.tmp 16) (by rfl) gs (off+k * 2) (by rfl) D _ HR.out Tryz.underlying300 rfl (by rw [HDS.out];exact info300) ?_)
     | (refine wpList_store_mid rfl 300 (.tmp 10) (.tmp 17) (by rfl) r0 0 D (by rfl) (by rfl) (by rw [HDS.out];exact HTH.out) (by rw [HDS.out];exact info300) HD1.out ?_)
     | (refine wpList_load_row rfl 300 (.tmp 10) (by rfl) r0 (by rfl) 300 D (0,0) _ HG5.out Tryz.underlying300 rfl (by rw [HDS.out];exact info300) ?_)
     | (go_at_call 203;refine (HATK.out _ (HB.out.trans (HB5.out.mono HB.out.size))).mono ?_;rintro e w6 ⟨rfl,hb6⟩;have HB6:=hid (HB5.out.trans (hb6.mono HB5.out.size));clear hb6)
     | (refine L_build1 rfl (.tmp 21) (by rfl) E (by rfl) HES.out ?_;have ho6:=(own_below HO.out HB6.out).alloc (.cells E 38);have hc6:∀ j u,E.toList[j]?=some u→(w6.alloc (.cells E 38)).cell? ((⟨w6.heap.size,0,none⟩:Addr).add j)=some u:=fun j u hu=>cellA E 38 w6 j u hu;have hb6:=HB6.out.alloc HB6.out.size (.cells E 38);have hs6:w1.heap.size≤(w6.alloc (.cells E 38)).heap.size:=Nat.le_trans HB.out.size hb6.size;refine L_appendN rfl (.tmp 18) (.tmp 22) 23 (by rfl) sl23 w1.heap.size _ k _ (by rfl) ho6 ⟨w6.heap.size,0,none⟩ 1 1 E.toList (by rfl) (by rw [Array.length_toList,HES.out]) hc6 HE1.out (by have:=HK6.out;omega) (by have:=HK6.out;simp [maxLen];omega) hs6 (fun a8 c8 w8 ho8 hg8 hat8=>?_);have HO8:=hid ho8;have HB8:=hid ((HB.out.trans (hb6.mono HB.out.size)).grown hg8 (Nat.le_trans HB.out.size hb6.size) (fun k hk=>(ho6.lt k hk).1));clear ho8 hg8 hat8 ho6 hc6 hb6 hs6))
    refine ⟨⟨k+1,HLT.out,by push_cast;rfl,by rw [HS.out];exact HO8.out,HB8.out⟩,?_⟩
    have:=HLT.out
    simp [intOf];omega
  · obtain rfl:k=n:=by omega
    have htk:l.take k=l:=List.take_of_length_le (by rw [HLN.out];exact Nat.le_refl _)
    rw [htk] at ho
    have HOZ:=hid ho
    have h9:decide ((k:Int) < (k:Int))=false:=by simp
    have h8:decide (k < k)=false:=by simp
    clear ho hb hlt hk htk
    go_wp2_with fail
    go_ret
    refine ⟨_,rfl,⟨HOZ.out.1,HOZ.out.2.imp id fun ⟨g,cap,cur,hv,hg,r⟩=>⟨g,cap,cur,hv,Nat.le_trans HB1.out.size hg,r⟩⟩,HB1.out.trans (HB.out.mono HB1.out.size)⟩
theorem asked76 (w:World) (wd:Int) (L:List Dg) (x0 x1:Value) (hwd:1≤wd∧wd≤32) (l:List (Nat × Nat)) (av:Option Addr) (n c B:Nat) (hrs:RS 2 spE w av n c l) (hl:∀ p ∈ l,p.1 < p.2∧Al p.1 (p.2 - p.1)∧p.2≤B) (hB:B≤60000) (hn:n≤1000000) (h4:4≤w.heap.size) (ht:RoundTab w) (htz:TabAt 1 Lib.deBruijn64tab w)
 (hat:∀ (wx:World) (q i:Nat),Below w.heap.size w wx→q < 16→(i+1) * 2 ^ q≤B→Calls Tryz.prog 76 #[.agg #[.int .i64 (q:Int),.int .i64 (i:Int)],x0,x1] wx fun e w'=>e=.returned (.agg (dgA (spotD wd L (q,i)).1))∧Below wx.heap.size wx w') :
 Calls Tryz.prog 146 #[.int .i64 wd,.slice av n c,.func (.func 76) #[] #[x0,x1]] w fun e w'=>∃ v,e=.returned v∧w'.ownsRow w.heap.size 38 32 v n ((l.map (partD wd L)).flatMap dgE)∧Below w.heap.size w w':=by
 obtain ⟨b3,hb3⟩:∃ b3,b3=w.heap.size:=⟨_,rfl⟩
 obtain ⟨w0,hw0⟩:∃ w0,w0=w.alloc (.cells #[.int .i64 wd] 3):=⟨_,rfl⟩
 have hb0:Below w.heap.size w w0:=by rw [hw0];exact (Below.refl _ _).alloc (Nat.le_refl _) _
 have hz0:w0.heap.size=b3+1:=by rw [hw0,World.size_alloc];omega
 have hg0:w0.heap[b3]?=some (.cells #[.int .i64 wd] 3 (0,0)):=by rw [hw0,hb3];exact heap_alloc_new _ _
 obtain ⟨b5,hb5⟩:∃ b5,b5=b3+1:=⟨_,rfl⟩
 obtain ⟨w1,hw1⟩:∃ w1,w1=w0.alloc (.cells #[.func (.func 76) #[] #[x0,x1]] 134):=⟨_,rfl⟩
 have hb1:Below w.heap.size w w1:=by rw [hw1];exact hb0.alloc hb0.size _
 have hz1:w1.heap.size=b5+1:=by rw [hw1,World.size_alloc];omega
 have hg5:w1.heap[b5]?=some (.cells #[.func (.func 76) #[] #[x0,x1]] 134 (0,0)):=by rw [hw1,hb5,← hz0];exact heap_alloc_new _ _
 have hg3:w1.heap[b3]?=some (.cells #[.int .i64 wd] 3 (0,0)):=by rw [hw1];exact (alOld w0 _ b3 (by omega)).trans hg0
 have HDG:=hid (fun (wx:World) (hb:Below w1.heap.size w1 wx) (p:Nat × Nat) (hp:p ∈ l)=>digof76 wx b5 b3 wd L x0 x1 hwd ((hb.block b5 (by omega)).trans hg5) ((hb.block b3 (by omega)).trans hg3) p.1 p.2 (hl p hp).1 (hl p hp).2.1 (by have:=(hl p hp).2.2;omega) (by have:=hb.size;omega)
  (rt_below ht (hb1.trans (hb.mono hb1.size)) (by omega)) (tab_below htz (hb1.trans (hb.mono hb1.size)) (by omega)) (fun wy q i hby hq hi=>hat wy q i ((hb1.trans (hb.mono hb1.size)).trans (hby.mono (Nat.le_trans hb1.size hb.size))) hq (by have:=(hl p hp).2.2;omega)))
 have HB1:=hid hb1;have HRS:=hid (hrs.below hb1);have HN:=hid hn;have HLN:=hid hrs.1
 have hw0':w.alloc (.cells #[.int .i64 wd] 3)=w0:=hw0.symm
 have hw1':w0.alloc (.cells #[.func (.func 76) #[] #[x0,x1]] 134)=w1:=hw1.symm
 have hb3':w.heap.size=b3:=hb3.symm
 have hz0':w0.heap.size=b5:=by omega
 clear hb3 hw0 hb0 hz0 hg0 hb5 hw1 hb1 hz1 hg5 hg3 hrs hl hB hn h4 ht htz hat hwd
 go_enter Tryz.func146,Tryz.ntmps146
 go_wp2_with fail
 have HW:=hid hb3'
 clear hw0' hw1' hb3' hz0'
 go_loopw [8,14] (fun v u wr=>∃ k:Nat,k≤n∧u=.int .i64 (k:Int)∧wr.ownsRow w1.heap.size 38 32 v k (((l.take k).map (partD wd L)).flatMap dgE)∧Below w1.heap.size w1 wr) (fun _ u _=>n - (intOf u).toNat)
 case atStart=>exact ⟨0,Nat.zero_le _,rfl,World.ownsRow_nil _ _ _ _,Below.refl _ _⟩
 case round =>
  obtain ⟨k,hk,rfl,ho,hb⟩:=hrel
  have HO:=hid ho;have HB:=hid hb;have HK:=hid hk
  by_cases hlt:k < n
  · obtain ⟨p,hp⟩:∃ p,l[k]?=some p:=⟨_,List.getElem?_eq_getElem (by have:=HLN.out;omega)⟩
    obtain ⟨a,b⟩:=p
    have hmem:(a,b) ∈ l:=List.mem_of_getElem? hp
    obtain ⟨gs,off,rfl,hcs⟩:=HRS.out.2.2.2 k (a,b) hp
    obtain ⟨E,hE⟩:∃ E,E=dgA (partD wd L (a,b)).1:=⟨_,rfl⟩
    have hES:E.size=32:=by rw [hE,dgA_size,(partD wd L (a,b)).2]
    have HE1:=hid (show ∀ u ∈ E.toList,u.oneCell'=true from fun u hu=>by
     rw [hE] at hu
     exact Array.all_eq_true'.1 (dgA_all _) u (Array.mem_toList_iff.1 hu))
    obtain ⟨D,hD⟩:∃ D:Array Value,D=#[.int .i64 (a:Int),.int .i64 (b:Int)]:=⟨_,rfl⟩
    have hDS:D.size=2:=by rw [hD];rfl
    have HD1:=hid (show D.all (·.oneCell')=true by rw [hD];exact all_oneCell_toArray (cs:=[.int .i64 (a:Int),.int .i64 (b:Int)]) (by intro v hv;simp only [List.mem_cons,List.not_mem_nil,or_false] at hv;rcases hv with rfl | rfl <;> rfl))
    have hdg:=fun (wx:World) (hb:Below w1.heap.size w1 wx)=>HDG.out wx hb (a,b) hmem
    rw [← hD,← hE] at hdg
    have HATK:=hid hdg
    have hr:wr.rangeAt gs (off+k * 2) #[.int .i64 (a:Int),.int .i64 (b:Int)].toList:=fun j v hv=>(hb.cell (World.block_lt_of_cell? w1 _ (hcs j v hv))).trans (hcs j v hv)
    rw [← hD] at hr
    obtain ⟨r0,hr0⟩:∃ r0,r0=wr.heap.size:=⟨_,rfl⟩
    obtain ⟨w4,hw4⟩:∃ w4,w4=wr.alloc (.cells #[.int .i64 0,.int .i64 0] 300):=⟨_,rfl⟩
    have hO4:w4.heap[r0]?=some (.cells #[.int .i64 0,.int .i64 0] 300 (0,0)):=by rw [hw4,hr0];exact heap_alloc_new _ _
    have hth:w4.there r0 0 2:=there_block hO4
    have h1:=setCells_all hO4 D.toList (by rw [Array.length_toList,hDS];rfl)
    have hb4:Below wr.heap.size wr w4:=by rw [hw4];exact (Below.refl _ _).alloc (Nat.le_refl _) _
    have hb5:Below wr.heap.size wr (w4.setCells r0 0 D.toList):=hb4.grown (setCells_grown _ _ _ _) hb4.size (fun k hk=>by rw [← Option.some.inj hk];omega)
    have HB5:=hid hb5
    have HG5:=hid (show (w4.setCells r0 0 D.toList).heap[r0]?=some (.cells D 300 (0,0)) by simpa using h1)
    have HDS:=hid hDS
    have HTH:=hid hth
    have HR:=hid hr
    have HES:=hid hES
    have HS:=hid (show (((l.take (k+1)).map (partD wd L)).flatMap dgE)=((l.take k).map (partD wd L)).flatMap dgE++E.toList by
     rw [List.take_add_one,hp,hE];simp [dgE,dgA])
    have hw4':wr.alloc (.cells #[.int .i64 0,.int .i64 0] 300)=w4:=hw4.symm
    have hr0':wr.heap.size=r0:=hr0.symm
    have h9:decide ((k:Int) < (n:Int))=true:=by simp;omega
    have h8:decide (k < n)=true:=by simp;omega
    have HLT:=hid hlt
    have hk6:k≤1000000:=by have:=HN.out;omega
    have HK6:=hid hk6
    clear hk ho hb hlt hp hmem hE hES hr hr0 hw4 hO4 hth h1 hb4 hb5 hD hDS hdg hcs
    go_wp2_with (first
     | (refine L_load_arr rfl 300 (.tmp 16) (by rfl) gs (off+k * 2) (by rfl) D _ HR.out Tryz.underlying300 rfl (by rw [HDS.out];exact info300) ?_)
     | (refine wpList_store_mid rfl 300 (.tmp 10) (.tmp 17) (by rfl) r0 0 D (by rfl) (by rfl) (by rw [HDS.out];exact HTH.out) (by rw [HDS.out];exact info300) HD1.out ?_)
     | (refine wpList_load_row rfl 300 (.tmp 10) (by rfl) r0 (by rfl) 300 D (0,0) _ HG5.out Tryz.underlying300 rfl (by rw [HDS.out];exact info300) ?_)
     | (go_at_call 203;refine (HATK.out _ (HB.out.trans (HB5.out.mono HB.out.size))).mono ?_;rintro e w6 ⟨rfl,hb6⟩;have HB6:=hid (HB5.out.trans (hb6.mono HB5.out.size));clear hb6)
     | (refine L_build1 rfl (.tmp 21) (by rfl) E (by rfl) HES.out ?_;have ho6:=(own_below HO.out HB6.out).alloc (.cells E 38);have hc6:∀ j u,E.toList[j]?=some u→(w6.alloc (.cells E 38)).cell? ((⟨w6.heap.size,0,none⟩:Addr).add j)=some u:=fun j u hu=>cellA E 38 w6 j u hu;have hb6:=HB6.out.alloc HB6.out.size (.cells E 38);have hs6:w1.heap.size≤(w6.alloc (.cells E 38)).heap.size:=Nat.le_trans HB.out.size hb6.size;refine L_appendN rfl (.tmp 18) (.tmp 22) 23 (by rfl) sl23 w1.heap.size _ k _ (by rfl) ho6 ⟨w6.heap.size,0,none⟩ 1 1 E.toList (by rfl) (by rw [Array.length_toList,HES.out]) hc6 HE1.out (by have:=HK6.out;omega) (by have:=HK6.out;simp [maxLen];omega) hs6 (fun a8 c8 w8 ho8 hg8 hat8=>?_);have HO8:=hid ho8;have HB8:=hid ((HB.out.trans (hb6.mono HB.out.size)).grown hg8 (Nat.le_trans HB.out.size hb6.size) (fun k hk=>(ho6.lt k hk).1));clear ho8 hg8 hat8 ho6 hc6 hb6 hs6))
    refine ⟨⟨k+1,HLT.out,by push_cast;rfl,by rw [HS.out];exact HO8.out,HB8.out⟩,?_⟩
    have:=HLT.out
    simp [intOf];omega
  · obtain rfl:k=n:=by omega
    have htk:l.take k=l:=List.take_of_length_le (by rw [HLN.out];exact Nat.le_refl _)
    rw [htk] at ho
    have HOZ:=hid ho
    have h9:decide ((k:Int) < (k:Int))=false:=by simp
    have h8:decide (k < k)=false:=by simp
    clear ho hb hlt hk htk
    go_wp2_with fail
    go_ret
    refine ⟨_,rfl,⟨HOZ.out.1,HOZ.out.2.imp id fun ⟨g,cap,cur,hv,hg,r⟩=>⟨g,cap,cur,hv,Nat.le_trans HB1.out.size hg,r⟩⟩,HB1.out.trans (HB.out.mono HB1.out.size)⟩
end
section
open Go.Maps Go.WideMaps Go.ChangeMaps
theorem joint_good:∀ (f a b old:Nat) (whole:Bool),b - a≤f→Al a (b - a)→a < old→old≤b→b≤1000000→∀ p ∈ jointP f a b old whole,p.1 < p.2∧Al p.1 (p.2 - p.1)∧p.2≤b:=by
 intro f
 induction f with
 | zero=>intro a b old whole h _ h1 h2;omega
 | succ f ih =>
   intro a b old whole hf hal h1 h2 h3 p hp
   rw [jointP] at hp
   by_cases he:old=b
   · rw [if_pos he] at hp
     split at hp
     · cases hp
     · obtain rfl:=List.mem_singleton.1 hp
       exact ⟨by omega,hal,Nat.le_refl _⟩
   · obtain ⟨l1,l2⟩:=leftP_lt (b - a) (by omega) (by omega)
     obtain ⟨al1,al2⟩:=hal.halves (by omega) (by omega)
     have e1:a+leftP (b - a) - a=leftP (b - a):=by omega
     have e2:b - (a+leftP (b - a))=b - a - leftP (b - a):=by omega
     rw [if_neg he] at hp
     split at hp
     · rename_i hk
       rcases List.mem_append.1 hp with q | q
       · obtain ⟨q1,q2,q3⟩:=ih a (a+leftP (b - a)) old whole (by omega) (by rw [e1];exact al1) h1 hk (by omega) p q
         exact ⟨q1,q2,by omega⟩
       · obtain rfl:=List.mem_singleton.1 q
         exact ⟨by show a+leftP (b - a) < b;omega,by show Al (a+leftP (b - a)) (b - (a+leftP (b - a)));rw [e2];exact al2,Nat.le_refl _⟩
     · rename_i hk
       rcases List.mem_append.1 hp with q | q
       · exact ih (a+leftP (b - a)) b old false (by omega) (by rw [e2];exact al2) (by omega) h2 h3 p q
       · obtain rfl:=List.mem_singleton.1 q
         exact ⟨by show a < a+leftP (b - a);omega,by show Al a (a+leftP (b - a) - a);rw [e1];exact al1,by show a+leftP (b - a)≤b;omega⟩
theorem parts_good {old size:Nat} (h:old≤size) (hs:size≤1000000):∀ p ∈ partsP old size,p.1 < p.2∧Al p.1 (p.2 - p.1)∧p.2≤size:=by
 unfold partsP
 split
 · intro p hp;cases hp
 · exact joint_good size 0 size old true (by omega) (Al.zero _) (by omega) h hs
theorem parts_len {old size:Nat} (h:old≤size) (hs:size≤1000000):(partsP old size).length≤size:=by
 unfold partsP
 split
 · exact Nat.zero_le _
 · have:=joint_len size 0 size old true (by omega) (by omega) h hs
   omega
set_option maxHeartbeats 8000000
theorem tcons62 (w:World) (wd:Int) (L:List Dg) (gt:Nat) (hwd:1≤wd∧wd≤32) (old size:Nat) (ho:old≤size) (hs:size≤60000) (h4:4≤w.heap.size) (ht:RoundTab w) (htz:TabAt 1 Lib.deBruijn64tab w)
 (hat:∀ (wx:World) (q i:Nat),Below w.heap.size w wx→q < 16→(i+1) * 2 ^ q≤size→Calls Tryz.prog 62 #[.pointer (some ⟨gt,0,none⟩),.agg #[.int .i64 (q:Int),.int .i64 (i:Int)]] wx fun e w'=>e=.returned (.agg (dgA (spotD wd L (q,i)).1))∧Below wx.heap.size wx w') :
 Calls Tryz.prog 79 #[.int .i64 wd,.int .i64 (old:Int),.int .i64 (size:Int),.func (.func 62) #[.pointer (some ⟨gt,0,none⟩)] #[]] w fun e w'=>∃ v,e=.returned (.tuple #[v,.int .i64 0])∧w'.ownsRow w.heap.size 38 32 v (partsP old size).length (((partsP old size).map (partD wd L)).flatMap dgE)∧Below w.heap.size w w':=by
 have hnf:∀ wx,(binOp .eql 134 (.func (.func 62) #[.pointer (some ⟨gt,0,none⟩)] #[]) .nilFunc).run Tryz.prog wx=.ok (.bool false) wx:=fun wx=>by kernel_rfl
 have HSZ:=hid (fun wx=>sizes_any wx old size ho (by omega))
 have HPT:=hid (fun wx=>parts_any wx old size ho (by omega))
 have hln:=parts_len ho (by omega)
 have HAS:=hid (fun (wx:World) (hb:Below w.heap.size w wx) (v:Value) (hp:PO wx w.heap.size v (partsP old size))=>show Calls Tryz.prog 146 #[.int .i64 wd,v,.func (.func 62) #[.pointer (some ⟨gt,0,none⟩)] #[]] wx (fun e w'=>∃ v',e=.returned v'∧w'.ownsRow wx.heap.size 38 32 v' (partsP old size).length (((partsP old size).map (partD wd L)).flatMap dgE)∧Below wx.heap.size wx w') from by
  obtain ⟨a,c,rfl⟩:=rowShape hp
  exact asked62 wx wd L gt hwd (partsP old size) a (partsP old size).length c size (RS.of_owns hp (by decide) (fun _=>rfl) (by omega)) (parts_good ho (by omega)) (by omega) (by omega) (by have:=hb.size;omega) (rt_below ht hb (by omega)) (tab_below htz hb (by omega)) (fun wy q i hby=>hat wy q i (hb.trans (hby.mono hb.size))))
 clear ho hs h4 ht htz hat hwd hln
 go_enter Tryz.func79,Tryz.ntmps79
 go_wp2_with (first
  | (go_at_call 145;refine (HSZ.out _).mono ?_;rintro e wx ⟨rfl,hw⟩;have hw:=hw.symm;subst hw)
  | (go_at_call 147;refine (HPT.out _).mono ?_;rintro e w1 ⟨v,rfl,hp,hb⟩;have HB1:=hid hb;have HP:=hid hp;clear hb hp)
  | (go_at_call 146;refine (HAS.out _ HB1.out _ HP.out).mono ?_;rintro e w2 ⟨v',rfl,ho,hb⟩))
 go_ret2
 exact ⟨_,rfl,⟨ho.1,ho.2.imp id fun ⟨g,cap,cur,hv,hg,r⟩=>⟨g,cap,cur,hv,Nat.le_trans HB1.out.size hg,r⟩⟩,HB1.out.trans (hb.mono HB1.out.size)⟩
theorem tcons76 (w:World) (wd:Int) (L:List Dg) (x0 x1:Value) (hwd:1≤wd∧wd≤32) (old size:Nat) (ho:old≤size) (hs:size≤60000) (h4:4≤w.heap.size) (ht:RoundTab w) (htz:TabAt 1 Lib.deBruijn64tab w)
 (hat:∀ (wx:World) (q i:Nat),Below w.heap.size w wx→q < 16→(i+1) * 2 ^ q≤size→Calls Tryz.prog 76 #[.agg #[.int .i64 (q:Int),.int .i64 (i:Int)],x0,x1] wx fun e w'=>e=.returned (.agg (dgA (spotD wd L (q,i)).1))∧Below wx.heap.size wx w') :
 Calls Tryz.prog 79 #[.int .i64 wd,.int .i64 (old:Int),.int .i64 (size:Int),.func (.func 76) #[] #[x0,x1]] w fun e w'=>∃ v,e=.returned (.tuple #[v,.int .i64 0])∧w'.ownsRow w.heap.size 38 32 v (partsP old size).length (((partsP old size).map (partD wd L)).flatMap dgE)∧Below w.heap.size w w':=by
 have hnf:∀ wx,(binOp .eql 134 (.func (.func 76) #[] #[x0,x1]) .nilFunc).run Tryz.prog wx=.ok (.bool false) wx:=fun wx=>by kernel_rfl
 have HSZ:=hid (fun wx=>sizes_any wx old size ho (by omega))
 have HPT:=hid (fun wx=>parts_any wx old size ho (by omega))
 have hln:=parts_len ho (by omega)
 have HAS:=hid (fun (wx:World) (hb:Below w.heap.size w wx) (v:Value) (hp:PO wx w.heap.size v (partsP old size))=>show Calls Tryz.prog 146 #[.int .i64 wd,v,.func (.func 76) #[] #[x0,x1]] wx (fun e w'=>∃ v',e=.returned v'∧w'.ownsRow wx.heap.size 38 32 v' (partsP old size).length (((partsP old size).map (partD wd L)).flatMap dgE)∧Below wx.heap.size wx w') from by
  obtain ⟨a,c,rfl⟩:=rowShape hp
  exact asked76 wx wd L x0 x1 hwd (partsP old size) a (partsP old size).length c size (RS.of_owns hp (by decide) (fun _=>rfl) (by omega)) (parts_good ho (by omega)) (by omega) (by omega) (by have:=hb.size;omega) (rt_below ht hb (by omega)) (tab_below htz hb (by omega)) (fun wy q i hby=>hat wy q i (hb.trans (hby.mono hb.size))))
 clear ho hs h4 ht htz hat hwd hln
 go_enter Tryz.func79,Tryz.ntmps79
 go_wp2_with (first
  | (go_at_call 145;refine (HSZ.out _).mono ?_;rintro e wx ⟨rfl,hw⟩;have hw:=hw.symm;subst hw)
  | (go_at_call 147;refine (HPT.out _).mono ?_;rintro e w1 ⟨v,rfl,hp,hb⟩;have HB1:=hid hb;have HP:=hid hp;clear hb hp)
  | (go_at_call 146;refine (HAS.out _ HB1.out _ HP.out).mono ?_;rintro e w2 ⟨v',rfl,ho,hb⟩))
 go_ret2
 exact ⟨_,rfl,⟨ho.1,ho.2.imp id fun ⟨g,cap,cur,hv,hg,r⟩=>⟨g,cap,cur,hv,Nat.le_trans HB1.out.size hg,r⟩⟩,HB1.out.trans (hb.mono HB1.out.size)⟩
end
section
open Go.Maps Go.WideMaps Go.ChangeMaps
theorem way_good (i:Nat):∀ (f a b:Nat),b - a≤f→Al a (b - a)→b≤1000000→∀ p ∈ wayP f a b i,p.1 < p.2∧Al p.1 (p.2 - p.1)∧p.2≤b:=by
 intro f
 induction f with
 | zero=>intro a b h _ _ p hp;rw [wayP] at hp;cases hp
 | succ f ih =>
   intro a b hf hal h3 p hp
   rw [wayP] at hp
   by_cases h1:b - a≤1
   · rw [if_pos h1] at hp;cases hp
   · obtain ⟨l1,l2⟩:=leftP_lt (b - a) (by omega) (by omega)
     obtain ⟨al1,al2⟩:=hal.halves (by omega) (by omega)
     have e1:a+leftP (b - a) - a=leftP (b - a):=by omega
     have e2:b - (a+leftP (b - a))=b - a - leftP (b - a):=by omega
     rw [if_neg h1] at hp
     split at hp
     · rcases List.mem_cons.1 hp with q | q
       · subst q
         exact ⟨by show a+leftP (b - a) < b;omega,by show Al (a+leftP (b - a)) (b - (a+leftP (b - a)));rw [e2];exact al2,Nat.le_refl _⟩
       · obtain ⟨q1,q2,q3⟩:=ih a (a+leftP (b - a)) (by omega) (by rw [e1];exact al1) (by omega) p q
         exact ⟨q1,q2,by omega⟩
     · rcases List.mem_cons.1 hp with q | q
       · subst q
         exact ⟨by show a < a+leftP (b - a);omega,by show Al a (a+leftP (b - a) - a);rw [e1];exact al1,by show a+leftP (b - a)≤b;omega⟩
       · exact ih (a+leftP (b - a)) b (by omega) (by rw [e2];exact al2) h3 p q
theorem way_len {i:Nat}:∀ (f a b:Nat),b≤1000000→(wayP f a b i).length≤b - a:=by
 intro f
 induction f with
 | zero=>intro a b h;rw [wayP];exact Nat.zero_le _
 | succ f ih =>
   intro a b h3
   rw [wayP]
   by_cases h1:b - a≤1
   · rw [if_pos h1];exact Nat.zero_le _
   · obtain ⟨l1,l2⟩:=leftP_lt (b - a) (by omega) (by omega)
     rw [if_neg h1]
     split
     · have:=ih a (a+leftP (b - a)) (by omega)
       rw [List.length_cons];omega
     · have:=ih (a+leftP (b - a)) b h3
       rw [List.length_cons];omega
set_option maxHeartbeats 8000000
theorem tincl62 (w:World) (wd:Int) (L:List Dg) (gt:Nat) (hwd:1≤wd∧wd≤32) (size i:Nat) (hi:i < size) (hs:size≤60000) (h4:4≤w.heap.size) (ht:RoundTab w) (htz:TabAt 1 Lib.deBruijn64tab w)
 (hat:∀ (wx:World) (q i:Nat),Below w.heap.size w wx→q < 16→(i+1) * 2 ^ q≤size→Calls Tryz.prog 62 #[.pointer (some ⟨gt,0,none⟩),.agg #[.int .i64 (q:Int),.int .i64 (i:Int)]] wx fun e w'=>e=.returned (.agg (dgA (spotD wd L (q,i)).1))∧Below wx.heap.size wx w') :
 Calls Tryz.prog 83 #[.int .i64 wd,.int .i64 (size:Int),.int .i64 (i:Int),.func (.func 62) #[.pointer (some ⟨gt,0,none⟩)] #[]] w fun e w'=>∃ v,e=.returned (.tuple #[v,.int .i64 0])∧w'.ownsRow w.heap.size 38 32 v (wayP size 0 size i).reverse.length (((wayP size 0 size i).reverse.map (partD wd L)).flatMap dgE)∧Below w.heap.size w w':=by
 have hnf:∀ wx,(binOp .eql 134 (.func (.func 62) #[.pointer (some ⟨gt,0,none⟩)] #[]) .nilFunc).run Tryz.prog wx=.ok (.bool false) wx:=fun wx=>by kernel_rfl
 have HSZ:=hid (fun wx=>inside_any wx size i hi (by omega))
 have HPT:=hid (fun wx=>way_any wx size i hi (by omega))
 have hln:=way_len (i:=i) size 0 size (by omega)
 have hgood:=way_good i size 0 size (by omega) (Al.zero _) (by omega)
 have HAS:=hid (fun (wx:World) (hb:Below w.heap.size w wx) (v:Value) (hp:PO wx w.heap.size v (wayP size 0 size i).reverse)=>show Calls Tryz.prog 146 #[.int .i64 wd,v,.func (.func 62) #[.pointer (some ⟨gt,0,none⟩)] #[]] wx (fun e w'=>∃ v',e=.returned v'∧w'.ownsRow wx.heap.size 38 32 v' (wayP size 0 size i).reverse.length (((wayP size 0 size i).reverse.map (partD wd L)).flatMap dgE)∧Below wx.heap.size wx w') from by
  obtain ⟨a,c,rfl⟩:=rowShape hp
  exact asked62 wx wd L gt hwd (wayP size 0 size i).reverse a (wayP size 0 size i).reverse.length c size (RS.of_owns hp (by decide) (fun _=>rfl) (by rw [List.length_reverse];omega)) (fun p hp=>hgood p (List.mem_reverse.1 hp)) (by omega) (by rw [List.length_reverse];omega) (by have:=hb.size;omega) (rt_below ht hb (by omega)) (tab_below htz hb (by omega)) (fun wy q i hby=>hat wy q i (hb.trans (hby.mono hb.size))))
 clear hi hs h4 ht htz hat hwd hln hgood
 go_enter Tryz.func83,Tryz.ntmps83
 go_wp2_with (first
  | (go_at_call 149;refine (HSZ.out _).mono ?_;rintro e wx ⟨rfl,hw⟩;have hw:=hw.symm;subst hw)
  | (go_at_call 150;refine (HPT.out _).mono ?_;rintro e w1 ⟨v,rfl,hp,hb⟩;have HB1:=hid hb;have HP:=hid hp;clear hb hp)
  | (go_at_call 146;refine (HAS.out _ HB1.out _ HP.out).mono ?_;rintro e w2 ⟨v',rfl,ho,hb⟩))
 go_ret2
 exact ⟨_,rfl,⟨ho.1,ho.2.imp id fun ⟨g,cap,cur,hv,hg,r⟩=>⟨g,cap,cur,hv,Nat.le_trans HB1.out.size hg,r⟩⟩,HB1.out.trans (hb.mono HB1.out.size)⟩
theorem tincl76 (w:World) (wd:Int) (L:List Dg) (x0 x1:Value) (hwd:1≤wd∧wd≤32) (size i:Nat) (hi:i < size) (hs:size≤60000) (h4:4≤w.heap.size) (ht:RoundTab w) (htz:TabAt 1 Lib.deBruijn64tab w)
 (hat:∀ (wx:World) (q i:Nat),Below w.heap.size w wx→q < 16→(i+1) * 2 ^ q≤size→Calls Tryz.prog 76 #[.agg #[.int .i64 (q:Int),.int .i64 (i:Int)],x0,x1] wx fun e w'=>e=.returned (.agg (dgA (spotD wd L (q,i)).1))∧Below wx.heap.size wx w') :
 Calls Tryz.prog 83 #[.int .i64 wd,.int .i64 (size:Int),.int .i64 (i:Int),.func (.func 76) #[] #[x0,x1]] w fun e w'=>∃ v,e=.returned (.tuple #[v,.int .i64 0])∧w'.ownsRow w.heap.size 38 32 v (wayP size 0 size i).reverse.length (((wayP size 0 size i).reverse.map (partD wd L)).flatMap dgE)∧Below w.heap.size w w':=by
 have hnf:∀ wx,(binOp .eql 134 (.func (.func 76) #[] #[x0,x1]) .nilFunc).run Tryz.prog wx=.ok (.bool false) wx:=fun wx=>by kernel_rfl
 have HSZ:=hid (fun wx=>inside_any wx size i hi (by omega))
 have HPT:=hid (fun wx=>way_any wx size i hi (by omega))
 have hln:=way_len (i:=i) size 0 size (by omega)
 have hgood:=way_good i size 0 size (by omega) (Al.zero _) (by omega)
 have HAS:=hid (fun (wx:World) (hb:Below w.heap.size w wx) (v:Value) (hp:PO wx w.heap.size v (wayP size 0 size i).reverse)=>show Calls Tryz.prog 146 #[.int .i64 wd,v,.func (.func 76) #[] #[x0,x1]] wx (fun e w'=>∃ v',e=.returned v'∧w'.ownsRow wx.heap.size 38 32 v' (wayP size 0 size i).reverse.length (((wayP size 0 size i).reverse.map (partD wd L)).flatMap dgE)∧Below wx.heap.size wx w') from by
  obtain ⟨a,c,rfl⟩:=rowShape hp
  exact asked76 wx wd L x0 x1 hwd (wayP size 0 size i).reverse a (wayP size 0 size i).reverse.length c size (RS.of_owns hp (by decide) (fun _=>rfl) (by rw [List.length_reverse];omega)) (fun p hp=>hgood p (List.mem_reverse.1 hp)) (by omega) (by rw [List.length_reverse];omega) (by have:=hb.size;omega) (rt_below ht hb (by omega)) (tab_below htz hb (by omega)) (fun wy q i hby=>hat wy q i (hb.trans (hby.mono hb.size))))
 clear hi hs h4 ht htz hat hwd hln hgood
 go_enter Tryz.func83,Tryz.ntmps83
 go_wp2_with (first
  | (go_at_call 149;refine (HSZ.out _).mono ?_;rintro e wx ⟨rfl,hw⟩;have hw:=hw.symm;subst hw)
  | (go_at_call 150;refine (HPT.out _).mono ?_;rintro e w1 ⟨v,rfl,hp,hb⟩;have HB1:=hid hb;have HP:=hid hp;clear hb hp)
  | (go_at_call 146;refine (HAS.out _ HB1.out _ HP.out).mono ?_;rintro e w2 ⟨v',rfl,ho,hb⟩))
 go_ret2
 exact ⟨_,rfl,⟨ho.1,ho.2.imp id fun ⟨g,cap,cur,hv,hg,r⟩=>⟨g,cap,cur,hv,Nat.le_trans HB1.out.size hg,r⟩⟩,HB1.out.trans (hb.mono HB1.out.size)⟩
end
end Go.Proofs.YtgkehahklccacaaGreatDoor
