import Derived.Test.YtgkehahklccacaaGreatDoorZ01
import Derived.Test.YtgkehahklccacaaGreatDoorZ30
import Derived.Test.YtgkehahklccacaaGreatDoorZ10
import Derived.Test.YtgkehahklccacaaGreatDoorZ11
import Derived.Test.YtgkehahklccacaaGreatDoorZ28
namespace Go.Proofs.YtgkehahklccacaaGreatDoor
open Go Go.RowKit
open Go.Lib (hid)
set_option maxRecDepth 100000
set_option maxHeartbeats 1000000
set_option linter.unusedVariables false
set_option linter.unusedSimpArgs false
section
open Go.Maps Go.WideMaps Go.ChangeMaps
theorem alOlC (w:World) (o:Obj) (i:Nat) (h:i < w.heap.size):(w.alloc o).heap[i]?=w.heap[i]?:=(bel1 w o).block i h
theorem cellC (v:Value) (e:TypeId) (w:World) (i:Nat) (u:Value) (h:[v][i]?=some u):(w.alloc (.cells #[v] e)).cell? ((⟨w.heap.size,0,none⟩:Addr).add i)=some u:=by
 have h0:(w.alloc (.cells #[v] e)).heap[w.heap.size]?=some (.cells #[v] e (0,0)):=heap_alloc_new _ _
 have ea:(⟨w.heap.size,0,none⟩:Addr).add i=⟨w.heap.size,i,none⟩:=by by_cases h0:i=0 <;> simp [Addr.add,h0]
 rw [ea,cell_of_row _ _ i _ _ _ h0]
 simpa using h
theorem sl229:Sl Tryz.prog 229 53 (.slice none 0 0) 1 24:=⟨Tryz.underlying229,by kernel_rfl,rfl,by decide⟩
def ClimbAt (w:World) (B gc:Nat) (wd:Int) (n:Nat) (tv:Value):Prop:=w.heap[gc]?=some (.cells #[.int .i64 wd,tv] 234 (0,0))∧∃ xs,w.ownsRow B 53 1 tv n xs∧∀ u ∈ xs,u.oneCell'=true
structure FrC (w w':World) (gc:Nat) (ob:Option Nat):Prop where
 b:Below 0 w w'
 blk:∀ k,k < w.heap.size→k ≠ gc→some k ≠ ob→w'.heap[k]?=w.heap[k]?
theorem FrC.of_below {w w':World} {gc:Nat} {ob:Option Nat} (h:Below w.heap.size w w'):FrC w w' gc ob:=⟨h.mono (Nat.zero_le _),fun k hk _ _=>h.block k hk⟩
theorem FrC.of_grown {w w':World} {gc:Nat} {ob:Option Nat} (h:w.grownBy w' ob):FrC w w' gc ob:=⟨⟨h.os,h.tape,h.output,h.size,fun k hk=>absurd hk (Nat.not_lt_zero k)⟩,fun k hk _ h2=>h.block k hk h2⟩
theorem FrC.of_set {w:World} {gc o:Nat} {ob:Option Nat} {v:Value}:FrC w (w.setCell ⟨gc,o,none⟩ v) gc ob:=⟨⟨rfl,rfl,rfl,by simp,fun k hk=>absurd hk (Nat.not_lt_zero k)⟩,fun k _ hk _=>heap_setCell_other w ⟨gc,o,none⟩ k _ (fun e=>hk e)⟩
theorem FrC.trans {a b c:World} {gc:Nat} {ob oc:Option Nat} (h:FrC a b gc ob) (k:FrC b c gc oc) (ho:oc=ob∨∃ x,oc=some x∧a.heap.size≤x):FrC a c gc ob :=
 ⟨h.b.trans k.b,fun j hj h1 h2=>(k.blk j (Nat.lt_of_lt_of_le hj h.b.size) h1 (by
   rcases ho with e | ⟨x,e,hx⟩
   · rw [e];exact h2
   · rw [e];intro q;have:=Option.some.inj q;omega)).trans (h.blk j hj h1 h2)⟩
theorem ClimbAt.lt {w:World} {B gc n:Nat} {wd:Int} {tv:Value} (h:ClimbAt w B gc wd n tv):gc < w.heap.size:=(Array.getElem?_eq_some_iff.1 h.1).1
theorem ClimbAt.below {w w':World} {B gc n:Nat} {wd:Int} {tv:Value} (h:ClimbAt w B gc wd n tv) (hb:Below w.heap.size w w'):ClimbAt w' B gc wd n tv :=
 ⟨(hb.block gc h.lt).trans h.1,h.2.imp fun xs ho=>⟨own_below ho.1 hb,ho.2⟩⟩
def CnOut (w w':World) (B gc n:Nat) (wd:Int) (tv:Value):Prop:=∃ tv',ClimbAt w' B gc wd (n+1) tv'∧FrC w w' gc tv.ownBlock∧(tv'.ownBlock=tv.ownBlock∨∃ k,tv'.ownBlock=some k∧w.heap.size≤k)
theorem FrC.tab {w w':World} {gc:Nat} {ob:Option Nat} (h:FrC w w' gc ob) (ht:RoundTab w) (h3:3 < w.heap.size) (h1:3 ≠ gc) (h2:some 3 ≠ ob):RoundTab w':=fun i hi=>(World.cell?_of_block (h.blk 3 h3 h1 h2)).trans (ht i hi)
set_option maxHeartbeats 8000000
theorem cnode_any (w:World) (B gc n:Nat) (tv:Value) (wd:Int) (h0:-9223372036854775808≤wd) (h1:wd≤9223372036854775807) (hc:ClimbAt w B gc wd n tv) (hn:n≤1000000) (hB:B≤w.heap.size) (l r:Dg) (ht:RoundTab w) (h3:3 < B) (hgc:3 < gc) :
 Calls Tryz.prog 205 #[.pointer (some ⟨gc,0,none⟩),.agg (dgA l.1),.agg (dgA r.1)] w fun e w'=>e=.returned (.agg (dgA (nodeD wd l r).1))∧CnOut w w' B gc n wd tv:=by
 have hlt:=hc.lt
 obtain ⟨hcb,xs,hco,hones⟩:=hc
 have HON:=hid hones
 obtain ⟨ta,tc,rfl,-⟩:=owns_shape hco
 have HT:=hid ht
 have H01:=hid (And.intro h0 h1)
 obtain ⟨E,hE⟩:∃ E,E=dgA (nodeD wd l r).1:=⟨_,rfl⟩
 have HE:=hid hE
 have HES:=hid (show E.size=32 by rw [hE,dgA_size];exact (nodeD wd l r).2)
 have HE1:=hid (show E.all (·.oneCell')=true by rw [hE];exact dgA_all _)
 obtain ⟨L,hL⟩:∃ L,L=dgA l.1:=⟨_,rfl⟩
 obtain ⟨R,hR⟩:∃ R,R=dgA r.1:=⟨_,rfl⟩
 rw [← hL,← hR]
 have HL:=hid hL;have HR:=hid hR
 have HCB:=hid hcb;have HCO:=hid hco;have HLT:=hid hlt;have HB:=hid hB;have H3:=hid (And.intro h3 hgc)
 clear ht hE h0 h1 hL hR hcb hco hones hlt hB h3 hgc
 go_enter Tryz.func205,Tryz.ntmps205
 go_upto_region 1 with (fail)
 obtain ⟨o1,ho1⟩:∃ o1:Obj,o1=.cells #[.int .u8 0,.int .u8 0,.int .u8 0,.int .u8 0,.int .u8 0,.int .u8 0,.int .u8 0,.int .u8 0,.int .u8 0,.int .u8 0,.int .u8 0,.int .u8 0,.int .u8 0,.int .u8 0,.int .u8 0,.int .u8 0,.int .u8 0,.int .u8 0,.int .u8 0,.int .u8 0,.int .u8 0,.int .u8 0,.int .u8 0,.int .u8 0,.int .u8 0,.int .u8 0,.int .u8 0,.int .u8 0,.int .u8 0,.int .u8 0,.int .u8 0,.int .u8 0] 38:=⟨_,rfl⟩
 rw [← ho1]
 have hb1:Below w.heap.size w (((w.alloc (.cells L 38)).alloc (.cells R 38)).alloc o1):=(((Below.refl _ _).alloc (Nat.le_refl _) _).alloc (by simp) _).alloc (by simp;omega) _
 have hg2:(((w.alloc (.cells L 38)).alloc (.cells R 38)).alloc o1).heap[w.heap.size]?=some (.cells L 38 (0,0)):=(Below.heap_alloc _ _ _ (by simp;omega)).trans (heap_alloc2_old w _ _)
 have hg3:(((w.alloc (.cells L 38)).alloc (.cells R 38)).alloc o1).heap[w.heap.size+1]?=some (.cells R 38 (0,0)):=(Below.heap_alloc _ _ _ (by simp)).trans (heap_alloc2_new w _ _)
 have hg1:(((w.alloc (.cells L 38)).alloc (.cells R 38)).alloc o1).heap[w.heap.size+2]?=some o1:=by
  have:=heap_alloc_new ((w.alloc (.cells L 38)).alloc (.cells R 38)) o1
  rwa [World.size_alloc,World.size_alloc] at this
 have hz1:(((w.alloc (.cells L 38)).alloc (.cells R 38)).alloc o1).heap.size=w.heap.size+3:=by simp
 generalize ((w.alloc (.cells L 38)).alloc (.cells R 38)).alloc o1=w1 at *
 obtain ⟨b1,hb1e⟩:∃ b1,b1=w.heap.size:=⟨_,rfl⟩
 obtain ⟨b2,hb2e⟩:∃ b2,b2=w.heap.size+1:=⟨_,rfl⟩
 obtain ⟨rb,hrb⟩:∃ rb,rb=w.heap.size+2:=⟨_,rfl⟩
 rw [← hrb] at hg1
 rw [← hb2e] at hg3
 rw [← hb1e] at hg2
 rw [← hrb,← hb2e,← hb1e]
 have HB1:=hid hb1;have HG1:=hid hg1;have HZ1:=hid hz1;have HOO:=hid ho1
 have HG2:=hid hg2;have HG3:=hid hg3
 have HRB:=hid (show w.heap.size≤rb by omega)
 have HRR:=hid (show b1=w.heap.size∧b2=w.heap.size+1∧rb=w.heap.size+2 from ⟨hb1e,hb2e,hrb⟩)
 clear hb1 hg1 hz1 ho1 hg2 hg3 hrb hb1e hb2e
 refine wp_region_held_drew (S:=fun _=>True) (by kernel_rfl) trivial (fun hHeld=>?_)
 apply wpT 0
 apply wpT 1
 apply wpR 2
 intro K hK
 go_simp
 apply bk hK
 · exact trivial
 intro hHeld
 clear hK K
 obtain ⟨w2,hw2⟩:∃ w2,w2=(w1.alloc (.cells #[.slice (some ⟨b1,0,none⟩) 32 32,.slice (some ⟨b2,0,none⟩) 32 32] 53)).drew:=⟨_,rfl⟩
 rw [← hw2]
 have hb2:Below w1.heap.size w1 w2:=by rw [hw2];exact ((Below.refl _ _).alloc (Nat.le_refl _) _).drew
 have hg4:w2.heap[w1.heap.size]?=some (.cells #[.slice (some ⟨b1,0,none⟩) 32 32,.slice (some ⟨b2,0,none⟩) 32 32] 53 (0,0)):=by rw [hw2];exact heap_alloc_new w1 _
 obtain ⟨q1,q2,q3⟩:=HRR.out
 have hz:=HZ1.out
 have hL2:R8 w2 (some ⟨b1,0,none⟩) 32 32 l.1:=r8_dg (by rw [hb2.block b1 (by omega),HG2.out,HL.out]) l.2
 have hR2:R8 w2 (some ⟨b2,0,none⟩) 32 32 r.1:=r8_dg (by rw [hb2.block b2 (by omega),HG3.out,HR.out]) r.2
 have hps:PartsAt w2 (some ⟨w1.heap.size,0,none⟩) 2 [l.1,r.1]:=⟨rfl,fun i p hi=>by
  match i,hi with
  | 0,hi=>cases hi;exact ⟨_,0,some ⟨b1,0,none⟩,32,32,rfl,by rw [cell_of_row _ _ _ _ _ _ hg4];rfl,hL2⟩
  | 1,hi=>cases hi;exact ⟨_,0,some ⟨b2,0,none⟩,32,32,rfl,by rw [cell_of_row _ _ _ _ _ _ hg4];rfl,hR2⟩
  | n+2,hi=>simp at hi⟩
 have hbw:Below w.heap.size w w2:=HB1.out.trans (hb2.mono (by omega))
 have hll:[l.1,r.1].flatten.length=64:=by simp [l.2,r.2]
 have HTX:=hid (show Calls Tryz.prog 237 #[.int .i64 1,.slice (some ⟨w1.heap.size,0,none⟩) 2 2] w2 fun e w'=>∃ a' n' c',e=.returned (.slice a' n' c')∧w'.ownsRow w2.heap.size 5 1 (.slice a' n' c') n' ((1 :: [l.1,r.1].flatten).map b8)∧Below w2.heap.size w2 w' from text_any w2 1 (some ⟨w1.heap.size,0,none⟩) 2 2 [l.1,r.1] hps (by omega) (by rw [hll];decide))
 have HLL:=hid hll
 have HBW:=hid hbw
 have HZ2:=hid (show w1.heap.size≤w2.heap.size from hb2.size)
 have HG12:=hid (show w2.heap[rb]?=some o1 from (hb2.block rb (by omega)).trans HG1.out)
 clear hw2 hb2 hg4 q1 q2 q3 hz hL2 hR2 hps hbw hll
 apply wpR 3
 intro K hK
 go_simp
 refine HTX.out.mono ?_
 rintro e w6 ⟨a',n',c',rfl,ho6,hb6⟩
 have HO6:=hid ho6
 have HB6:=hid (HBW.out.trans (hb6.mono HBW.out.size))
 have HG16:=hid ((hb6.block rb (Array.getElem?_eq_some_iff.1 HG12.out).1).trans HG12.out)
 clear ho6 hb6
 apply bk hK
 · exact trivial
 intro hHeld
 clear hK K
 apply wpT 4
 refine wpAnyH_done (by kernel_rfl) ?_ _
 have hcb6:=(HB6.out.block gc HLT.out).trans HCB.out
 have hco6:w6.ownsRow B 53 1 (.slice ta n tc) n xs:=own_below HCO.out HB6.out
 have hlt6:gc < w6.heap.size:=Nat.lt_of_lt_of_le HLT.out HB6.out.size
 have hc1:w6.cell? ⟨gc,1,none⟩=some (.slice ta n tc):=by rw [cell_of_row _ _ _ _ _ _ hcb6];rfl
 have hne:=own_ne HCO.out HCB.out (by decide)
 have hne6:=own_ne hco6 hcb6 (by decide)
 have HCB6:=hid hcb6;have HCO6:=hid hco6;have HLT6:=hid hlt6
 have HS6:=hid (show B≤(w6.alloc (.cells #[.slice a' n' c'] 53)).heap.size by rw [World.size_alloc];have:=HB.out;have:=HB6.out.size;omega)
 have HNE:=hid hne6
 clear hcb6 hco6 hlt6 hne hne6
 go_wp2_with (first
  | (at_builtin;refine L_appendN rfl (.tmp 16) (.tmp 18) 229 (by rfl) sl229 B (.slice ta n tc) n xs (by rfl) (HCO6.out.alloc _) ⟨w6.heap.size,0,none⟩ 1 1 [.slice a' n' c'] (by rfl) rfl (fun j u hu=>cellC (.slice a' n' c') 53 w6 j u hu) (by intro u hu;simp only [List.mem_cons,List.not_mem_nil,or_false] at hu;rw [hu];rfl) (by omega) (by simp [maxLen];omega) HS6.out (fun a8 c8 w8 ho8 hg8 hat8=>?_)
     have HO8:=hid ho8;have HG8:=hid hg8;have HAT8:=hid hat8
     have hcb8:=(hg8.block gc (by rw [World.size_alloc];have:=HLT6.out;omega) (fun e=>HNE.out e.symm)).trans ((alOlC w6 _ gc HLT6.out).trans HCB6.out)
     have HCB8:=hid hcb8
     have hc8:w8.cell? ⟨gc,1,none⟩=some (.slice ta n tc):=by rw [cell_of_row _ _ _ _ _ _ hcb8];rfl
     have hf8:=frozen_of_row w8 gc 1 _ _ hcb8
     clear ho8 hg8 hat8 hcb8))
 obtain ⟨w9,hw9⟩:∃ w9,w9=w8.setCell ⟨gc,1,none⟩ (.slice a8 (n+1) c8):=⟨_,rfl⟩
 rw [← hw9]
 have hcb9:w9.heap[gc]?=some (.cells #[.int .i64 wd,.slice a8 (n+1) c8] 234 (0,0)):=by
  have:=heap_setCell_same w8 gc 1 _ _ (.slice a8 (n+1) c8) HCB8.out
  rw [hw9];simpa using this
 have hob:∀ k,(Value.slice ta n tc).ownBlock=some k→B≤k∧k < w.heap.size:=fun k hk=>HCO.out.lt k hk
 have hfr9:FrC w6 w9 gc (Value.slice ta n tc).ownBlock:=by
  rw [hw9]
  exact ((FrC.of_below (bel1 w6 _)).trans (FrC.of_grown HG8.out) (.inl rfl)).trans FrC.of_set (.inl rfl)
 have hfr:FrC w w9 gc (Value.slice ta n tc).ownBlock:=(FrC.of_below HB6.out).trans hfr9 (.inl rfl)
 have hown9:w9.ownsRow B 53 1 (.slice a8 (n+1) c8) (n+1) (xs++[Value.slice a' n' c']):=by
  refine own_same HO8.out fun k hk=>?_
  rw [hw9]
  refine heap_setCell_other w8 ⟨gc,1,none⟩ k _ fun e=>?_
  have e:k=gc:=e
  exact own_ne HO8.out HCB8.out (by decide) (hk.trans (by rw [e]))
 have hat9:(Value.slice a8 (n+1) c8).ownBlock=(Value.slice ta n tc).ownBlock∨∃ k,(Value.slice a8 (n+1) c8).ownBlock=some k∧w.heap.size≤k:=by
  rcases HAT8.out with e | e
  · exact .inl e
  · exact .inr ⟨_,e,by rw [World.size_alloc];have:=HB6.out.size;omega⟩
 have hlen9:(1 :: [l.1,r.1].flatten).length=65:=by simp [l.2,r.2]
 have hr9:R8 w9 a' n' c' (1 :: [l.1,r.1].flatten):=by
  refine R8.of_owns' (own_same HO6.out fun k hk=>?_) (by rw [hlen9];decide)
  have hk2:=HO6.out.lt k hk
  refine hfr9.blk k hk2.2 (fun e=>?_) (fun e=>?_)
  · have:=HLT.out;have:=HBW.out.size;omega
  · have:=hob k e.symm;have:=HBW.out.size;omega
 have hrt9:RoundTab w9:=hfr.tab HT.out (by have:=H3.out;have:=HB.out;omega) (by have:=H3.out;omega) (fun e=>by have:=hob 3 e.symm;have:=H3.out;omega)
 have hg19:w9.heap[rb]?=some o1:=(hfr9.blk rb (Array.getElem?_eq_some_iff.1 HG16.out).1 (by have:=HRB.out;have:=HLT.out;omega) (fun e=>by have:=hob rb e.symm;have:=HRB.out;omega)).trans HG16.out
 have hs9:w9.heap.size ≥ 4:=by have:=hfr.b.size;have:=HB.out;have:=H3.out;omega
 have HDS:=hid (show Calls Tryz.prog 111 #[.slice a' n' c'] w9.drew (fun e w'=>e=.returned (.agg (dgA (shaP (1 :: [l.1,r.1].flatten))))∧Below w9.drew.heap.size w9.drew w') from dsum_any w9.drew a' n' c' _ hr9 hrt9 (by show 3 < w9.heap.size;omega) (by have:=hr9.1;omega))
 have HCUT:=hid (fun wx=>show Calls Tryz.prog 110 #[.agg (dgA (shaP (1 :: [l.1,r.1].flatten))),.int .i64 wd] wx (fun e w'=>e=.returned (.agg E)∧Below wx.heap.size wx w') by
  have:=cut_dg wx (shaP (1 :: [l.1,r.1].flatten)) (shaP_len _) wd H01.out.1 H01.out.2
  rw [HE.out]
  have e:(nodeD wd l r).1=cutP' wd (shaP (1 :: [l.1,r.1].flatten)):=by show nodeP wd l.1 r.1=_;unfold nodeP ofP;simp
  rw [e];exact this)
 obtain ⟨DD,hDD⟩:∃ DD,DD=dgA (shaP (1 :: [l.1,r.1].flatten)):=⟨_,rfl⟩
 rw [← hDD] at HDS HCUT
 have hs0:(fun x=>x.cell? ⟨gc,0,none⟩=some (.int .i64 wd)) w9.drew:=by show w9.cell? ⟨gc,0,none⟩=_;rw [cell_of_row _ _ _ _ _ _ hcb9];rfl
 have HCB9:=hid hcb9;have HFR:=hid hfr;have HOWN9:=hid hown9;have HAT9:=hid hat9;have HG19:=hid hg19
 have HSC:=hid (fun (wx:World) (hb:Below w9.heap.size w9 wx)=>show (fun x=>x.cell? ⟨gc,0,none⟩=some (.int .i64 wd)) wx by show wx.cell? ⟨gc,0,none⟩=_;rw [cell_of_row _ _ _ _ _ _ ((hb.block gc (Array.getElem?_eq_some_iff.1 hcb9).1).trans hcb9)];rfl)
 clear hw9 hcb9 hob hfr9 hfr hown9 hat9 hlen9 hr9 hrt9 hg19 hs9 hDD hc8 hf8 hc1
 refine wp_region_held_drew (S:=fun x=>x.cell? ⟨gc,0,none⟩=some (.int .i64 wd)) (by kernel_rfl) hs0 (fun hHeld=>?_)
 apply wpT 0
 apply wpT 2
 apply wpT 3
 apply wpT 4
 apply wpT 5
 apply wpR 1
 intro K hK
 go_simp
 refine HDS.out.mono ?_
 rintro e w10 ⟨rfl,hb10⟩
 have HB10:=hid (show Below w9.heap.size w9 w10 from ⟨hb10.os,hb10.tape,hb10.output,hb10.size,hb10.block⟩)
 clear hb10
 apply bk hK
 · exact (HSC.out _ HB10.out)
 intro hHeld
 clear hK K
 apply wpR 6
 intro K hK
 go_simp
 refine (HCUT.out w10).mono ?_
 rintro e w11 ⟨rfl,hb11⟩
 have HB11:=hid (HB10.out.trans (hb11.mono HB10.out.size))
 clear hb11
 apply bk hK
 · exact (HSC.out _ HB11.out)
 intro hHeld
 clear hK K
 have hO:=(HB11.out.block rb (Array.getElem?_eq_some_iff.1 HG19.out).1).trans HG19.out
 rw [HOO.out] at hO
 have HTH:=hid (there_block hO)
 have HGF:=hid (setCells_all hO E.toList (by rw [Array.length_toList,HES.out];rfl))
 have HSN:=hid (show (fun x=>x.cell? ⟨gc,0,none⟩=some (.int .i64 wd)) (w11.setCells rb 0 E.toList) by
  have hgr:=setCells_grown rb E.toList 0 w11
  have hb:=(HB11.out.block gc (Array.getElem?_eq_some_iff.1 HCB9.out).1).trans HCB9.out
  have:=(hgr.block gc (Array.getElem?_eq_some_iff.1 hb).1 (fun e=>by have:=Option.some.inj e;have:=HRB.out;have:=HLT.out;omega)).trans hb
  show (w11.setCells rb 0 E.toList).cell? ⟨gc,0,none⟩=_
  rw [cell_of_row _ _ _ _ _ _ this];rfl)
 clear hO
 apply wpR 7
 intro K hK
 refine S_store_mid rfl 38 (.tmp 6) (.tmp 28) (by rfl) rb 0 E (by rfl) (by rfl) (by rw [HES.out];exact HTH.out) (by rw [HES.out];exact info38) HE1.out ?_
 apply bk hK
 · exact HSN.out
 intro hHeld
 clear hK K
 refine wpAnyH_done (by kernel_rfl) ?_ _
 have HFRE:=hid (show FrC w (w11.setCells rb 0 E.toList) gc (Value.slice ta n tc).ownBlock∧ClimbAt (w11.setCells rb 0 E.toList) B gc wd (n+1) (.slice a8 (n+1) c8) by
  have hgr:=setCells_grown rb E.toList 0 w11
  have hrb9:rb < w9.heap.size:=(Array.getElem?_eq_some_iff.1 HG19.out).1
  have hk:∀ k,k < w9.heap.size→k ≠ rb→(w11.setCells rb 0 E.toList).heap[k]?=w9.heap[k]?:=fun k hk hn=>(hgr.block k (Nat.lt_of_lt_of_le hk HB11.out.size) (fun e=>hn (Option.some.inj e))).trans (HB11.out.block k hk)
  refine ⟨⟨?_,fun k hk0 h1 h2=>?_⟩,(hk gc (Array.getElem?_eq_some_iff.1 HCB9.out).1 (by have:=HRB.out;have:=HLT.out;omega)).trans HCB9.out,_,own_same HOWN9.out fun k hk2=>hk k (HOWN9.out.lt k hk2).2 fun e=>?_,fun u hu=>?_⟩
  · exact (HFR.out.b.trans (HB11.out.mono (Nat.zero_le _))).trans ⟨hgr.os,hgr.tape,hgr.output,hgr.size,fun k hk=>absurd hk (Nat.not_lt_zero k)⟩
  · exact (hk k (Nat.lt_of_lt_of_le hk0 HFR.out.b.size) (by have:=HRB.out;omega)).trans (HFR.out.blk k hk0 h1 h2)
  · rcases HAT9.out with q | ⟨x,q,hx⟩
    · rw [q] at hk2;have:=HCO.out.lt k hk2;have:=HRB.out;omega
    · subst e
      exact own_ne HOWN9.out (HG19.out.trans (by rw [HOO.out])) (by decide) hk2
  · rcases List.mem_append.1 hu with q | q
    · exact HON.out u q
    · simp only [List.mem_cons,List.not_mem_nil,or_false] at q;rw [q];rfl)
 have HGF9:=hid (show (w11.setCells rb 0 E.toList).heap[rb]?=some (.cells E 38 (0,0)) by have:=HGF.out;simpa using this)
 generalize w11.setCells rb 0 E.toList=w12 at *
 clear HTH HGF
 go_wp2_with fail
 refine bodyPost_ret (v:=.agg E) (results_cell_row (p:=6) (ty:=38) rfl _ _ rb 38 E (0,0) _ rfl HGF9.out Tryz.underlying38 rfl (by rw [HES.out];exact info38)) rfl ⟨by rw [HE.out],_,HFRE.out.2,HFRE.out.1,HAT9.out⟩
end
section
open Go.Maps Go.WideMaps Go.ChangeMaps
def Two (w:World) (B g g':Nat) (wd:Int) (k:Nat) (tv tv':Value):Prop:=∃ n n',n≤k∧n'≤k∧ClimbAt w B g wd n tv∧ClimbAt w B g' wd n' tv'∧∀ j,tv.ownBlock=some j→tv'.ownBlock ≠ some j
theorem Two.swap {w:World} {B g g' k:Nat} {wd:Int} {tv tv':Value} (h:Two w B g g' wd k tv tv'):Two w B g' g wd k tv' tv:=by
 obtain ⟨n,n',h1,h2,h3,h4,h5⟩:=h
 exact ⟨n',n,h2,h1,h4,h3,fun j hj q=>h5 j q hj⟩
theorem Two.mono {w:World} {B g g' k k':Nat} {wd:Int} {tv tv':Value} (h:Two w B g g' wd k tv tv') (hk:k≤k'):Two w B g g' wd k' tv tv':=by
 obtain ⟨n,n',h1,h2,h3,h4,h5⟩:=h
 exact ⟨n,n',Nat.le_trans h1 hk,Nat.le_trans h2 hk,h3,h4,h5⟩
theorem ClimbAt.keep {w w':World} {B g n:Nat} {wd:Int} {tv:Value} (h:ClimbAt w B g wd n tv) (hg:w'.heap[g]?=w.heap[g]?) (ho:∀ j,tv.ownBlock=some j→w'.heap[j]?=w.heap[j]?):ClimbAt w' B g wd n tv:=⟨hg.trans h.1,h.2.imp fun xs q=>⟨own_same q.1 ho,q.2⟩⟩
theorem Two.keep {w w':World} {B g g' k:Nat} {wd:Int} {tv tv':Value} (h:Two w B g g' wd k tv tv') (hg:w'.heap[g]?=w.heap[g]?) (hg':w'.heap[g']?=w.heap[g']?) (ho:∀ j,B≤j→j < w.heap.size→w'.heap[j]?=w.heap[j]?):Two w' B g g' wd k tv tv':=by
 obtain ⟨n,n',h1,h2,h3,h4,h5⟩:=h
 refine ⟨n,n',h1,h2,h3.keep hg fun j hj=>?_,h4.keep hg' fun j hj=>?_,h5⟩
 · obtain ⟨xs,q,-⟩:=h3.2;exact ho j (q.lt j hj).1 (q.lt j hj).2
 · obtain ⟨xs,q,-⟩:=h4.2;exact ho j (q.lt j hj).1 (q.lt j hj).2
theorem two_node (w:World) (B g g' k:Nat) (tv tv':Value) (wd:Int) (h0:-9223372036854775808≤wd) (h1:wd≤9223372036854775807) (h:Two w B g g' wd k tv tv') (hne:g ≠ g') (hk:k≤1000000) (hB:B≤w.heap.size) (l r:Dg) (ht:RoundTab w) (h3:3 < B) (hg:3 < g) (hg':g' < B) :
 Calls Tryz.prog 205 #[.pointer (some ⟨g,0,none⟩),.agg (dgA l.1),.agg (dgA r.1)] w fun e w'=>e=.returned (.agg (dgA (nodeD wd l r).1))∧(∃ tv1,Two w' B g g' wd (k+1) tv1 tv')∧Below 0 w w'∧∀ j,j < B→j ≠ g→w'.heap[j]?=w.heap[j]?:=by
 obtain ⟨n,n',q1,q2,q3,q4,q5⟩:=h
 have hob:∀ j,tv.ownBlock=some j→B≤j∧j < w.heap.size:=fun j hj=>by obtain ⟨xs,q,-⟩:=q3.2;exact q.lt j hj
 have hob':∀ j,tv'.ownBlock=some j→B≤j∧j < w.heap.size:=fun j hj=>by obtain ⟨xs,q,-⟩:=q4.2;exact q.lt j hj
 refine (cnode_any w B g n tv wd h0 h1 q3 (by omega) hB l r ht h3 hg).mono ?_
 rintro e w' ⟨rfl,tv1,c1,f1,a1⟩
 refine ⟨rfl,⟨tv1,n+1,n',by omega,by omega,c1,q4.keep (f1.blk g' q4.lt (fun e=>hne e.symm) (fun e=>by have:=hob g' e.symm;omega)) (fun j hj=>f1.blk j (hob' j hj).2 (fun e=>?_) (fun e=>q5 j e.symm hj)),fun j hj q=>?_⟩,f1.b,fun j hj hn=>f1.blk j (Nat.lt_of_lt_of_le hj hB) hn (fun e=>by have:=hob j e.symm;omega)⟩
 · subst e
   obtain ⟨xs,q,-⟩:=q4.2
   exact own_ne q q3.1 (by decide) hj
 · rcases a1 with e | ⟨x,e,hx⟩
   · rw [e] at hj;exact q5 j hj q
   · rw [e] at hj;have:=Option.some.inj hj;have:=hob' j q;omega
theorem W_appendO {P:Program} {w:World} {o:Oper} {a:Act} {Q:Exit→Act→World→Prop} {K:Act→World→Prop} (s x:Operand) (t:TypeId) (ho:o.op=.call { callee:=.builtin .append,args:=#[s,x],argTypes:=#[t,t] })
 {e:TypeId} {z:Value} {bytes:Nat} (T:Sl P t e z 1 bytes) (base:Nat) (v:Value) (n:Nat) (xs:List Value) (hs:a.eval s=v) (hown:w.ownsRow base e 1 v n xs)
 (v2:Value) (m:Nat) (l:List Value) (hx:a.eval x=v2) (hown2:w.ownsRow base e 1 v2 m l) (h1:∀ u ∈ l,u.oneCell'=true) (hb:(n+m) * bytes≤140737488355328) (hm:n+m≤maxLen) (hbase:base≤w.heap.size)
 (h:∀ v' w',w.grownBy w' v.ownBlock→K (a.put o.dst v') w'):o.wp P a w K Q:=by
 obtain ⟨i,hi,hz0,hz1,hz2⟩:=info_parts T.inf
 rcases hown2.2 with ⟨hv2,h0⟩ | ⟨g2,cap2,cur2,hv2,hg2,hh2,hnc2,hcm2,hcs2,htk2⟩
 · subst hs
   rw [hv2] at hx
   have hh:=h (a.eval s) w ⟨rfl,rfl,rfl,Nat.le_refl _,fun _ _ _=>rfl⟩
   rcases hown.2 with ⟨hv,rfl⟩ | ⟨g,cap,cur,hv,_,_,hnc,_⟩
   · rw [hv] at hh
     unfold Oper.wp
     simp [execOp,ho,resolve,invoke,builtin,hv,hx,Builtin.append_,run_underlying T.und,sizeOf,typeInfo,hi,Builtin.lenOf,Builtin.firstCells,Result.andThen]
     exact hh
   · rw [hv] at hh
     unfold Oper.wp
     simp [execOp,ho,resolve,invoke,builtin,hv,hx,Builtin.append_,run_underlying T.und,sizeOf,typeInfo,hi,Builtin.lenOf,Builtin.firstCells,Result.andThen,hnc,storeCells]
     exact hh
 · obtain ⟨v',w',hr2,h2,h3,_,h5⟩:=run_append_own_at (P:=P) w base t o.type e i z 1 bytes T.und hi hz0 hz1 hz2 T.zs T.pos v n xs hown ⟨g2,0,none⟩ m cap2 l (by rw [hown2.1]) (fun j u hu=>by
    rw [Addr.add_lit,Nat.zero_add,cell_of_row _ _ _ _ _ _ hh2]
    have hj:j < m * 1:=by rw [← hown2.1];exact (List.getElem?_eq_some_iff.1 hu).1
    rw [← htk2,List.getElem?_take,if_pos hj] at hu
    simpa using hu) h1 hm hb hbase
   unfold Oper.wp execOp
   simp only [ho,resolve,invoke,builtin,Sem.run_bind,Sem.run_pure,Result.andThen_ok,List.map_toArray,List.map_cons,List.map_nil,hs,hx,hv2,hr2]
   exact h _ w' h3
theorem S_appendO {P:Program} {w:World} {ops:Array Oper} {o:Oper} {a:Act} {Q:Exit→Act→World→Prop} {K:Act→World→Prop} {E:Prop} (hgd:o.guard=none) (s x:Operand) (t:TypeId) (ho:o.op=.call { callee:=.builtin .append,args:=#[s,x],argTypes:=#[t,t] })
 {e:TypeId} {z:Value} {bytes:Nat} (T:Sl P t e z 1 bytes) (base:Nat) (v:Value) (n:Nat) (xs:List Value) (hs:a.eval s=v) (hown:w.ownsRow base e 1 v n xs)
 (v2:Value) (m:Nat) (l:List Value) (hx:a.eval x=v2) (hown2:w.ownsRow base e 1 v2 m l) (h1:∀ u ∈ l,u.oneCell'=true) (hb:(n+m) * bytes≤140737488355328) (hm:n+m≤maxLen) (hbase:base≤w.heap.size)
 (h:∀ v' w',w.grownBy w' v.ownBlock→K (a.put o.dst v') w'):if Region.wanted o (yielded ops a.tmps)=true then Oper.wp P o a w K Q else E:=by
 rw [if_pos (by simp [Region.wanted,hgd])]
 exact W_appendO s x t ho T base v n xs hs hown v2 m l hx hown2 h1 hb hm hbase h
theorem results_row_row_tmp {P:Program} {fn:Func} {p q u:Tmp} {ty:TypeId} (h:fn.results=#[.cell p ty,.cell q ty,.tmp u]) (tmps:Array Value) (w:World) (g g2:Nat) (t t2:TypeId) (cs cs2:Array Value) (fr fr2:Nat × Nat) (d:TypeDesc)
 (hp:tmps.getD p undef=.pointer (some ⟨g,0,none⟩)) (hg:w.heap[g]?=some (.cells cs t fr)) (hq:tmps.getD q undef=.pointer (some ⟨g2,0,none⟩)) (hg2:w.heap[g2]?=some (.cells cs2 t2 fr2))
 (hu:P.underlying ty=some d) (hd:(match d with | .struct _ | .array _ _=>true | _=>false)=true) (hi:(P.info? ty).map (·.size)=some cs.size) (hi2:(P.info? ty).map (·.size)=some cs2.size) :
 (results fn tmps).run P w=.ok (.tuple #[.agg cs,.agg cs2,tmps.getD u undef]) w:=by
 have e:(results fn tmps).run P w=((asAddr (tmps.getD p undef)).run P w).andThen fun a w₁=>((loadVar ty a).run P w₁).andThen fun v w₂=>((asAddr (tmps.getD q undef)).run P w₂).andThen fun a2 w₃=>((loadVar ty a2).run P w₃).andThen fun v2 w₄=>.ok (.tuple #[v,v2,tmps.getD u undef]) w₄:=by
  simp only [results,h]
  simp [Sem.run_bind,Result.andThen]
 rw [e,hp,hq]
 simp [asAddr,run_loadVar_row w g t ty cs fr d hg hu hd hi,run_loadVar_row w g2 t2 ty cs2 fr2 d hg2 hu hd hi2,Result.andThen]
end
section
open Go.Maps Go.WideMaps Go.ChangeMaps
def foldP (wd:Int):List Dg→Dg
 | []=>nothingD wd
 | [d]=>d
 | d :: e :: r=>nodeD wd d (foldP wd (e :: r))
theorem foldP_step (wd:Int) (ds:List Dg) (q:Nat) (x:Dg) (hx:ds[q]?=some x) (hq:q+1 < ds.length):foldP wd (ds.drop q)=nodeD wd x (foldP wd (ds.drop (q+1))):=by
 obtain ⟨hl,he⟩:=List.getElem?_eq_some_iff.1 hx
 rw [List.drop_eq_getElem_cons hl,he,List.drop_eq_getElem_cons hq]
 rfl
theorem foldP_last (wd:Int) (ds:List Dg) (q:Nat) (x:Dg) (hx:ds[q]?=some x) (hq:q+1=ds.length):foldP wd (ds.drop q)=x:=by
 obtain ⟨hl,he⟩:=List.getElem?_eq_some_iff.1 hx
 rw [List.drop_eq_getElem_cons hl,he,List.drop_eq_nil_of_le (by omega)]
 rfl
theorem load_dig {w:World} {b o:Nat} {D:Array Value} (hc:w.rangeAt b o D.toList) (hs:D.size=32):(Instr.loadAt 38 (.pointer (some ⟨b,o,none⟩))).run Tryz.prog w=.ok (.agg D) w:=by
 have:=run_loadAt_mid (P:=Tryz.prog) w b o 38 D.toList _ hc Tryz.underlying38 rfl (by rw [Array.length_toList,hs];exact info38)
 rwa [Array.toArray_toList] at this
set_option maxHeartbeats 8000000
theorem fold_any (w:World) (wd:Int) (h0:-9223372036854775808≤wd) (h1:wd≤9223372036854775807) (a:Option Addr) (n c:Nat) (ds:List Dg) (hds:DS w a n c ds) (hn:n≤1000000) (h1n:1≤n) (ht:RoundTab w) (h3:3 < w.heap.size) :
 Calls Tryz.prog 63 #[.int .i64 wd,.slice a n c] w fun e w'=>e=.returned (.agg (dgA (foldP wd ds).1))∧Below w.heap.size w w':=by
 have hln:=hds.1
 have hcap:=hds.2.1
 obtain ⟨x,hx⟩:∃ x,ds[n - 1]?=some x:=⟨_,List.getElem?_eq_getElem (by omega)⟩
 obtain ⟨b',off',rfl,hbl,hr⟩:=hds.at hx
 obtain ⟨X,hX⟩:∃ X,X=dgA x.1:=⟨_,rfl⟩
 have hXS:X.size=32:=by rw [hX,dgA_size,x.2]
 have HX1:=hid (show X.all (·.oneCell')=true by rw [hX];exact dgA_all _)
 obtain ⟨rb,hrb⟩:∃ rb,rb=w.heap.size:=⟨_,rfl⟩
 obtain ⟨d5,hd5⟩:∃ d5,d5=rb+1:=⟨_,rfl⟩
 obtain ⟨w1,hw1⟩:∃ w1,w1=w.alloc (.cells (dgA zDg.1) 38):=⟨_,rfl⟩
 have hb1:Below w.heap.size w w1:=by rw [hw1];exact (Below.refl _ _).alloc (Nat.le_refl _) _
 have hz1:w1.heap.size=d5:=by rw [hw1,World.size_alloc];omega
 have hg1:w1.heap[rb]?=some (.cells (dgA zDg.1) 38 (0,0)):=by rw [hw1,hrb];exact heap_alloc_new _ _
 obtain ⟨w2,hw2⟩:∃ w2,w2=w1.alloc (.cells (dgA zDg.1) 38):=⟨_,rfl⟩
 obtain ⟨hb3,hg3,hth⟩:=new_dig w1 X hXS
 rw [← hw2] at hb3 hg3 hth
 rw [hz1] at hb3 hg3 hth
 have hr1:w1.rangeAt b' (off'+(n - 1) * 32) X.toList:=by
  have h9:w1.rangeAt b' (off'+(n - 1) * 32) (x.1.map b8):=fun q v hv=>(World.cell?_of_block (hb1.block b' hbl)).trans (hr q v hv)
  rw [hX];simpa [dgA] using h9
 have HR1:=hid hr1;have HXS:=hid hXS;have HTH:=hid hth
 have hB3:Below w.heap.size w (w2.setCells d5 0 X.toList):=hb1.trans (hb3.mono (by omega))
 have HB3:=hid hB3
 have HG3:=hid hg3
 have HG0:=hid ((hb3.block rb (by omega)).trans hg1)
 have HZ3:=hid hb3.size
 have HDS:=hid hds
 have HH:=hid (And.intro h0 (And.intro h1 (And.intro hn (And.intro h1n (And.intro ht h3)))))
 have HXX:=hid (show foldP wd (ds.drop (n - 1))=x from foldP_last wd ds (n - 1) x hx (by omega))
 have HX:=hid hX
 have HRB:=hid hrb;have HD5:=hid hd5
 have hw1':w.alloc (.cells #[.int .u8 0,.int .u8 0,.int .u8 0,.int .u8 0,.int .u8 0,.int .u8 0,.int .u8 0,.int .u8 0,.int .u8 0,.int .u8 0,.int .u8 0,.int .u8 0,.int .u8 0,.int .u8 0,.int .u8 0,.int .u8 0,.int .u8 0,.int .u8 0,.int .u8 0,.int .u8 0,.int .u8 0,.int .u8 0,.int .u8 0,.int .u8 0,.int .u8 0,.int .u8 0,.int .u8 0,.int .u8 0,.int .u8 0,.int .u8 0,.int .u8 0,.int .u8 0] 38)=w1:=hw1.symm
 have hw2':w1.alloc (.cells #[.int .u8 0,.int .u8 0,.int .u8 0,.int .u8 0,.int .u8 0,.int .u8 0,.int .u8 0,.int .u8 0,.int .u8 0,.int .u8 0,.int .u8 0,.int .u8 0,.int .u8 0,.int .u8 0,.int .u8 0,.int .u8 0,.int .u8 0,.int .u8 0,.int .u8 0,.int .u8 0,.int .u8 0,.int .u8 0,.int .u8 0,.int .u8 0,.int .u8 0,.int .u8 0,.int .u8 0,.int .u8 0,.int .u8 0,.int .u8 0,.int .u8 0,.int .u8 0] 38)=w2:=hw2.symm
 have hz1':w1.heap.size=d5:=hz1
 have hrb':w.heap.size=rb:=hrb.symm
 have b1:((n:Int) == 0)=false:=by simp;omega
 have hn1:(n:Int) - 1=((n - 1:Nat):Int):=by omega
 obtain ⟨m,hm⟩:∃ m,m=n - 1:=⟨_,rfl⟩
 have HM:=hid hm
 rw [← hm] at hn1 HR1 HXX
 have hmn:m < n:=by omega
 have hn2:(n:Int) - 2=(m:Int) - 1:=by omega
 clear hds hln hx hbl hr hXS hX hb1 hz1 hg1 hb3 hg3 hth hr1 hB3 hw1 hw2 h0 h1 ht h3 hrb hd5 hm
 go_enter Tryz.func63,Tryz.ntmps63
 go_wp2_with (first
  | (refine L_load_arr rfl 38 (.tmp 16) (by rfl) b' (off'+m * 32) (by rfl) X _ HR1.out Tryz.underlying38 rfl (by rw [HXS.out];exact info38) ?_)
  | (refine wpList_store_mid rfl 38 (.tmp 5) (.tmp 17) (by rfl) d5 0 X (by rfl) (by rfl) HTH.out (by rw [HXS.out];exact info38) HX1.out ?_))
 generalize w2.setCells d5 0 X.toList=w3 at HB3 HG3 HG0 HZ3 ⊢
 clear b1 hn1 hn2 hz1' hw1' hw2'
 have HW:=hid hrb'
 clear hrb'
 go_loopw [6] (fun v wr=>∃ j:Nat,j≤m∧v=.int .i64 ((j:Int) - 1)∧wr.heap[d5]?=some (.cells (dgA (foldP wd (ds.drop j)).1) 38 (0,0))∧wr.heap[rb]?=some (.cells (dgA zDg.1) 38 (0,0))∧Below w.heap.size w wr) (fun v _=>(intOf v+1).toNat)
 case atStart=>exact ⟨m,Nat.le_refl _,rfl,by rw [HXX.out,← HX.out];simpa using HG3.out,HG0.out,HB3.out⟩
 case round =>
  obtain ⟨j,hj,rfl,hg5,hg0,hb⟩:=hrel
  have HG5:=hid hg5;have HG00:=hid hg0;have HB:=hid hb;have HJ:=hid hj
  by_cases hlt:1≤j
  · obtain ⟨q,hq⟩:∃ q,q=j - 1:=⟨_,rfl⟩
    rw [show (j:Int) - 1=(q:Int) by omega]
    have hqn:q < n:=by omega
    have hq6:q≤1000000:=by have:=HH.out;omega
    obtain ⟨y,hy⟩:∃ y,ds[q]?=some y:=⟨_,List.getElem?_eq_getElem (by have:=HDS.out.1;omega)⟩
    obtain ⟨b2,o2,e2,hbl,hr⟩:=(HDS.out.below hb).at hy
    cases e2
    obtain ⟨Yv,hYv⟩:∃ Yv,Yv=dgA y.1:=⟨_,rfl⟩
    have hYS:Yv.size=32:=by rw [hYv,dgA_size,y.2]
    have hr:wr.rangeAt b' (off'+q * 32) Yv.toList:=by rw [hYv];simpa [dgA] using hr
    obtain ⟨E,hE⟩:∃ E,E=dgA (foldP wd (ds.drop j)).1:=⟨_,rfl⟩
    have hES:E.size=32:=by rw [hE,dgA_size,(foldP wd (ds.drop j)).2]
    obtain ⟨F,hF⟩:∃ F,F=dgA (foldP wd (ds.drop q)).1:=⟨_,rfl⟩
    have hFS:F.size=32:=by rw [hF,dgA_size,(foldP wd (ds.drop q)).2]
    have hst:foldP wd (ds.drop q)=nodeD wd y (foldP wd (ds.drop j)):=by
     have:=foldP_step wd ds q y hy (by have:=HDS.out.1;omega)
     rwa [show q+1=j by omega] at this
    have hnd:Calls Tryz.prog 114 #[.int .i64 wd,.agg Yv,.agg E] wr.drew (fun e w'=>e=.returned (.agg F)∧Below wr.drew.heap.size wr.drew w'):=by
     rw [hYv,hE,hF,hst]
     exact node_any wr.drew wd HH.out.1 HH.out.2.1 y.1 (foldP wd (ds.drop j)).1 y.2 (foldP wd (ds.drop j)).2 (rt_below HH.out.2.2.2.2.1 (show Below w.heap.size w wr.drew from ⟨hb.os,hb.tape,hb.output,hb.size,hb.block⟩) HH.out.2.2.2.2.2) (Nat.lt_of_lt_of_le HH.out.2.2.2.2.2 hb.size)
    rw [← hE] at hg5
    have HND:=hid hnd;have HYS:=hid hYS;have HES:=hid hES;have HFS:=hid hFS
    have HF1:=hid (show F.all (·.oneCell')=true by rw [hF];exact dgA_all _)
    have HLD:=hid (load_dig hr hYS)
    have HL5:=hid (load_dg wr d5 E hg5 hES)
    have HE5:=hid hg5
    have HF:=hid hF
    have HQ:=hid (show q+1=j by omega)
    have HBL:=hid hbl
    have HR:=hid hr
    have h9:decide ((0:Int)≤(q:Int))=true:=by simp
    have hs0:(Instr.loadAt 38 (.pointer (some ⟨b',off'+q * 32,none⟩))).run Tryz.prog wr.drew=.ok (.agg Yv) wr.drew:=load_dig (w:=wr.drew) HR.out HYS.out
    clear hj hg5 hg0 hb hlt hq hy hr hYv hYS hE hES hF hFS hst hnd hbl
    go_upto_region 7 with (fail)
    refine wp_region_held_drew (S:=fun x=>(Instr.loadAt 38 (.pointer (some ⟨b',off'+q * 32,none⟩))).run Tryz.prog x=.ok (.agg Yv) x) (by kernel_rfl) hs0 (fun hHeld=>?_)
    apply wpT 0
    apply wpT 1
    apply wpT 2
    apply wpT 3
    apply wpL 4 (.agg Yv)
    · exact fun w hSw=>exec_load rfl (hSw)
    apply wpR 5
    intro K hK
    refine S_value rfl (exec_load rfl (load_dg wr.drew d5 E HE5.out HES.out)) ?_
    apply bk hK
    · exact hs0
    intro hHeld
    clear hK K
    apply wpR 6
    intro K hK
    go_simp
    refine HND.out.mono ?_
    rintro e w6 ⟨rfl,hb6⟩
    have hb6':Below wr.heap.size wr w6:=⟨hb6.os,hb6.tape,hb6.output,hb6.size,hb6.block⟩
    have hg6:=(hb6'.block d5 (Array.getElem?_eq_some_iff.1 HE5.out).1).trans HE5.out
    have HG06:=hid ((hb6'.block rb (Array.getElem?_eq_some_iff.1 HG00.out).1).trans HG00.out)
    have hr6:w6.rangeAt b' (off'+q * 32) Yv.toList:=fun i v hv=>(World.cell?_of_block (hb6'.block b' HBL.out)).trans (HR.out i v hv)
    have hs6:=load_dig hr6 HYS.out
    have hth6:=there_block hg6
    rw [HES.out] at hth6
    have HTH6:=hid hth6
    have HGF6:=hid (setCells_all hg6 F.toList (by rw [Array.length_toList,HFS.out,HES.out]))
    have hgr6:=setCells_grown d5 F.toList 0 w6
    have HGR6:=hid hgr6
    have HB6:=hid (HB.out.trans (hb6'.mono HB.out.size))
    have hd5b:d5 ≠ b':=by
     have h1:=HDS.out.at (List.getElem?_eq_getElem (show q < ds.length by have:=HDS.out.1;omega))
     obtain ⟨b3,o3,e3,h3,-⟩:=h1
     cases e3
     have:=HRB.out;have:=HD5.out;omega
    have hs7:(Instr.loadAt 38 (.pointer (some ⟨b',off'+q * 32,none⟩))).run Tryz.prog (w6.setCells d5 0 F.toList)=.ok (.agg Yv) (w6.setCells d5 0 F.toList):=load_dig (fun i v hv=>(World.cell?_of_block (hgr6.block b' (Nat.lt_of_lt_of_le HBL.out hb6'.size) (fun e=>hd5b (Option.some.inj e).symm))).trans (hr6 i v hv)) HYS.out
    have hd5rb:d5 ≠ rb:=by have:=HD5.out;omega
    have HG07:=hid ((hgr6.block rb (Array.getElem?_eq_some_iff.1 HG06.out).1 (fun e=>hd5rb (Option.some.inj e).symm)).trans HG06.out)
    clear hb6 hb6' hg6 hth6 hgr6 hd5b hr6
    apply bk hK
    · exact hs6
    intro hHeld
    clear hK K
    apply wpR 7
    intro K hK
    refine S_store_mid rfl 38 (.tmp 5) (.tmp 31) (by rfl) d5 0 F (by rfl) (by rfl) (by rw [HFS.out];exact HTH6.out) (by rw [HFS.out];exact info38) HF1.out ?_
    apply bk hK
    · exact hs7
    intro hHeld
    clear hK K
    refine wpAnyH_done (by kernel_rfl) ?_ _
    clear hs0 hs6 hs7
    have HB7:=hid (HB6.out.grown HGR6.out HB6.out.size (fun k hk=>by rw [← Option.some.inj hk];have:=HRB.out;have:=HD5.out;omega))
    have HG57:=hid (show (w6.setCells d5 0 F.toList).heap[d5]?=some (.cells (dgA (foldP wd (ds.drop q)).1) 38 (0,0)) by rw [← HF.out];simpa using HGF6.out)
    clear h9
    go_wp2_with fail
    refine ⟨⟨q,by have:=HQ.out;have:=HJ.out;omega,rfl,HG57.out,HG07.out,HB7.out⟩,?_⟩
    simp [intOf]
  · obtain rfl:j=0:=by omega
    rw [List.drop_zero] at hg5
    have hth:=there_block hg0
    rw [show (dgA zDg.1).size=32 from rfl] at hth
    have HTH0:=hid hth
    obtain ⟨E,hE⟩:∃ E,E=dgA (foldP wd ds).1:=⟨_,rfl⟩
    have HE:=hid hE
    have HES:=hid (show E.size=32 by rw [hE,dgA_size,(foldP wd ds).2])
    have HE1:=hid (show E.all (·.oneCell')=true by rw [hE];exact dgA_all _)
    rw [← hE] at hg5
    have HL9:=hid hg5
    have HGF:=hid (setCells_all hg0 E.toList (by rw [Array.length_toList,HES.out];rfl))
    rw [show ((0:Nat):Int) - 1=-1 from rfl]
    clear hlt hj hg5 hg0 hb hth hE
    go_wp2_with (first
     | (refine wpList_load_row rfl 38 (.tmp 5) (by rfl) d5 (by rfl) 38 E (0,0) _ HL9.out Tryz.underlying38 rfl (by rw [HES.out];exact info38) ?_)
     | (refine wpList_store_mid rfl 38 (.tmp 4) (.tmp 32) (by rfl) rb 0 E (by rfl) (by rfl) (by rw [HES.out];exact HTH0.out) (by rw [HES.out];exact info38) HE1.out ?_))
    have HB9:=hid (HB.out.grown (setCells_grown rb E.toList 0 wr) HB.out.size (fun k hk=>by rw [← Option.some.inj hk];have:=HRB.out;omega))
    generalize wr.setCells rb 0 E.toList=w9 at *
    have hGF:w9.heap[rb]?=some (.cells E 38 (0,0)):=by have:=HGF.out;simpa using this
    have HGF9:=hid hGF
    refine bodyPost_ret (v:=.agg E) (results_cell_row (p:=4) (ty:=38) rfl _ _ rb 38 E (0,0) _ rfl HGF9.out Tryz.underlying38 rfl (by rw [HES.out];exact info38)) rfl ⟨by rw [HE.out],HB9.out⟩
end
end Go.Proofs.YtgkehahklccacaaGreatDoor
