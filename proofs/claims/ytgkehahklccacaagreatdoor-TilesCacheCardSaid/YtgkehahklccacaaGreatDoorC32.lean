import Derived.Test.YtgkehahklccacaaGreatDoorC03
import Derived.Test.YtgkehahklccacaaGreatDoorC31
namespace Go.Proofs.YtgkehahklccacaaGreatDoor
open Go Go.RowKit
open Go.Lib (hid)
set_option maxRecDepth 100000
set_option maxHeartbeats 1000000
set_option linter.unusedVariables false
set_option linter.unusedSimpArgs false
section
open Go.Maps Go.WideMaps Go.ChangeMaps
noncomputable def wayM (w:World) (u:Value):Nat:=match u with
 | .pointer (some p)=>(match w.heap[p.block]? with | some (.cells c _ _)=>(intOf (c.getD 1 undef) - intOf (c.getD 0 undef)).toNat | _=>0)
 | _=>0
theorem wayM_of {w:World} {g a b:Nat} (h:w.heap[g]?=some (.cells #[.int .i64 (a:Int),.int .i64 (b:Int)] 300 (0,0))):wayM w (.pointer (some ⟨g,0,none⟩))=b - a:=by
 unfold wayM
 dsimp only
 rw [h]
 show ((b:Int) - (a:Int)).toNat=_
 omega
theorem way_next {w W w4:World} {u:Value} {done:List (Nat × Nat)} {g6 a b x y c a' b' j:Nat} {a4:Option Addr} {c4:Nat}
 (hW:Below w.heap.size w W) (hgW:W.heap[g6]?=some (.cells #[.int .i64 (a:Int),.int .i64 (b:Int)] 300 (0,0))) (h6:w.heap.size≤g6) (hne:u.ownBlock ≠ some g6) (hoW:PO W w.heap.size u done)
 (ho4:w4.ownsRow w.heap.size 300 2 (.slice a4 (done.length+1) c4) (done.length+1) (done.flatMap spE++[.int .i64 (x:Int),.int .i64 (y:Int)])) (hg4:(W.alloc (.cells #[.int .i64 (x:Int),.int .i64 (y:Int)] 300)).grownBy w4 u.ownBlock)
 (hat:(Value.slice a4 (done.length+1) c4).ownBlock=u.ownBlock∨(Value.slice a4 (done.length+1) c4).ownBlock=some (W.alloc (.cells #[.int .i64 (x:Int),.int .i64 (y:Int)] 300)).heap.size)
 (hg8:w4.heap[g6]?=some (.cells #[.int .i64 (a:Int),.int .i64 (b:Int)] 300 (0,0))) :
 ((w4.setCell ⟨g6,j,none⟩ (.int .i64 (c:Int))).alloc (.cells #[.int .i64 (a':Int),.int .i64 (b':Int)] 300)).heap[w4.heap.size]?=some (.cells #[.int .i64 (a':Int),.int .i64 (b':Int)] 300 (0,0))∧w.heap.size≤w4.heap.size∧(Value.slice a4 (done.length+1) c4).ownBlock ≠ some w4.heap.size ∧
   PO ((w4.setCell ⟨g6,j,none⟩ (.int .i64 (c:Int))).alloc (.cells #[.int .i64 (a':Int),.int .i64 (b':Int)] 300)) w.heap.size (.slice a4 (done.length+1) c4) (done++[(x,y)])∧Below w.heap.size w ((w4.setCell ⟨g6,j,none⟩ (.int .i64 (c:Int))).alloc (.cells #[.int .i64 (a':Int),.int .i64 (b':Int)] 300)):=by
 obtain ⟨-,hg9⟩:=row_setCell (i:=j) hg8 (.int .i64 (c:Int))
 have hgl:=(Array.getElem?_eq_some_iff.1 hgW).1
 have h1:(W.alloc (.cells #[.int .i64 (x:Int),.int .i64 (y:Int)] 300)).heap.size=W.heap.size+1:=World.size_alloc _ _
 have hown:(Value.slice a4 (done.length+1) c4).ownBlock ≠ some g6:=by
  rcases hat with e | e
  · rw [e];exact hne
  · rw [e,h1];intro q;injection q with q;omega
 have hb4:Below w.heap.size w w4:=(hW.alloc hW.size _).grown hg4 (by rw [h1];have:=hW.size;omega) (fun k hk=>(hoW.lt k hk).1)
 have hz:(w4.setCell ⟨g6,j,none⟩ (.int .i64 (c:Int))).heap.size=w4.heap.size:=World.size_setCell ..
 have hb9:Below w.heap.size w (w4.setCell ⟨g6,j,none⟩ (.int .i64 (c:Int))):=hb4.grown hg9 hb4.size (fun k hk=>by rw [← Option.some.inj hk];exact h6)
 have hp4:PO w4 w.heap.size (.slice a4 (done.length+1) c4) (done++[(x,y)]):=by
  unfold PO
  rw [List.length_append,List.flatMap_append]
  exact ho4
 have hp9:PO (w4.setCell ⟨g6,j,none⟩ (.int .i64 (c:Int))) w.heap.size (.slice a4 (done.length+1) c4) (done++[(x,y)]):=World.ownsRow.kept hp4 hg9 (.inr hown)
 refine ⟨?_,hb4.size,fun e=>?_,World.ownsRow.alloc hp9 _,hb9.alloc hb9.size _⟩
 · rw [← hz];exact heap_alloc_new _ _
 · have:=(World.ownsRow.lt ho4 _ e).2;omega
set_option maxHeartbeats 8000000
theorem way_any (w:World) (size i:Nat) (hi:i < size) (hs:size≤1000000):Calls Tryz.prog 150 #[.int .i64 (size:Int),.int .i64 (i:Int)] w fun e w'=>∃ v,e=.returned v∧PO w' w.heap.size v (wayP size 0 size i).reverse∧Below w.heap.size w w':=by
 have HI:=hid (And.intro hi hs)
 obtain ⟨g0,hg0⟩:∃ g0,g0=w.heap.size:=⟨_,rfl⟩
 obtain ⟨w1,hw1⟩:∃ w1,w1=w.alloc (.cells #[.int .i64 0,.int .i64 (size:Int)] 300):=⟨_,rfl⟩
 have hb1:Below w.heap.size w w1:=by rw [hw1];exact (Below.refl _ _).alloc (Nat.le_refl _) _
 have hg1:w1.heap[g0]?=some (.cells #[.int .i64 0,.int .i64 (size:Int)] 300 (0,0)):=by rw [hw1,hg0];exact heap_alloc_new _ _
 have HB1:=hid hb1;have HG1:=hid hg1;have HG0:=hid hg0
 have hw1':w.alloc (.cells #[.int .i64 0,.int .i64 (size:Int)] 300)=w1:=hw1.symm
 have hg0':w.heap.size=g0:=hg0.symm
 clear hi hs hw1 hb1 hg1 hg0
 go_enter Tryz.func150,Tryz.ntmps150
 go_wp2_with fail
 have HG0':=hid hg0'
 clear hw1' hg0'
 go_loopw [5,6] (fun v u wr=>∃ (f a b g6:Nat) (done:List (Nat × Nat)),u=.pointer (some ⟨g6,0,none⟩)∧wr.heap[g6]?=some (.cells #[.int .i64 (a:Int),.int .i64 (b:Int)] 300 (0,0))∧w.heap.size≤g6∧v.ownBlock ≠ some g6∧PO wr w.heap.size v done∧wayP size 0 size i=done++wayP f a b i∧b - a≤f∧a≤i∧i < b∧b≤size∧done.length+(b - a)≤size∧Below w.heap.size w wr) (fun v u wr=>wayM wr u)
 case atStart=>exact ⟨size,0,size,g0,[],rfl,HG1.out,by rw [HG0.out];exact Nat.le_refl _,(fun e=>by cases e),World.ownsRow_nil _ _ _ _,rfl,by omega,Nat.zero_le _,HI.out.1,Nat.le_refl _,by simp,HB1.out⟩
 case round =>
  obtain ⟨f,a,b,g6,done,rfl,hg,hg6,hne,ho,hway,hf,hai,hib,hbs,hdl,hb⟩:=hrel
  have c0:=(keepS hg).1
  have c1:=(keepS hg).2
  have hs6:=HI.out.2
  have m1:(b:Int) - (a:Int)=((b - a:Nat):Int):=by omega
  by_cases hlt:1 < b - a
  · obtain ⟨f',rfl⟩:∃ f',f=f'+1:=⟨f - 1,by omega⟩
    obtain ⟨l1,l2⟩:=leftP_lt (b - a) (by omega) (by omega)
    obtain ⟨k,hkk⟩:∃ k,k=a+leftP (b - a):=⟨_,rfl⟩
    rw [wayP,if_neg (by omega),← hkk] at hway
    have HTL:=hid (fun wx=>tleft_any wx (b - a) (by omega) (by omega))
    have m2:(a:Int)+(leftP (b - a):Int)=(k:Int):=by omega
    have m3:IntKind.i64.wrap ((b - a:Nat):Int)=((b - a:Nat):Int):=wrapI (by omega) (by omega)
    have m4:IntKind.i64.wrap (k:Int)=(k:Int):=wrapI (by omega) (by omega)
    have m5:IntKind.i64.wrap ((b:Int) - (a:Int))=((b - a:Nat):Int):=by rw [m1,m3]
    have d1:decide ((1:Int) < ((b - a:Nat):Int))=true:=by simp;omega
    have d2:decide (1 < b - a)=true:=by simp;omega
    have hs0:(fun x=>x.cell? ⟨g6,0,none⟩=some (.int .i64 (a:Int))∧x.cell? ⟨g6,1,none⟩=some (.int .i64 (b:Int))) wr.drew:=keepS hg
    have HG:=hid hg;have HO:=hid ho;have HB:=hid hb;have HNE:=hid hne;have HG6:=hid hg6
    have HAB:=hid (And.intro hf (And.intro hai (And.intro hib (And.intro hbs (And.intro hdl (And.intro hkk (And.intro l1 (And.intro l2 hlt))))))))
    have HWAY:=hid hway
    clear hf hai hib hbs hdl hkk l1 l2 hlt hway hg ho hb hne hg6 hs6
    go_upto_region 4 with (fail)
    refine wp_region_held_drew (S:=fun x=>x.cell? ⟨g6,0,none⟩=some (.int .i64 (a:Int))∧x.cell? ⟨g6,1,none⟩=some (.int .i64 (b:Int))) (by kernel_rfl) hs0 (fun hHeld=>?_)
    apply wpT 0
    apply wpT 1
    apply wpT 2
    apply wpT 3
    apply wpT 4
    apply wpT 5
    apply wpT 6
    apply wpR 7
    intro K hK
    go_simp
    refine (HTL.out _).mono ?_
    rintro e w2 ⟨rfl,hw2⟩
    subst hw2
    apply bk hK
    · exact hs0
    intro hHeld
    clear hK K
    apply wpT 8
    apply wpT 9
    refine wpAnyH_done (by kernel_rfl) ?_ _
    clear hs0
    by_cases hik:i < k
    · have d3:decide ((i:Int) < (k:Int))=true:=by simp;omega
      have d4:decide (i < k)=true:=by simp;omega
      have HIK:=hid hik
      clear hik
      obtain ⟨W,hW⟩:∃ W,W=wr.drew:=⟨_,rfl⟩
      have hgW:W.heap[g6]?=some (.cells #[.int .i64 (a:Int),.int .i64 (b:Int)] 300 (0,0)):=by rw [hW];exact HG.out
      have hbW:Below w.heap.size w W:=by rw [hW];have h:=HB.out;exact ⟨h.os,h.tape,h.output,h.size,h.block⟩
      have hoW:PO W w.heap.size u5 done:=by rw [hW];exact HO.out
      rw [← hW]
      have HGW:=hid hgW;have HBW:=hid hbW;have HOW:=hid hoW
      have HQ:=hid (show (done.length+1) * 16≤140737488355328∧done.length+1≤maxLen from ⟨by have:=HAB.out;have:=HI.out;omega,by have:=HAB.out;have:=HI.out;simp [maxLen];omega⟩)
      clear c0 c1 hW hgW hbW hoW
      have c1:=(keepS HGW.out).2
      have HOA:=hid (show (W.alloc (.cells #[.int .i64 (k:Int),.int .i64 (b:Int)] 300)).ownsRow w.heap.size 300 2 u5 _ _ from World.ownsRow.alloc HOW.out _)
      go_wp2_with (at_builtin;refine L_appendN rfl (.tmp 28) (.tmp 33) 227 (by rfl) sl227 w.heap.size u5 _ _ (by rfl) HOA.out ⟨W.heap.size,0,none⟩ 1 1 [.int .i64 (k:Int),.int .i64 (b:Int)] (by rfl) (by rfl) (cellA #[.int .i64 (k:Int),.int .i64 (b:Int)] 300 W) (by intro u hu;simp only [List.mem_cons,List.not_mem_nil,or_false] at hu;rcases hu with rfl | rfl <;> rfl) HQ.out.1 HQ.out.2 (Nat.le_trans HBW.out.size (by simp)) (fun a4 c4 w4 ho4 hg4 hat4=>?_);have hg8:=(hg4.block g6 (by have:=(Array.getElem?_eq_some_iff.1 HGW.out).1;simp;omega) (fun e=>HNE.out e.symm)).trans ((alOld W (.cells #[.int .i64 (k:Int),.int .i64 (b:Int)] 300) g6 (Array.getElem?_eq_some_iff.1 HGW.out).1).trans HGW.out);have f1:=frozen_of_row w4 g6 1 _ _ hg8;have e0:=(keepS hg8).1;have e1:=(keepS hg8).2;have HG8:=hid hg8;have HO4:=hid ho4;have HHG:=hid hg4;have HAT:=hid hat4;clear hg8 ho4 hg4 hat4)
      obtain ⟨n1,n2,n3,n4,n5⟩:=way_next (j:=1) (c:=k) (a':=a) (b':=k) HBW.out HGW.out HG6.out HNE.out HOW.out HO4.out HHG.out HAT.out HG8.out
      refine ⟨⟨f',a,k,w4.heap.size,done++[(k,b)],rfl,n1,n2,n3,n4,?_,?_,?_,?_,?_,?_,n5⟩,?_⟩
      · have h:=HWAY.out
        rw [if_pos HIK.out] at h
        rw [h,List.append_assoc];rfl
      · have:=HAB.out;omega
      · exact HAB.out.2.1
      · exact HIK.out
      · have:=HAB.out;omega
      · have:=HAB.out;rw [List.length_append];show _+1+_≤_;omega
      · rw [wayM_of n1,wayM_of HG.out];have:=HAB.out;omega
    · have d3:decide ((i:Int) < (k:Int))=false:=by simp;omega
      have d4:decide (i < k)=false:=by simp;omega
      have HIK:=hid hik
      clear hik
      obtain ⟨W,hW⟩:∃ W,W=wr.drew:=⟨_,rfl⟩
      have hgW:W.heap[g6]?=some (.cells #[.int .i64 (a:Int),.int .i64 (b:Int)] 300 (0,0)):=by rw [hW];exact HG.out
      have hbW:Below w.heap.size w W:=by rw [hW];have h:=HB.out;exact ⟨h.os,h.tape,h.output,h.size,h.block⟩
      have hoW:PO W w.heap.size u5 done:=by rw [hW];exact HO.out
      rw [← hW]
      have HGW:=hid hgW;have HBW:=hid hbW;have HOW:=hid hoW
      have HQ:=hid (show (done.length+1) * 16≤140737488355328∧done.length+1≤maxLen from ⟨by have:=HAB.out;have:=HI.out;omega,by have:=HAB.out;have:=HI.out;simp [maxLen];omega⟩)
      clear c0 c1 hW hgW hbW hoW
      have c0:=(keepS HGW.out).1
      have HOA:=hid (show (W.alloc (.cells #[.int .i64 (a:Int),.int .i64 (k:Int)] 300)).ownsRow w.heap.size 300 2 u5 _ _ from World.ownsRow.alloc HOW.out _)
      go_wp2_with (at_builtin;refine L_appendN rfl (.tmp 37) (.tmp 42) 227 (by rfl) sl227 w.heap.size u5 _ _ (by rfl) HOA.out ⟨W.heap.size,0,none⟩ 1 1 [.int .i64 (a:Int),.int .i64 (k:Int)] (by rfl) (by rfl) (cellA #[.int .i64 (a:Int),.int .i64 (k:Int)] 300 W) (by intro u hu;simp only [List.mem_cons,List.not_mem_nil,or_false] at hu;rcases hu with rfl | rfl <;> rfl) HQ.out.1 HQ.out.2 (Nat.le_trans HBW.out.size (by simp)) (fun a4 c4 w4 ho4 hg4 hat4=>?_);have hg8:=(hg4.block g6 (by have:=(Array.getElem?_eq_some_iff.1 HGW.out).1;simp;omega) (fun e=>HNE.out e.symm)).trans ((alOld W (.cells #[.int .i64 (a:Int),.int .i64 (k:Int)] 300) g6 (Array.getElem?_eq_some_iff.1 HGW.out).1).trans HGW.out);have f1:=frozen_of_row w4 g6 0 _ _ hg8;have e0:=(keepS hg8).1;have e1:=(keepS hg8).2;have HG8:=hid hg8;have HO4:=hid ho4;have HHG:=hid hg4;have HAT:=hid hat4;clear hg8 ho4 hg4 hat4)
      obtain ⟨n1,n2,n3,n4,n5⟩:=way_next (j:=0) (c:=k) (a':=k) (b':=b) HBW.out HGW.out HG6.out HNE.out HOW.out HO4.out HHG.out HAT.out HG8.out
      refine ⟨⟨f',k,b,w4.heap.size,done++[(a,k)],rfl,n1,n2,n3,n4,?_,?_,?_,?_,?_,?_,n5⟩,?_⟩
      · have h:=HWAY.out
        rw [if_neg HIK.out] at h
        rw [h,List.append_assoc];rfl
      · have:=HAB.out;omega
      · have:=HIK.out;omega
      · exact HAB.out.2.2.1
      · have:=HAB.out;omega
      · have:=HAB.out;rw [List.length_append];show _+1+_≤_;omega
      · rw [wayM_of n1,wayM_of HG.out];have:=HAB.out;omega
  · have hwe:wayP size 0 size i=done:=by
     rw [hway]
     cases f with
     | zero=>rw [wayP,List.append_nil]
     | succ f=>rw [wayP,if_pos (by omega),List.append_nil]
    have d1:decide ((1:Int) < ((b - a:Nat):Int))=false:=by simp;omega
    have d2:decide (1 < b - a)=false:=by simp;omega
    have m3:IntKind.i64.wrap ((b - a:Nat):Int)=((b - a:Nat):Int):=wrapI (by omega) (by omega)
    have m5:IntKind.i64.wrap ((b:Int) - (a:Int))=((b - a:Nat):Int):=by rw [m1,m3]
    have HRV:=hid (reverse_any wr w.heap.size u5 done ho (by omega))
    have HWE:=hid hwe
    have HLT:=hid (fun k hk=>(ho.lt k hk).1)
    have HB:=hid hb
    clear hlt hway hf hai hib hbs hdl hne ho hg hg6 hs6 hwe hb
    go_wp2_with (go_at_call 206;refine HRV.out.mono ?_;rintro e w2 ⟨rfl,hp,hgr⟩)
    go_ret
    rw [HWE.out]
    exact ⟨_,rfl,hp,HB.out.grown hgr HB.out.size HLT.out⟩
end
section
open Go.Maps Go.WideMaps Go.ChangeMaps
set_option maxHeartbeats 8000000
theorem digof62 (w:World) (gA gW:Nat) (wd:Int) (L:List Dg) (gt:Nat) (hwd:1≤wd∧wd≤32) (hA:w.heap[gA]?=some (.cells #[.func (.func 62) #[.pointer (some ⟨gt,0,none⟩)] #[]] 134 (0,0))) (hW:w.heap[gW]?=some (.cells #[.int .i64 wd] 3 (0,0))) (a b:Nat) (hab:a < b) (hal:Al a (b - a)) (hb6:b≤60000) (h4:4≤w.heap.size) (ht:RoundTab w) (htz:TabAt 1 Lib.deBruijn64tab w)
 (hat:∀ (wx:World) (q i:Nat),Below w.heap.size w wx→q < 16→(i+1) * 2 ^ q≤b→Calls Tryz.prog 62 #[.pointer (some ⟨gt,0,none⟩),.agg #[.int .i64 (q:Int),.int .i64 (i:Int)]] wx fun e w'=>e=.returned (.agg (dgA (spotD wd L (q,i)).1))∧Below wx.heap.size wx w') :
 Calls Tryz.prog 203 #[.agg #[.int .i64 (a:Int),.int .i64 (b:Int)],.pointer (some ⟨gA,0,none⟩),.pointer (some ⟨gW,0,none⟩)] w fun e w'=>e=.returned (.agg (dgA (partD wd L (a,b)).1))∧Below w.heap.size w w':=by
 obtain ⟨b3,hb3⟩:∃ b3,b3=w.heap.size:=⟨_,rfl⟩
 obtain ⟨w0,hw0⟩:∃ w0,w0=w.alloc (.cells #[.int .i64 (a:Int),.int .i64 (b:Int)] 300):=⟨_,rfl⟩
 have hb0:Below w.heap.size w w0:=by rw [hw0];exact (Below.refl _ _).alloc (Nat.le_refl _) _
 have hz0:w0.heap.size=b3+1:=by rw [hw0,World.size_alloc];omega
 have hg0:w0.heap[b3]?=some (.cells #[.int .i64 (a:Int),.int .i64 (b:Int)] 300 (0,0)):=by rw [hw0,hb3];exact heap_alloc_new _ _
 obtain ⟨rb,hrb⟩:∃ rb,rb=b3+1:=⟨_,rfl⟩
 obtain ⟨w1,hw1⟩:∃ w1,w1=w0.alloc (.cells (dgA zDg.1) 38):=⟨_,rfl⟩
 have hb1:Below w.heap.size w w1:=by rw [hw1];exact hb0.alloc hb0.size _
 have hz1:w1.heap.size=rb+1:=by rw [hw1,World.size_alloc];omega
 have hg1:w1.heap[rb]?=some (.cells (dgA zDg.1) 38 (0,0)):=by rw [hw1,hrb,← hz0];exact heap_alloc_new _ _
 have hg3:w1.heap[b3]?=some (.cells #[.int .i64 (a:Int),.int .i64 (b:Int)] 300 (0,0)):=by rw [hw1];exact (alOld w0 _ b3 (by omega)).trans hg0
 have p0:=(keepS hg3).1
 have p1:=(keepS hg3).2
 obtain ⟨sp,hsp⟩:∃ sp,sp=spL a (b - a):=⟨_,rfl⟩
 have hlv:=spL_level (b - a) (b - a) a (Nat.le_refl _) hal (by omega)
 rw [← hsp] at hlv
 have hle:=spL_len (b - a) (b - a) a (Nat.le_refl _)
 rw [← hsp] at hle
 have hpos:0 < sp.length:=by rw [hsp,spL_pos _ _ (by omega)];simp
 have hgAl:=(Array.getElem?_eq_some_iff.1 hA).1
 have hgWl:=(Array.getElem?_eq_some_iff.1 hW).1
 have HSP:=hid (show Calls Tryz.prog 61 #[.int .i64 (a:Int),.int .i64 (b:Int)] w1 (fun e w'=>∃ a' m c,e=.returned (.slice a' m c)∧m=sp.length∧w'.ownsRow w1.heap.size 133 2 (.slice a' m c) m (sp.flatMap spE)∧Below w1.heap.size w1 w') by
  have:=spots_any w1 a b (by omega) (by omega) hal (tab_below htz hb1 (by omega)) (by omega)
  rw [← hsp] at this
  exact this)
 have HAT:=hid (fun (wx:World) (hb:Below w.heap.size w wx) (q i:Nat) (hq:(q,i) ∈ sp)=>hat wx q i hb (by
  have hh:=hlv _ hq
  rcases Nat.lt_or_ge q 16 with e | e
  · exact e
  · have:2 ^ 16≤2 ^ q:=Nat.pow_le_pow_right (by decide) e
    have h2:2 ^ q≤b - a:=hh.2
    omega) (by
  have hh:=hlv _ hq
  have h2:i * 2 ^ q+2 ^ q≤a+(b - a):=hh.1
  rw [Nat.add_mul,Nat.one_mul]
  omega))
 have hfo:foldP wd (sp.map (spotD wd L))=partD wd L (a,b):=by rw [hsp];rfl
 have HFOLD:=hid (fun (wx:World) (hb:Below w.heap.size w wx) (a':Option Addr) (m c:Nat) (hds:DS wx a' m c (sp.map (spotD wd L))) (hm:m=sp.length)=>hfo ▸ fold_any wx wd (by omega) (by omega) a' m c _ hds (by omega) (by omega) (rt_below ht hb (by omega)) (by have:=hb.size;omega))
 have HCA:=hid (show ∀ wx,Below w.heap.size w wx→wx.cell? ⟨gA,0,none⟩=some (.func (.func 62) #[.pointer (some ⟨gt,0,none⟩)] #[]) from fun wx hb=>by rw [hb.cell hgAl,cell_of_row _ _ _ _ _ _ hA];rfl)
 have HCW:=hid (show ∀ wx,Below w.heap.size w wx→wx.cell? ⟨gW,0,none⟩=some (.int .i64 wd) from fun wx hb=>by rw [hb.cell hgWl,cell_of_row _ _ _ _ _ _ hW];rfl)
 have HB1:=hid hb1;have HG1:=hid hg1;have HRB:=hid (show w.heap.size≤rb by omega)
 have HN:=hid (And.intro hab (And.intro hb6 (And.intro hle hpos)))
 have hw0':w.alloc (.cells #[.int .i64 (a:Int),.int .i64 (b:Int)] 300)=w0:=hw0.symm
 have hw1':w0.alloc (.cells #[.int .u8 0,.int .u8 0,.int .u8 0,.int .u8 0,.int .u8 0,.int .u8 0,.int .u8 0,.int .u8 0,.int .u8 0,.int .u8 0,.int .u8 0,.int .u8 0,.int .u8 0,.int .u8 0,.int .u8 0,.int .u8 0,.int .u8 0,.int .u8 0,.int .u8 0,.int .u8 0,.int .u8 0,.int .u8 0,.int .u8 0,.int .u8 0,.int .u8 0,.int .u8 0,.int .u8 0,.int .u8 0,.int .u8 0,.int .u8 0,.int .u8 0,.int .u8 0] 38)=w1:=hw1.symm
 have hb3':w.heap.size=b3:=hb3.symm
 have hz0':w0.heap.size=rb:=by omega
 clear hb3 hw0 hb0 hz0 hg0 hrb hw1 hb1 hz1 hg1 hg3 hlv hle hpos hA hW hgAl hgWl hfo h4 ht htz hat hab hal hb6 hsp
 go_enter Tryz.func203,Tryz.ntmps203
 go_wp2_with (go_at_call 61;refine HSP.out.mono ?_;rintro e w3 ⟨a',m,c,rfl,hm,ho,hb3⟩;have HM:=hid hm;have HO:=hid ho;have HB3:=hid (HB1.out.trans (hb3.mono HB1.out.size));have HG3:=hid ((hb3.block rb (Array.getElem?_eq_some_iff.1 HG1.out).1).trans HG1.out);clear hm ho hb3)
 obtain ⟨gs,cs,hsl,hgs,-⟩:=HO.out.form (by rw [HM.out];exact HN.out.2.2.2)
 obtain ⟨rfl,-,rfl⟩:=Value.slice.inj hsl
 have hrs:RS 2 spE w3 (some ⟨gs,0,none⟩) m c sp:=RS.of_owns HO.out (by decide) (fun _=>rfl) (by have:=HM.out;have:=HN.out;omega)
 have HRS:=hid hrs
 clear hrs hsl hgs hw1' hz0' p0 p1 hw0'
 have HW:=hid hb3'
 clear hb3'
 go_loopw [5,14] (fun v u wr=>∃ k:Nat,k≤m∧u=.int .i64 (k:Int)∧wr.ownsRow w3.heap.size 38 32 v k (((sp.take k).map (spotD wd L)).flatMap dgE)∧Below w3.heap.size w3 wr) (fun _ u _=>m - (intOf u).toNat)
 case atStart=>exact ⟨0,Nat.zero_le _,rfl,World.ownsRow_nil _ _ _ _,Below.refl _ _⟩
 case round =>
  obtain ⟨k,hk,rfl,ho,hb⟩:=hrel
  have HO:=hid ho;have HB:=hid hb;have HK:=hid hk
  by_cases hlt:k < m
  · obtain ⟨s,hs⟩:∃ s,sp[k]?=some s:=⟨_,List.getElem?_eq_getElem (by have:=HM.out;omega)⟩
    obtain ⟨q,i⟩:=s
    have hmem:(q,i) ∈ sp:=List.mem_of_getElem? hs
    obtain ⟨E,hE⟩:∃ E,E=dgA (spotD wd L (q,i)).1:=⟨_,rfl⟩
    have hES:E.size=32:=by rw [hE,dgA_size,(spotD wd L (q,i)).2]
    have HE1:=hid (show ∀ u ∈ E.toList,u.oneCell'=true from fun u hu=>by
     rw [hE] at hu
     exact Array.all_eq_true'.1 (dgA_all _) u (Array.mem_toList_iff.1 hu))
    obtain ⟨D,hD⟩:∃ D:Array Value,D=#[.int .i64 (q:Int),.int .i64 (i:Int)]:=⟨_,rfl⟩
    have hDS:D.size=2:=by rw [hD];rfl
    have HD1:=hid (show D.all (·.oneCell')=true by rw [hD];exact all_oneCell_toArray (cs:=[.int .i64 (q:Int),.int .i64 (i:Int)]) (by intro v hv;simp only [List.mem_cons,List.not_mem_nil,or_false] at hv;rcases hv with rfl | rfl <;> rfl))
    have hat:=fun (wx:World) (hb:Below w.heap.size w wx)=>HAT.out wx hb q i hmem
    rw [← hD,← hE] at hat
    have HATK:=hid hat
    have hr:wr.rangeAt gs (0+k * 2) #[.int .i64 (q:Int),.int .i64 (i:Int)].toList:=fun j v hv=>(hb.cell (World.block_lt_of_cell? w3 _ (HRS.out.cell k (q,i) hs j v hv))).trans (HRS.out.cell k (q,i) hs j v hv)
    rw [← hD] at hr
    obtain ⟨r0,hr0⟩:∃ r0,r0=wr.heap.size:=⟨_,rfl⟩
    obtain ⟨w4,hw4⟩:∃ w4,w4=wr.alloc (.cells #[.int .i64 0,.int .i64 0] 133):=⟨_,rfl⟩
    have hO4:w4.heap[r0]?=some (.cells #[.int .i64 0,.int .i64 0] 133 (0,0)):=by rw [hw4,hr0];exact heap_alloc_new _ _
    have hth:w4.there r0 0 2:=there_block hO4
    have h1:=setCells_all hO4 D.toList (by rw [Array.length_toList,hDS];rfl)
    have hb4:Below wr.heap.size wr w4:=by rw [hw4];exact (Below.refl _ _).alloc (Nat.le_refl _) _
    have hb5:Below wr.heap.size wr (w4.setCells r0 0 D.toList):=hb4.grown (setCells_grown _ _ _ _) hb4.size (fun k hk=>by rw [← Option.some.inj hk];omega)
    have HB5:=hid hb5
    have HG5:=hid (show (w4.setCells r0 0 D.toList).heap[r0]?=some (.cells D 133 (0,0)) by simpa using h1)
    have HDS:=hid hDS
    have HTH:=hid hth
    have HR:=hid hr
    have HES:=hid hES
    have HMEM:=hid hmem
    have HHE:=hid hE
    have HS:=hid (show (((sp.take (k+1)).map (spotD wd L)).flatMap dgE)=((sp.take k).map (spotD wd L)).flatMap dgE++E.toList by
     rw [List.take_add_one,hs,hE];simp [dgE,dgA])
    have hw4':wr.alloc (.cells #[.int .i64 0,.int .i64 0] 133)=w4:=hw4.symm
    have hr0':wr.heap.size=r0:=hr0.symm
    have h9:decide ((k:Int) < (m:Int))=true:=by simp;omega
    have h8:decide (k < m)=true:=by simp;omega
    have HLT:=hid hlt
    have hk6:k≤1000000:=by have:=HM.out;have:=HN.out;omega
    have HK6:=hid hk6
    have q1:=HCA.out _ (HB3.out.trans ((hb.trans (hb5.mono hb.size)).mono HB3.out.size))
    clear hk ho hb hlt hs hmem hE hES hr hr0 hw4 hO4 hth h1 hb4 hb5 hD hDS hat
    go_wp2_with (first
     | (refine L_load_arr rfl 133 (.tmp 16) (by rfl) gs (0+k * 2) (by simp only [Nat.zero_add];rfl) D _ HR.out Tryz.underlying133 rfl (by rw [HDS.out];exact info133) ?_)
     | (refine wpList_store_mid rfl 133 (.tmp 7) (.tmp 17) (by rfl) r0 0 D (by rfl) (by rfl) (by rw [HDS.out];exact HTH.out) (by rw [HDS.out];exact info133) HD1.out ?_)
     | (refine wpList_load_row rfl 133 (.tmp 7) (by rfl) r0 (by rfl) 133 D (0,0) _ HG5.out Tryz.underlying133 rfl (by rw [HDS.out];exact info133) ?_)
     | (go_at_call 62;refine (HATK.out _ (HB3.out.trans ((HB.out.trans (HB5.out.mono HB.out.size)).mono HB3.out.size))).mono ?_;rintro e w6 ⟨rfl,hb6⟩;have HB6:=hid (HB5.out.trans (hb6.mono HB5.out.size));clear hb6)
     | (refine L_build1 rfl (.tmp 21) (by rfl) E (by rfl) HES.out ?_;have ho6:=(own_below HO.out HB6.out).alloc (.cells E 38);have hc6:∀ j u,E.toList[j]?=some u→(w6.alloc (.cells E 38)).cell? ((⟨w6.heap.size,0,none⟩:Addr).add j)=some u:=fun j u hu=>cellA E 38 w6 j u hu;have hb6:=HB6.out.alloc HB6.out.size (.cells E 38);have hs6:w3.heap.size≤(w6.alloc (.cells E 38)).heap.size:=Nat.le_trans HB.out.size hb6.size;refine L_appendN rfl (.tmp 18) (.tmp 22) 23 (by rfl) sl23 w3.heap.size _ k _ (by rfl) ho6 ⟨w6.heap.size,0,none⟩ 1 1 E.toList (by rfl) (by rw [Array.length_toList,HES.out]) hc6 HE1.out (by have:=HK6.out;omega) (by have:=HK6.out;simp [maxLen];omega) hs6 (fun a8 c8 w8 ho8 hg8 hat8=>?_);have HO8:=hid ho8;have HB8:=hid ((HB.out.trans (hb6.mono HB.out.size)).grown hg8 (Nat.le_trans HB.out.size hb6.size) (fun k hk=>(ho6.lt k hk).1));clear ho8 hg8 hat8 ho6 hc6 hb6 hs6))
    refine ⟨⟨k+1,HLT.out,by push_cast;rfl,by rw [HS.out];exact HO8.out,HB8.out⟩,?_⟩
    have:=HLT.out
    simp [intOf];omega
  · obtain rfl:k=m:=by omega
    have htk:sp.take k=sp:=List.take_of_length_le (by rw [HM.out];exact Nat.le_refl _)
    rw [htk] at ho
    obtain ⟨g7,c7,rfl,hg7,-⟩:=ho.form (by rw [HM.out];exact HN.out.2.2.2)
    have hds:=DS.of_owns ho (by have:=HM.out;have:=HN.out;omega)
    have hbw:=HB3.out.trans (hb.mono HB3.out.size)
    obtain ⟨E,hE⟩:∃ E,E=dgA (partD wd L (a,b)).1:=⟨_,rfl⟩
    have hfo:=HFOLD.out wr hbw _ _ _ hds HM.out
    rw [← hE] at hfo
    have HFO:=hid hfo
    have HE:=hid hE
    have HES:=hid (show E.size=32 by rw [hE,dgA_size,(partD wd L (a,b)).2])
    have HE1:=hid (show E.all (·.oneCell')=true by rw [hE];exact dgA_all _)
    have c3:=HCW.out wr hbw
    have HBW:=hid hbw
    have HGR:=hid ((hb.block rb (Array.getElem?_eq_some_iff.1 HG3.out).1).trans HG3.out)
    have h9:decide ((k:Int) < (k:Int))=false:=by simp
    have h8:decide (k < k)=false:=by simp
    clear ho hb hbw hds hfo hE hlt hk htk hg7
    go_wp2_with (first
     | (go_at_call 63;refine HFO.out.mono ?_;rintro e w6 ⟨rfl,hb6⟩;have HB6:=hid (HBW.out.trans (hb6.mono HBW.out.size));have HG6:=hid ((hb6.block rb (Array.getElem?_eq_some_iff.1 HGR.out).1).trans HGR.out);have HTH6:=hid (there_block HG6.out);clear hb6)
     | (refine wpList_store_mid rfl 38 (.tmp 4) (.tmp 27) (by rfl) rb 0 E (by rfl) (by rfl) (by rw [HES.out];exact HTH6.out) (by rw [HES.out];exact info38) HE1.out ?_))
    have HGF:=hid (setCells_all HG6.out E.toList (by rw [Array.length_toList,HES.out];rfl))
    have HB9:=hid (HB6.out.grown (setCells_grown rb E.toList 0 w6) HB6.out.size (fun k hk=>by rw [← Option.some.inj hk];exact HRB.out))
    have HGF9:=hid (show (w6.setCells rb 0 E.toList).heap[rb]?=some (.cells E 38 (0,0)) by have:=HGF.out;simpa using this)
    generalize w6.setCells rb 0 E.toList=w9 at *
    clear HTH6 HGF
    refine bodyPost_ret (v:=.agg E) (results_cell_row (p:=4) (ty:=38) rfl _ _ rb 38 E (0,0) _ rfl HGF9.out Tryz.underlying38 rfl (by rw [HES.out];exact info38)) rfl ⟨by rw [HE.out],HB9.out⟩
theorem digof76 (w:World) (gA gW:Nat) (wd:Int) (L:List Dg) (x0 x1:Value) (hwd:1≤wd∧wd≤32) (hA:w.heap[gA]?=some (.cells #[.func (.func 76) #[] #[x0,x1]] 134 (0,0))) (hW:w.heap[gW]?=some (.cells #[.int .i64 wd] 3 (0,0))) (a b:Nat) (hab:a < b) (hal:Al a (b - a)) (hb6:b≤60000) (h4:4≤w.heap.size) (ht:RoundTab w) (htz:TabAt 1 Lib.deBruijn64tab w)
 (hat:∀ (wx:World) (q i:Nat),Below w.heap.size w wx→q < 16→(i+1) * 2 ^ q≤b→Calls Tryz.prog 76 #[.agg #[.int .i64 (q:Int),.int .i64 (i:Int)],x0,x1] wx fun e w'=>e=.returned (.agg (dgA (spotD wd L (q,i)).1))∧Below wx.heap.size wx w') :
 Calls Tryz.prog 203 #[.agg #[.int .i64 (a:Int),.int .i64 (b:Int)],.pointer (some ⟨gA,0,none⟩),.pointer (some ⟨gW,0,none⟩)] w fun e w'=>e=.returned (.agg (dgA (partD wd L (a,b)).1))∧Below w.heap.size w w':=by
 obtain ⟨b3,hb3⟩:∃ b3,b3=w.heap.size:=⟨_,rfl⟩
 obtain ⟨w0,hw0⟩:∃ w0,w0=w.alloc (.cells #[.int .i64 (a:Int),.int .i64 (b:Int)] 300):=⟨_,rfl⟩
 have hb0:Below w.heap.size w w0:=by rw [hw0];exact (Below.refl _ _).alloc (Nat.le_refl _) _
 have hz0:w0.heap.size=b3+1:=by rw [hw0,World.size_alloc];omega
 have hg0:w0.heap[b3]?=some (.cells #[.int .i64 (a:Int),.int .i64 (b:Int)] 300 (0,0)):=by rw [hw0,hb3];exact heap_alloc_new _ _
 obtain ⟨rb,hrb⟩:∃ rb,rb=b3+1:=⟨_,rfl⟩
 obtain ⟨w1,hw1⟩:∃ w1,w1=w0.alloc (.cells (dgA zDg.1) 38):=⟨_,rfl⟩
 have hb1:Below w.heap.size w w1:=by rw [hw1];exact hb0.alloc hb0.size _
 have hz1:w1.heap.size=rb+1:=by rw [hw1,World.size_alloc];omega
 have hg1:w1.heap[rb]?=some (.cells (dgA zDg.1) 38 (0,0)):=by rw [hw1,hrb,← hz0];exact heap_alloc_new _ _
 have hg3:w1.heap[b3]?=some (.cells #[.int .i64 (a:Int),.int .i64 (b:Int)] 300 (0,0)):=by rw [hw1];exact (alOld w0 _ b3 (by omega)).trans hg0
 have p0:=(keepS hg3).1
 have p1:=(keepS hg3).2
 obtain ⟨sp,hsp⟩:∃ sp,sp=spL a (b - a):=⟨_,rfl⟩
 have hlv:=spL_level (b - a) (b - a) a (Nat.le_refl _) hal (by omega)
 rw [← hsp] at hlv
 have hle:=spL_len (b - a) (b - a) a (Nat.le_refl _)
 rw [← hsp] at hle
 have hpos:0 < sp.length:=by rw [hsp,spL_pos _ _ (by omega)];simp
 have hgAl:=(Array.getElem?_eq_some_iff.1 hA).1
 have hgWl:=(Array.getElem?_eq_some_iff.1 hW).1
 have HSP:=hid (show Calls Tryz.prog 61 #[.int .i64 (a:Int),.int .i64 (b:Int)] w1 (fun e w'=>∃ a' m c,e=.returned (.slice a' m c)∧m=sp.length∧w'.ownsRow w1.heap.size 133 2 (.slice a' m c) m (sp.flatMap spE)∧Below w1.heap.size w1 w') by
  have:=spots_any w1 a b (by omega) (by omega) hal (tab_below htz hb1 (by omega)) (by omega)
  rw [← hsp] at this
  exact this)
 have HAT:=hid (fun (wx:World) (hb:Below w.heap.size w wx) (q i:Nat) (hq:(q,i) ∈ sp)=>hat wx q i hb (by
  have hh:=hlv _ hq
  rcases Nat.lt_or_ge q 16 with e | e
  · exact e
  · have:2 ^ 16≤2 ^ q:=Nat.pow_le_pow_right (by decide) e
    have h2:2 ^ q≤b - a:=hh.2
    omega) (by
  have hh:=hlv _ hq
  have h2:i * 2 ^ q+2 ^ q≤a+(b - a):=hh.1
  rw [Nat.add_mul,Nat.one_mul]
  omega))
 have hfo:foldP wd (sp.map (spotD wd L))=partD wd L (a,b):=by rw [hsp];rfl
 have HFOLD:=hid (fun (wx:World) (hb:Below w.heap.size w wx) (a':Option Addr) (m c:Nat) (hds:DS wx a' m c (sp.map (spotD wd L))) (hm:m=sp.length)=>hfo ▸ fold_any wx wd (by omega) (by omega) a' m c _ hds (by omega) (by omega) (rt_below ht hb (by omega)) (by have:=hb.size;omega))
 have HCA:=hid (show ∀ wx,Below w.heap.size w wx→wx.cell? ⟨gA,0,none⟩=some (.func (.func 76) #[] #[x0,x1]) from fun wx hb=>by rw [hb.cell hgAl,cell_of_row _ _ _ _ _ _ hA];rfl)
 have HCW:=hid (show ∀ wx,Below w.heap.size w wx→wx.cell? ⟨gW,0,none⟩=some (.int .i64 wd) from fun wx hb=>by rw [hb.cell hgWl,cell_of_row _ _ _ _ _ _ hW];rfl)
 have HB1:=hid hb1;have HG1:=hid hg1;have HRB:=hid (show w.heap.size≤rb by omega)
 have HN:=hid (And.intro hab (And.intro hb6 (And.intro hle hpos)))
 have hw0':w.alloc (.cells #[.int .i64 (a:Int),.int .i64 (b:Int)] 300)=w0:=hw0.symm
 have hw1':w0.alloc (.cells #[.int .u8 0,.int .u8 0,.int .u8 0,.int .u8 0,.int .u8 0,.int .u8 0,.int .u8 0,.int .u8 0,.int .u8 0,.int .u8 0,.int .u8 0,.int .u8 0,.int .u8 0,.int .u8 0,.int .u8 0,.int .u8 0,.int .u8 0,.int .u8 0,.int .u8 0,.int .u8 0,.int .u8 0,.int .u8 0,.int .u8 0,.int .u8 0,.int .u8 0,.int .u8 0,.int .u8 0,.int .u8 0,.int .u8 0,.int .u8 0,.int .u8 0,.int .u8 0] 38)=w1:=hw1.symm
 have hb3':w.heap.size=b3:=hb3.symm
 have hz0':w0.heap.size=rb:=by omega
 clear hb3 hw0 hb0 hz0 hg0 hrb hw1 hb1 hz1 hg1 hg3 hlv hle hpos hA hW hgAl hgWl hfo h4 ht htz hat hab hal hb6 hsp
 go_enter Tryz.func203,Tryz.ntmps203
 go_wp2_with (go_at_call 61;refine HSP.out.mono ?_;rintro e w3 ⟨a',m,c,rfl,hm,ho,hb3⟩;have HM:=hid hm;have HO:=hid ho;have HB3:=hid (HB1.out.trans (hb3.mono HB1.out.size));have HG3:=hid ((hb3.block rb (Array.getElem?_eq_some_iff.1 HG1.out).1).trans HG1.out);clear hm ho hb3)
 obtain ⟨gs,cs,hsl,hgs,-⟩:=HO.out.form (by rw [HM.out];exact HN.out.2.2.2)
 obtain ⟨rfl,-,rfl⟩:=Value.slice.inj hsl
 have hrs:RS 2 spE w3 (some ⟨gs,0,none⟩) m c sp:=RS.of_owns HO.out (by decide) (fun _=>rfl) (by have:=HM.out;have:=HN.out;omega)
 have HRS:=hid hrs
 clear hrs hsl hgs hw1' hz0' p0 p1 hw0'
 have HW:=hid hb3'
 clear hb3'
 go_loopw [5,14] (fun v u wr=>∃ k:Nat,k≤m∧u=.int .i64 (k:Int)∧wr.ownsRow w3.heap.size 38 32 v k (((sp.take k).map (spotD wd L)).flatMap dgE)∧Below w3.heap.size w3 wr) (fun _ u _=>m - (intOf u).toNat)
 case atStart=>exact ⟨0,Nat.zero_le _,rfl,World.ownsRow_nil _ _ _ _,Below.refl _ _⟩
 case round =>
  obtain ⟨k,hk,rfl,ho,hb⟩:=hrel
  have HO:=hid ho;have HB:=hid hb;have HK:=hid hk
  by_cases hlt:k < m
  · obtain ⟨s,hs⟩:∃ s,sp[k]?=some s:=⟨_,List.getElem?_eq_getElem (by have:=HM.out;omega)⟩
    obtain ⟨q,i⟩:=s
    have hmem:(q,i) ∈ sp:=List.mem_of_getElem? hs
    obtain ⟨E,hE⟩:∃ E,E=dgA (spotD wd L (q,i)).1:=⟨_,rfl⟩
    have hES:E.size=32:=by rw [hE,dgA_size,(spotD wd L (q,i)).2]
    have HE1:=hid (show ∀ u ∈ E.toList,u.oneCell'=true from fun u hu=>by
     rw [hE] at hu
     exact Array.all_eq_true'.1 (dgA_all _) u (Array.mem_toList_iff.1 hu))
    obtain ⟨D,hD⟩:∃ D:Array Value,D=#[.int .i64 (q:Int),.int .i64 (i:Int)]:=⟨_,rfl⟩
    have hDS:D.size=2:=by rw [hD];rfl
    have HD1:=hid (show D.all (·.oneCell')=true by rw [hD];exact all_oneCell_toArray (cs:=[.int .i64 (q:Int),.int .i64 (i:Int)]) (by intro v hv;simp only [List.mem_cons,List.not_mem_nil,or_false] at hv;rcases hv with rfl | rfl <;> rfl))
    have hat:=fun (wx:World) (hb:Below w.heap.size w wx)=>HAT.out wx hb q i hmem
    rw [← hD,← hE] at hat
    have HATK:=hid hat
    have hr:wr.rangeAt gs (0+k * 2) #[.int .i64 (q:Int),.int .i64 (i:Int)].toList:=fun j v hv=>(hb.cell (World.block_lt_of_cell? w3 _ (HRS.out.cell k (q,i) hs j v hv))).trans (HRS.out.cell k (q,i) hs j v hv)
    rw [← hD] at hr
    obtain ⟨r0,hr0⟩:∃ r0,r0=wr.heap.size:=⟨_,rfl⟩
    obtain ⟨w4,hw4⟩:∃ w4,w4=wr.alloc (.cells #[.int .i64 0,.int .i64 0] 133):=⟨_,rfl⟩
    have hO4:w4.heap[r0]?=some (.cells #[.int .i64 0,.int .i64 0] 133 (0,0)):=by rw [hw4,hr0];exact heap_alloc_new _ _
    have hth:w4.there r0 0 2:=there_block hO4
    have h1:=setCells_all hO4 D.toList (by rw [Array.length_toList,hDS];rfl)
    have hb4:Below wr.heap.size wr w4:=by rw [hw4];exact (Below.refl _ _).alloc (Nat.le_refl _) _
    have hb5:Below wr.heap.size wr (w4.setCells r0 0 D.toList):=hb4.grown (setCells_grown _ _ _ _) hb4.size (fun k hk=>by rw [← Option.some.inj hk];omega)
    have HB5:=hid hb5
    have HG5:=hid (show (w4.setCells r0 0 D.toList).heap[r0]?=some (.cells D 133 (0,0)) by simpa using h1)
    have HDS:=hid hDS
    have HTH:=hid hth
    have HR:=hid hr
    have HES:=hid hES
    have HMEM:=hid hmem
    have HHE:=hid hE
    have HS:=hid (show (((sp.take (k+1)).map (spotD wd L)).flatMap dgE)=((sp.take k).map (spotD wd L)).flatMap dgE++E.toList by
     rw [List.take_add_one,hs,hE];simp [dgE,dgA])
    have hw4':wr.alloc (.cells #[.int .i64 0,.int .i64 0] 133)=w4:=hw4.symm
    have hr0':wr.heap.size=r0:=hr0.symm
    have h9:decide ((k:Int) < (m:Int))=true:=by simp;omega
    have h8:decide (k < m)=true:=by simp;omega
    have HLT:=hid hlt
    have hk6:k≤1000000:=by have:=HM.out;have:=HN.out;omega
    have HK6:=hid hk6
    have q1:=HCA.out _ (HB3.out.trans ((hb.trans (hb5.mono hb.size)).mono HB3.out.size))
    clear hk ho hb hlt hs hmem hE hES hr hr0 hw4 hO4 hth h1 hb4 hb5 hD hDS hat
    go_wp2_with (first
     | (refine L_load_arr rfl 133 (.tmp 16) (by rfl) gs (0+k * 2) (by simp only [Nat.zero_add];rfl) D _ HR.out Tryz.underlying133 rfl (by rw [HDS.out];exact info133) ?_)
     | (refine wpList_store_mid rfl 133 (.tmp 7) (.tmp 17) (by rfl) r0 0 D (by rfl) (by rfl) (by rw [HDS.out];exact HTH.out) (by rw [HDS.out];exact info133) HD1.out ?_)
     | (refine wpList_load_row rfl 133 (.tmp 7) (by rfl) r0 (by rfl) 133 D (0,0) _ HG5.out Tryz.underlying133 rfl (by rw [HDS.out];exact info133) ?_)
     | (go_at_call 76;refine (HATK.out _ (HB3.out.trans ((HB.out.trans (HB5.out.mono HB.out.size)).mono HB3.out.size))).mono ?_;rintro e w6 ⟨rfl,hb6⟩;have HB6:=hid (HB5.out.trans (hb6.mono HB5.out.size));clear hb6)
     | (refine L_build1 rfl (.tmp 21) (by rfl) E (by rfl) HES.out ?_;have ho6:=(own_below HO.out HB6.out).alloc (.cells E 38);have hc6:∀ j u,E.toList[j]?=some u→(w6.alloc (.cells E 38)).cell? ((⟨w6.heap.size,0,none⟩:Addr).add j)=some u:=fun j u hu=>cellA E 38 w6 j u hu;have hb6:=HB6.out.alloc HB6.out.size (.cells E 38);have hs6:w3.heap.size≤(w6.alloc (.cells E 38)).heap.size:=Nat.le_trans HB.out.size hb6.size;refine L_appendN rfl (.tmp 18) (.tmp 22) 23 (by rfl) sl23 w3.heap.size _ k _ (by rfl) ho6 ⟨w6.heap.size,0,none⟩ 1 1 E.toList (by rfl) (by rw [Array.length_toList,HES.out]) hc6 HE1.out (by have:=HK6.out;omega) (by have:=HK6.out;simp [maxLen];omega) hs6 (fun a8 c8 w8 ho8 hg8 hat8=>?_);have HO8:=hid ho8;have HB8:=hid ((HB.out.trans (hb6.mono HB.out.size)).grown hg8 (Nat.le_trans HB.out.size hb6.size) (fun k hk=>(ho6.lt k hk).1));clear ho8 hg8 hat8 ho6 hc6 hb6 hs6))
    refine ⟨⟨k+1,HLT.out,by push_cast;rfl,by rw [HS.out];exact HO8.out,HB8.out⟩,?_⟩
    have:=HLT.out
    simp [intOf];omega
  · obtain rfl:k=m:=by omega
    have htk:sp.take k=sp:=List.take_of_length_le (by rw [HM.out];exact Nat.le_refl _)
    rw [htk] at ho
    obtain ⟨g7,c7,rfl,hg7,-⟩:=ho.form (by rw [HM.out];exact HN.out.2.2.2)
    have hds:=DS.of_owns ho (by have:=HM.out;have:=HN.out;omega)
    have hbw:=HB3.out.trans (hb.mono HB3.out.size)
    obtain ⟨E,hE⟩:∃ E,E=dgA (partD wd L (a,b)).1:=⟨_,rfl⟩
    have hfo:=HFOLD.out wr hbw _ _ _ hds HM.out
    rw [← hE] at hfo
    have HFO:=hid hfo
    have HE:=hid hE
    have HES:=hid (show E.size=32 by rw [hE,dgA_size,(partD wd L (a,b)).2])
    have HE1:=hid (show E.all (·.oneCell')=true by rw [hE];exact dgA_all _)
    have c3:=HCW.out wr hbw
    have HBW:=hid hbw
    have HGR:=hid ((hb.block rb (Array.getElem?_eq_some_iff.1 HG3.out).1).trans HG3.out)
    have h9:decide ((k:Int) < (k:Int))=false:=by simp
    have h8:decide (k < k)=false:=by simp
    clear ho hb hbw hds hfo hE hlt hk htk hg7
    go_wp2_with (first
     | (go_at_call 63;refine HFO.out.mono ?_;rintro e w6 ⟨rfl,hb6⟩;have HB6:=hid (HBW.out.trans (hb6.mono HBW.out.size));have HG6:=hid ((hb6.block rb (Array.getElem?_eq_some_iff.1 HGR.out).1).trans HGR.out);have HTH6:=hid (there_block HG6.out);clear hb6)
     | (refine wpList_store_mid rfl 38 (.tmp 4) (.tmp 27) (by rfl) rb 0 E (by rfl) (by rfl) (by rw [HES.out];exact HTH6.out) (by rw [HES.out];exact info38) HE1.out ?_))
    have HGF:=hid (setCells_all HG6.out E.toList (by rw [Array.length_toList,HES.out];rfl))
    have HB9:=hid (HB6.out.grown (setCells_grown rb E.toList 0 w6) HB6.out.size (fun k hk=>by rw [← Option.some.inj hk];exact HRB.out))
    have HGF9:=hid (show (w6.setCells rb 0 E.toList).heap[rb]?=some (.cells E 38 (0,0)) by have:=HGF.out;simpa using this)
    generalize w6.setCells rb 0 E.toList=w9 at *
    clear HTH6 HGF
    refine bodyPost_ret (v:=.agg E) (results_cell_row (p:=4) (ty:=38) rfl _ _ rb 38 E (0,0) _ rfl HGF9.out Tryz.underlying38 rfl (by rw [HES.out];exact info38)) rfl ⟨by rw [HE.out],HB9.out⟩
end
end Go.Proofs.YtgkehahklccacaaGreatDoor
