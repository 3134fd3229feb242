import Derived.Test.YtgkehahklccacaaGreatDoorC03
import Derived.Test.YtgkehahklccacaaGreatDoorC30
import Derived.Test.YtgkehahklccacaaGreatDoorCL5
namespace Go.Proofs.YtgkehahklccacaaGreatDoor
open Go Go.RowKit
open Go.Lib (hid)
set_option maxRecDepth 100000
set_option maxHeartbeats 1000000
set_option linter.unusedVariables false
set_option linter.unusedSimpArgs false
section
open Go.Maps Go.WideMaps Go.ChangeMaps
def JointC (f:Nat):Prop:=∀ (w:World) (a b old:Nat) (whole:Bool),b - a≤f→a < old→old≤b→b≤1000000 →
 Calls Tryz.prog 204 #[.agg #[.int .i64 (a:Int),.int .i64 (b:Int)],.int .i64 (old:Int),.bool whole] w fun e w'=>∃ v,e=.returned v∧PO w' w.heap.size v (jointP f a b old whole)∧Below w.heap.size w w'
theorem wrapI {x:Int} (h0:-9223372036854775808≤x) (h1:x < 9223372036854775808):IntKind.i64.wrap x=x:=by
 simp [IntKind.wrap,IntKind.bits,IntKind.signed];omega
theorem one_part (w:World) (a b:Nat):PO (w.alloc (.cells #[.int .i64 (a:Int),.int .i64 (b:Int)] 300)) w.heap.size (.slice (some ⟨w.heap.size,0,none⟩) 1 1) [(a,b)] :=
 ⟨rfl,.inr ⟨w.heap.size,1,_,rfl,Nat.le_refl _,heap_alloc_new _ _,Nat.le_refl _,by decide,rfl,rfl⟩⟩
theorem PO.mono {w:World} {B B':Nat} {v:Value} {l:List (Nat × Nat)} (h:PO w B v l) (hb:B'≤B):PO w B' v l:=⟨h.1,h.2.imp id fun ⟨g,cap,cur,hv,hg,r⟩=>⟨g,cap,cur,hv,Nat.le_trans hb hg,r⟩⟩
theorem PO.below {w w':World} {B:Nat} {v:Value} {l:List (Nat × Nat)} (h:PO w B v l) (hb:Below w.heap.size w w'):PO w' B v l:=own_below h hb
theorem joint_len:∀ (f a b old:Nat) (whole:Bool),b - a≤f→a < old→old≤b→b≤1000000→(jointP f a b old whole).length≤b - a:=by
 intro f
 induction f with
 | zero=>intro a b old whole h h1 h2;omega
 | succ f ih =>
   intro a b old whole hf h1 h2 h3
   rw [jointP]
   by_cases he:old=b
   · rw [if_pos he]
     split
     · exact Nat.zero_le _
     · show 1≤_;omega
   · obtain ⟨l1,l2⟩:=leftP_lt (b - a) (by omega) (by omega)
     rw [if_neg he]
     split
     · rename_i hk
       have:=ih a (a+leftP (b - a)) old whole (by omega) h1 hk (by omega)
       rw [List.length_append];show _+1≤_;omega
     · rename_i hk
       have:=ih (a+leftP (b - a)) b old false (by omega) (by omega) h2 h3
       rw [List.length_append];show _+1≤_;omega
theorem keepS {w:World} {b3 a b:Nat} (h:w.heap[b3]?=some (.cells #[.int .i64 (a:Int),.int .i64 (b:Int)] 300 (0,0))):w.cell? ⟨b3,0,none⟩=some (.int .i64 (a:Int))∧w.cell? ⟨b3,1,none⟩=some (.int .i64 (b:Int)) :=
 ⟨by rw [cell_of_row _ _ _ _ _ _ h];rfl,by rw [cell_of_row _ _ _ _ _ _ h];rfl⟩
set_option maxHeartbeats 8000000
theorem joint_base (w:World) (f a b:Nat) (whole:Bool):Calls Tryz.prog 204 #[.agg #[.int .i64 (a:Int),.int .i64 (b:Int)],.int .i64 (b:Int),.bool whole] w fun e w'=>∃ v,e=.returned v∧PO w' w.heap.size v (jointP (f+1) a b b whole)∧Below w.heap.size w w':=by
 rw [jointP,if_pos rfl]
 obtain ⟨b3,hb3⟩:∃ b3,b3=w.heap.size:=⟨_,rfl⟩
 obtain ⟨w1,hw1⟩:∃ w1,w1=w.alloc (.cells #[.int .i64 (a:Int),.int .i64 (b:Int)] 300):=⟨_,rfl⟩
 have hb1:Below w.heap.size w w1:=by rw [hw1];exact (Below.refl _ _).alloc (Nat.le_refl _) _
 have hz1:w1.heap.size=b3+1:=by rw [hw1,World.size_alloc];omega
 have hg1:w1.heap[b3]?=some (.cells #[.int .i64 (a:Int),.int .i64 (b:Int)] 300 (0,0)):=by rw [hw1,hb3];exact heap_alloc_new _ _
 have c0:w1.cell? ⟨b3,0,none⟩=some (.int .i64 (a:Int)):=by rw [cell_of_row _ _ _ _ _ _ hg1];rfl
 have c1:w1.cell? ⟨b3,1,none⟩=some (.int .i64 (b:Int)):=by rw [cell_of_row _ _ _ _ _ _ hg1];rfl
 have HB1:=hid hb1;have HG1:=hid hg1;have HB3:=hid hb3;have HZ1:=hid hz1
 have hw1':w.alloc (.cells #[.int .i64 (a:Int),.int .i64 (b:Int)] 300)=w1:=hw1.symm
 have hb3':w.heap.size=b3:=hb3.symm
 have b1:((b:Int) == (b:Int))=true:=by simp
 clear hb3 hw1 hb1 hz1 hg1
 cases whole
 · have HP:=hid ((one_part w1 a b).mono HB1.out.size)
   go_enter Tryz.func204,Tryz.ntmps204
   go_wp2_with fail
   go_ret
   rw [← hb3']
   exact ⟨_,rfl,HP.out,HB1.out.alloc HB1.out.size _⟩
 · go_enter Tryz.func204,Tryz.ntmps204
   go_wp2_with fail
   go_ret
   rw [← hb3']
   exact ⟨_,rfl,World.ownsRow_nil _ _ _ _,HB1.out⟩
theorem joint_low (f:Nat) (ih:JointC f) (w:World) (a b old:Nat) (whole:Bool) (hf:b - a≤f+1) (hao:a < old) (hob:old < b) (hb6:b≤1000000) (hk:old≤a+leftP (b - a)):Calls Tryz.prog 204 #[.agg #[.int .i64 (a:Int),.int .i64 (b:Int)],.int .i64 (old:Int),.bool whole] w fun e w'=>∃ v,e=.returned v∧PO w' w.heap.size v (jointP (f+1) a b old whole)∧Below w.heap.size w w':=by
 rw [jointP,if_neg (by omega),if_pos hk]
 obtain ⟨l1,l2⟩:=leftP_lt (b - a) (by omega) (by omega)
 obtain ⟨k,hkk⟩:∃ k,k=a+leftP (b - a):=⟨_,rfl⟩
 rw [← hkk] at hk ⊢
 obtain ⟨b3,hb3⟩:∃ b3,b3=w.heap.size:=⟨_,rfl⟩
 obtain ⟨w1,hw1⟩:∃ w1,w1=w.alloc (.cells #[.int .i64 (a:Int),.int .i64 (b:Int)] 300):=⟨_,rfl⟩
 have hb1:Below w.heap.size w w1:=by rw [hw1];exact (Below.refl _ _).alloc (Nat.le_refl _) _
 have hz1:w1.heap.size=b3+1:=by rw [hw1,World.size_alloc];omega
 have hg1:w1.heap[b3]?=some (.cells #[.int .i64 (a:Int),.int .i64 (b:Int)] 300 (0,0)):=by rw [hw1,hb3];exact heap_alloc_new _ _
 have c0:w1.cell? ⟨b3,0,none⟩=some (.int .i64 (a:Int)):=by rw [cell_of_row _ _ _ _ _ _ hg1];rfl
 have c1:w1.cell? ⟨b3,1,none⟩=some (.int .i64 (b:Int)):=by rw [cell_of_row _ _ _ _ _ _ hg1];rfl
 have HB1:=hid hb1;have HG1:=hid hg1;have HB3:=hid hb3;have HZ1:=hid hz1
 have hw1':w.alloc (.cells #[.int .i64 (a:Int),.int .i64 (b:Int)] 300)=w1:=hw1.symm
 have hb3':w.heap.size=b3:=hb3.symm
 have HTL:=hid (fun wx=>tleft_any wx (b - a) (by omega) (by omega))
 have m1:(b:Int) - (a:Int)=((b - a:Nat):Int):=by omega
 have m3:IntKind.i64.wrap ((b - a:Nat):Int)=((b - a:Nat):Int):=wrapI (by omega) (by omega)
 have m4:IntKind.i64.wrap (k:Int)=(k:Int):=wrapI (by omega) (by omega)
 have m5:IntKind.i64.wrap ((b:Int) - (a:Int))=((b - a:Nat):Int):=by rw [m1,m3]
 have m2:(a:Int)+(leftP (b - a):Int)=(k:Int):=by omega
 have HIH:=hid (fun wx=>ih wx a k old whole (by omega) hao hk (by omega))
 have d1:((old:Int) == (b:Int))=false:=by simp;omega
 have d2:decide ((old:Int)≤(k:Int))=true:=by simp;omega
 have d3:decide (old≤k)=true:=by simp;omega
 have d4:(old == b)=false:=by simp;omega
 have d5:decide (old=b)=false:=by simp;omega
 have hs0:(fun x=>x.cell? ⟨b3,0,none⟩=some (.int .i64 (a:Int))∧x.cell? ⟨b3,1,none⟩=some (.int .i64 (b:Int))) w1.drew:=⟨c0,c1⟩
 have HS:=hid hs0
 have HKB:=hid (show k≤1000000∧(jointP f a k old whole).length≤1000000 from ⟨by omega,by have:=joint_len f a k old whole (by omega) hao hk (by omega);omega⟩)
 clear hb3 hw1 hb1 hz1 hg1 hf hao hob hb6 hk hkk l1 l2
 go_enter Tryz.func204,Tryz.ntmps204
 go_upto_region 5 with (fail)
 refine wp_region_held_drew (S:=fun x=>x.cell? ⟨b3,0,none⟩=some (.int .i64 (a:Int))∧x.cell? ⟨b3,1,none⟩=some (.int .i64 (b:Int))) (by kernel_rfl) hs0 (fun hHeld=>?_)
 apply wpT 0
 apply wpT 1
 apply wpT 2
 apply wpT 3
 apply wpT 4
 apply wpT 5
 apply wpT 6
 apply wpR 7
 intro K hK
 go_simp
 refine (HTL.out _).mono ?_
 rintro e w2 ⟨rfl,hw2⟩
 subst hw2
 apply bk hK
 · exact hs0
 intro hHeld
 clear hK K
 apply wpT 8
 apply wpT 9
 refine wpAnyH_done (by kernel_rfl) ?_ _
 go_upto_region 7 with (fail)
 obtain ⟨w5,hw5⟩:∃ w5,w5=w1.drew:=⟨_,rfl⟩
 have hb5:Below w.heap.size w w5.drew:=by rw [hw5];have h:=HB1.out;exact ⟨h.os,h.tape,h.output,h.size,h.block⟩
 have hg5:w5.drew.heap[b3]?=some (.cells #[.int .i64 (a:Int),.int .i64 (b:Int)] 300 (0,0)):=by rw [hw5];exact HG1.out
 have hz5:w5.drew.heap.size=b3+1:=by rw [hw5];exact HZ1.out
 rw [← hw5]
 have hs5:=keepS hg5
 have HB5:=hid hb5;have HG5:=hid hg5;have HZ5:=hid hz5
 have HQ:=hid (show ((jointP f a k old whole).length+1) * 16≤140737488355328∧(jointP f a k old whole).length+1≤maxLen from ⟨by have:=HKB.out;omega,by have:=HKB.out;simp [maxLen];omega⟩)
 clear hs0 hw5 hb5 hg5 hz5 c0 c1
 refine wp_region_held_drew (S:=fun x=>x.cell? ⟨b3,0,none⟩=some (.int .i64 (a:Int))∧x.cell? ⟨b3,1,none⟩=some (.int .i64 (b:Int))) (by kernel_rfl) hs5 (fun hHeld=>?_)
 apply wpT 0
 apply wpT 1
 apply wpT 2
 apply wpT 3
 apply wpT 4
 apply wpT 5
 apply wpT 7
 apply wpT 8
 apply wpT 9
 apply wpT 10
 refine wpAnyH_ready (rs:=[6,11]) (by kernel_rfl) (by simp) ?_
 refine AllReadyH.cons (o:=_) rfl (fun K hK=>?_) (AllReadyH.cons (o:=_) rfl (fun K hK=>?_) AllReadyH.nil)
 · go_simp
   refine (HIH.out _).mono ?_
   rintro e w6 ⟨v,rfl,hp6,hb6⟩
   rw [HZ5.out] at hp6 hb6
   have hg6:=(hb6.block b3 (by omega)).trans HG5.out
   have HG6:=hid hg6;have HB6:=hid (HB5.out.trans (hb6.mono (by have:=HB3.out;omega)));have HP6:=hid hp6;have HZ6:=hid (show b3+1≤w6.heap.size from by have:=hb6.size;rw [HZ5.out] at this;exact this)
   clear hb6 hp6
   apply bk hK
   · exact (keepS hg6)
   intro hHeld
   clear hK K
   apply wpR 11
   intro K hK
   refine S_value rfl (exec_build1 (e:=300) (D:=#[.int .i64 (k:Int),.int .i64 (b:Int)]) (by rfl) (by rfl) (by rfl) (by rfl) (by rfl) (by rfl) (by decide) (by decide)) ?_
   clear hg6
   have hc7:=cellA #[.int .i64 (k:Int),.int .i64 (b:Int)] 300 w6
   have hp7:(w6.alloc (.cells #[.int .i64 (k:Int),.int .i64 (b:Int)] 300)).ownsRow (b3+1) 300 2 v _ _:=World.ownsRow.alloc HP6.out _
   have hb7:=HB6.out.alloc HB6.out.size (.cells #[.int .i64 (k:Int),.int .i64 (b:Int)] 300)
   have hg7:=(alOld w6 (.cells #[.int .i64 (k:Int),.int .i64 (b:Int)] 300) b3 (Array.getElem?_eq_some_iff.1 HG6.out).1).trans HG6.out
   have hz7:b3+1≤(w6.alloc (.cells #[.int .i64 (k:Int),.int .i64 (b:Int)] 300)).heap.size:=by rw [World.size_alloc];have:=HZ6.out;omega
   obtain ⟨r6,hr6⟩:∃ r6,r6=w6.heap.size:=⟨_,rfl⟩
   rw [← hr6] at hc7 ⊢
   generalize w6.alloc (.cells #[.int .i64 (k:Int),.int .i64 (b:Int)] 300)=w7 at hc7 hp7 hb7 hg7 hz7 ⊢
   have HC7:=hid hc7;have HP7:=hid hp7;have HB7:=hid hb7;have HG7:=hid hg7;have HZ7:=hid hz7
   clear hc7 hp7 hb7 hr6 hz7
   apply bk hK
   · exact (keepS hg7)
   intro hHeld
   clear hK K
   apply wpR 12
   intro K hK
   clear hg7
   refine S_appendN rfl (.tmp 33) (.tmp 38) 227 (by rfl) sl227 (b3+1) v _ _ (by rfl) HP7.out ⟨r6,0,none⟩ 1 1 [.int .i64 (k:Int),.int .i64 (b:Int)] (by rfl) (by rfl) HC7.out (by intro u hu;simp only [List.mem_cons,List.not_mem_nil,or_false] at hu;rcases hu with rfl | rfl <;> rfl) HQ.out.1 HQ.out.2 HZ7.out (fun a4 c4 w4 ho4 hg4 hat4=>?_)
   have hb8:=HB7.out.grown hg4 HB7.out.size (fun q hq=>by have:=(HP7.out.lt q hq).1;have:=HB3.out;omega)
   have hg8:=(hg4.block b3 (Array.getElem?_eq_some_iff.1 HG7.out).1 (fun e=>by have:=(HP7.out.lt b3 e.symm).1;omega)).trans HG7.out
   have hp8:PO w4 w.heap.size (.slice a4 ((jointP f a k old whole).length+1) c4) (jointP f a k old whole++[(k,b)]):=by
    refine PO.mono (B:=b3+1) ?_ (by have:=HB3.out;omega)
    unfold PO
    rw [List.length_append,List.flatMap_append]
    exact ho4
   have HO8:=hid hp8;have HB8:=hid hb8
   clear ho4 hg4 hat4 hb8 hp8
   apply bk hK
   · exact (keepS hg8)
   intro hHeld
   clear hK K
   apply wpT 13
   refine wpAnyH_done (by kernel_rfl) ?_ _
   clear hg8
   go_wp2_with fail
   go_ret
   rw [← hb3']
   exact ⟨_,rfl,HO8.out,HB8.out⟩
 · refine S_value rfl (exec_build1 (e:=300) (D:=#[.int .i64 (k:Int),.int .i64 (b:Int)]) (by rfl) (by rfl) (by rfl) (by rfl) (by rfl) (by rfl) (by decide) (by decide)) ?_
   have hc6:=cellA #[.int .i64 (k:Int),.int .i64 (b:Int)] 300 w5.drew
   have hb6:=HB5.out.alloc HB5.out.size (.cells #[.int .i64 (k:Int),.int .i64 (b:Int)] 300)
   have hg6:=(alOld w5.drew (.cells #[.int .i64 (k:Int),.int .i64 (b:Int)] 300) b3 (Array.getElem?_eq_some_iff.1 HG5.out).1).trans HG5.out
   have hz6:(w5.drew.alloc (.cells #[.int .i64 (k:Int),.int .i64 (b:Int)] 300)).heap.size=b3+2:=by rw [World.size_alloc,HZ5.out]
   obtain ⟨r6,hr6⟩:∃ r6,r6=w5.drew.heap.size:=⟨_,rfl⟩
   have hr7:r6=b3+1:=hr6.trans HZ5.out
   rw [← hr6] at hc6 ⊢
   generalize w5.drew.alloc (.cells #[.int .i64 (k:Int),.int .i64 (b:Int)] 300)=w6 at hc6 hb6 hg6 hz6 ⊢
   have HC6:=hid hc6;have HB6:=hid hb6;have HG6:=hid hg6;have HZ6:=hid hz6;have HR7:=hid hr7
   clear hc6 hb6 hr6 hz6 hr7
   apply bk hK
   · exact (keepS hg6)
   intro hHeld
   clear hK K
   apply wpR 6
   intro K hK
   go_simp
   clear hg6
   refine (HIH.out _).mono ?_
   rintro e w7 ⟨v,rfl,hp7,hb7⟩
   rw [HZ6.out] at hp7 hb7
   have hg7:=(hb7.block b3 (by omega)).trans HG6.out
   have HG7:=hid hg7;have HB7:=hid (HB6.out.trans (hb7.mono (by have:=HB3.out;omega)));have HP7:=hid (hp7.mono (show b3+1≤b3+2 by omega));have HZ7:=hid (show b3+1≤w7.heap.size from by have:=hb7.size;rw [HZ6.out] at this;omega)
   have HC7:=hid (show ∀ (i:Nat) (u:Value),(#[.int .i64 (k:Int),.int .i64 (b:Int)]:Array Value).toList[i]?=some u→w7.cell? ((⟨r6,0,none⟩:Addr).add i)=some u from fun i u h=>by
    have hc:=HC6.out i u h
    have ea:(⟨r6,0,none⟩:Addr).add i=⟨r6,i,none⟩:=by by_cases h0:i=0 <;> simp [Addr.add,h0]
    rw [ea] at hc ⊢
    exact (World.cell?_of_block (hb7.block r6 (by have:=HR7.out;omega))).trans hc)
   clear hp7 hb7
   apply bk hK
   · exact (keepS hg7)
   intro hHeld
   clear hK K
   apply wpR 12
   intro K hK
   clear hg7
   refine S_appendN rfl (.tmp 33) (.tmp 38) 227 (by rfl) sl227 (b3+1) v _ _ (by rfl) HP7.out ⟨r6,0,none⟩ 1 1 [.int .i64 (k:Int),.int .i64 (b:Int)] (by rfl) (by rfl) HC7.out (by intro u hu;simp only [List.mem_cons,List.not_mem_nil,or_false] at hu;rcases hu with rfl | rfl <;> rfl) HQ.out.1 HQ.out.2 HZ7.out (fun a4 c4 w4 ho4 hg4 hat4=>?_)
   have hb8:=HB7.out.grown hg4 HB7.out.size (fun q hq=>by have:=(HP7.out.lt q hq).1;have:=HB3.out;omega)
   have hg8:=(hg4.block b3 (Array.getElem?_eq_some_iff.1 HG7.out).1 (fun e=>by have:=(HP7.out.lt b3 e.symm).1;omega)).trans HG7.out
   have hp8:PO w4 w.heap.size (.slice a4 ((jointP f a k old whole).length+1) c4) (jointP f a k old whole++[(k,b)]):=by
    refine PO.mono (B:=b3+1) ?_ (by have:=HB3.out;omega)
    unfold PO
    rw [List.length_append,List.flatMap_append]
    exact ho4
   have HO8:=hid hp8;have HB8:=hid hb8
   clear ho4 hg4 hat4 hb8 hp8
   apply bk hK
   · exact (keepS hg8)
   intro hHeld
   clear hK K
   apply wpT 13
   refine wpAnyH_done (by kernel_rfl) ?_ _
   clear hg8
   go_wp2_with fail
   go_ret
   rw [← hb3']
   exact ⟨_,rfl,HO8.out,HB8.out⟩
theorem joint_high (f:Nat) (ih:JointC f) (w:World) (a b old:Nat) (whole:Bool) (hf:b - a≤f+1) (hao:a < old) (hob:old < b) (hb6:b≤1000000) (hk:¬ old≤a+leftP (b - a)):Calls Tryz.prog 204 #[.agg #[.int .i64 (a:Int),.int .i64 (b:Int)],.int .i64 (old:Int),.bool whole] w fun e w'=>∃ v,e=.returned v∧PO w' w.heap.size v (jointP (f+1) a b old whole)∧Below w.heap.size w w':=by
 rw [jointP,if_neg (by omega),if_neg hk]
 obtain ⟨l1,l2⟩:=leftP_lt (b - a) (by omega) (by omega)
 obtain ⟨k,hkk⟩:∃ k,k=a+leftP (b - a):=⟨_,rfl⟩
 rw [← hkk] at hk ⊢
 obtain ⟨b3,hb3⟩:∃ b3,b3=w.heap.size:=⟨_,rfl⟩
 obtain ⟨w1,hw1⟩:∃ w1,w1=w.alloc (.cells #[.int .i64 (a:Int),.int .i64 (b:Int)] 300):=⟨_,rfl⟩
 have hb1:Below w.heap.size w w1:=by rw [hw1];exact (Below.refl _ _).alloc (Nat.le_refl _) _
 have hz1:w1.heap.size=b3+1:=by rw [hw1,World.size_alloc];omega
 have hg1:w1.heap[b3]?=some (.cells #[.int .i64 (a:Int),.int .i64 (b:Int)] 300 (0,0)):=by rw [hw1,hb3];exact heap_alloc_new _ _
 have c0:w1.cell? ⟨b3,0,none⟩=some (.int .i64 (a:Int)):=by rw [cell_of_row _ _ _ _ _ _ hg1];rfl
 have c1:w1.cell? ⟨b3,1,none⟩=some (.int .i64 (b:Int)):=by rw [cell_of_row _ _ _ _ _ _ hg1];rfl
 have HB1:=hid hb1;have HG1:=hid hg1;have HB3:=hid hb3;have HZ1:=hid hz1
 have hw1':w.alloc (.cells #[.int .i64 (a:Int),.int .i64 (b:Int)] 300)=w1:=hw1.symm
 have hb3':w.heap.size=b3:=hb3.symm
 have HTL:=hid (fun wx=>tleft_any wx (b - a) (by omega) (by omega))
 have m1:(b:Int) - (a:Int)=((b - a:Nat):Int):=by omega
 have m3:IntKind.i64.wrap ((b - a:Nat):Int)=((b - a:Nat):Int):=wrapI (by omega) (by omega)
 have m4:IntKind.i64.wrap (k:Int)=(k:Int):=wrapI (by omega) (by omega)
 have m5:IntKind.i64.wrap ((b:Int) - (a:Int))=((b - a:Nat):Int):=by rw [m1,m3]
 have m2:(a:Int)+(leftP (b - a):Int)=(k:Int):=by omega
 have HIH:=hid (fun wx=>ih wx k b old false (by omega) (by omega) (by omega) hb6)
 have d1:((old:Int) == (b:Int))=false:=by simp;omega
 have d2:decide ((old:Int)≤(k:Int))=false:=by simp;omega
 have d3:decide (old≤k)=false:=by simp;omega
 have d4:(old == b)=false:=by simp;omega
 have d5:decide (old=b)=false:=by simp;omega
 have hs0:(fun x=>x.cell? ⟨b3,0,none⟩=some (.int .i64 (a:Int))∧x.cell? ⟨b3,1,none⟩=some (.int .i64 (b:Int))) w1.drew:=⟨c0,c1⟩
 have HS:=hid hs0
 have HKB:=hid (show k≤1000000∧(jointP f k b old false).length≤1000000 from ⟨by omega,by have:=joint_len f k b old false (by omega) (by omega) (by omega) hb6;omega⟩)
 clear hb3 hw1 hb1 hz1 hg1 hf hao hob hb6 hk hkk l1 l2
 go_enter Tryz.func204,Tryz.ntmps204
 go_upto_region 5 with (fail)
 refine wp_region_held_drew (S:=fun x=>x.cell? ⟨b3,0,none⟩=some (.int .i64 (a:Int))∧x.cell? ⟨b3,1,none⟩=some (.int .i64 (b:Int))) (by kernel_rfl) hs0 (fun hHeld=>?_)
 apply wpT 0
 apply wpT 1
 apply wpT 2
 apply wpT 3
 apply wpT 4
 apply wpT 5
 apply wpT 6
 apply wpR 7
 intro K hK
 go_simp
 refine (HTL.out _).mono ?_
 rintro e w2 ⟨rfl,hw2⟩
 subst hw2
 apply bk hK
 · exact hs0
 intro hHeld
 clear hK K
 apply wpT 8
 apply wpT 9
 refine wpAnyH_done (by kernel_rfl) ?_ _
 go_upto_region 8 with (fail)
 obtain ⟨w5,hw5⟩:∃ w5,w5=w1.drew:=⟨_,rfl⟩
 have hb5:Below w.heap.size w w5.drew:=by rw [hw5];have h:=HB1.out;exact ⟨h.os,h.tape,h.output,h.size,h.block⟩
 have hg5:w5.drew.heap[b3]?=some (.cells #[.int .i64 (a:Int),.int .i64 (b:Int)] 300 (0,0)):=by rw [hw5];exact HG1.out
 have hz5:w5.drew.heap.size=b3+1:=by rw [hw5];exact HZ1.out
 rw [← hw5]
 have hs5:=keepS hg5
 have HB5:=hid hb5;have HG5:=hid hg5;have HZ5:=hid hz5
 have HQ:=hid (show ((jointP f k b old false).length+1) * 16≤140737488355328∧(jointP f k b old false).length+1≤maxLen from ⟨by have:=HKB.out;omega,by have:=HKB.out;simp [maxLen];omega⟩)
 clear hs0 hw5 hb5 hg5 hz5 c0 c1
 refine wp_region_held_drew (S:=fun x=>x.cell? ⟨b3,0,none⟩=some (.int .i64 (a:Int))∧x.cell? ⟨b3,1,none⟩=some (.int .i64 (b:Int))) (by kernel_rfl) hs5 (fun hHeld=>?_)
 apply wpT 0
 apply wpT 1
 apply wpT 2
 apply wpT 3
 apply wpT 4
 apply wpT 6
 apply wpT 7
 apply wpT 8
 apply wpT 9
 refine wpAnyH_ready (rs:=[5,10]) (by kernel_rfl) (by simp) ?_
 refine AllReadyH.cons (o:=_) rfl (fun K hK=>?_) (AllReadyH.cons (o:=_) rfl (fun K hK=>?_) AllReadyH.nil)
 · go_simp
   refine (HIH.out _).mono ?_
   rintro e w6 ⟨v,rfl,hp6,hb6⟩
   rw [HZ5.out] at hp6 hb6
   have hg6:=(hb6.block b3 (by omega)).trans HG5.out
   have HG6:=hid hg6;have HB6:=hid (HB5.out.trans (hb6.mono (by have:=HB3.out;omega)));have HP6:=hid hp6;have HZ6:=hid (show b3+1≤w6.heap.size from by have:=hb6.size;rw [HZ5.out] at this;exact this)
   clear hb6 hp6
   apply bk hK
   · exact (keepS hg6)
   intro hHeld
   clear hK K
   apply wpR 10
   intro K hK
   refine S_value rfl (exec_build1 (e:=300) (D:=#[.int .i64 (a:Int),.int .i64 (k:Int)]) (by rfl) (by rfl) (by rfl) (by rfl) (by rfl) (by rfl) (by decide) (by decide)) ?_
   clear hg6
   have hc7:=cellA #[.int .i64 (a:Int),.int .i64 (k:Int)] 300 w6
   have hp7:(w6.alloc (.cells #[.int .i64 (a:Int),.int .i64 (k:Int)] 300)).ownsRow (b3+1) 300 2 v _ _:=World.ownsRow.alloc HP6.out _
   have hb7:=HB6.out.alloc HB6.out.size (.cells #[.int .i64 (a:Int),.int .i64 (k:Int)] 300)
   have hg7:=(alOld w6 (.cells #[.int .i64 (a:Int),.int .i64 (k:Int)] 300) b3 (Array.getElem?_eq_some_iff.1 HG6.out).1).trans HG6.out
   have hz7:b3+1≤(w6.alloc (.cells #[.int .i64 (a:Int),.int .i64 (k:Int)] 300)).heap.size:=by rw [World.size_alloc];have:=HZ6.out;omega
   obtain ⟨r6,hr6⟩:∃ r6,r6=w6.heap.size:=⟨_,rfl⟩
   rw [← hr6] at hc7 ⊢
   generalize w6.alloc (.cells #[.int .i64 (a:Int),.int .i64 (k:Int)] 300)=w7 at hc7 hp7 hb7 hg7 hz7 ⊢
   have HC7:=hid hc7;have HP7:=hid hp7;have HB7:=hid hb7;have HG7:=hid hg7;have HZ7:=hid hz7
   clear hc7 hp7 hb7 hr6 hz7
   apply bk hK
   · exact (keepS hg7)
   intro hHeld
   clear hK K
   apply wpR 11
   intro K hK
   clear hg7
   refine S_appendN rfl (.tmp 45) (.tmp 50) 227 (by rfl) sl227 (b3+1) v _ _ (by rfl) HP7.out ⟨r6,0,none⟩ 1 1 [.int .i64 (a:Int),.int .i64 (k:Int)] (by rfl) (by rfl) HC7.out (by intro u hu;simp only [List.mem_cons,List.not_mem_nil,or_false] at hu;rcases hu with rfl | rfl <;> rfl) HQ.out.1 HQ.out.2 HZ7.out (fun a4 c4 w4 ho4 hg4 hat4=>?_)
   have hb8:=HB7.out.grown hg4 HB7.out.size (fun q hq=>by have:=(HP7.out.lt q hq).1;have:=HB3.out;omega)
   have hg8:=(hg4.block b3 (Array.getElem?_eq_some_iff.1 HG7.out).1 (fun e=>by have:=(HP7.out.lt b3 e.symm).1;omega)).trans HG7.out
   have hp8:PO w4 w.heap.size (.slice a4 ((jointP f k b old false).length+1) c4) (jointP f k b old false++[(a,k)]):=by
    refine PO.mono (B:=b3+1) ?_ (by have:=HB3.out;omega)
    unfold PO
    rw [List.length_append,List.flatMap_append]
    exact ho4
   have HO8:=hid hp8;have HB8:=hid hb8
   clear ho4 hg4 hat4 hb8 hp8
   apply bk hK
   · exact (keepS hg8)
   intro hHeld
   clear hK K
   apply wpT 12
   refine wpAnyH_done (by kernel_rfl) ?_ _
   clear hg8
   go_wp2_with fail
   go_ret
   rw [← hb3']
   exact ⟨_,rfl,HO8.out,HB8.out⟩
 · refine S_value rfl (exec_build1 (e:=300) (D:=#[.int .i64 (a:Int),.int .i64 (k:Int)]) (by rfl) (by rfl) (by rfl) (by rfl) (by rfl) (by rfl) (by decide) (by decide)) ?_
   have hc6:=cellA #[.int .i64 (a:Int),.int .i64 (k:Int)] 300 w5.drew
   have hb6:=HB5.out.alloc HB5.out.size (.cells #[.int .i64 (a:Int),.int .i64 (k:Int)] 300)
   have hg6:=(alOld w5.drew (.cells #[.int .i64 (a:Int),.int .i64 (k:Int)] 300) b3 (Array.getElem?_eq_some_iff.1 HG5.out).1).trans HG5.out
   have hz6:(w5.drew.alloc (.cells #[.int .i64 (a:Int),.int .i64 (k:Int)] 300)).heap.size=b3+2:=by rw [World.size_alloc,HZ5.out]
   obtain ⟨r6,hr6⟩:∃ r6,r6=w5.drew.heap.size:=⟨_,rfl⟩
   have hr7:r6=b3+1:=hr6.trans HZ5.out
   rw [← hr6] at hc6 ⊢
   generalize w5.drew.alloc (.cells #[.int .i64 (a:Int),.int .i64 (k:Int)] 300)=w6 at hc6 hb6 hg6 hz6 ⊢
   have HC6:=hid hc6;have HB6:=hid hb6;have HG6:=hid hg6;have HZ6:=hid hz6;have HR7:=hid hr7
   clear hc6 hb6 hr6 hz6 hr7
   apply bk hK
   · exact (keepS hg6)
   intro hHeld
   clear hK K
   apply wpR 5
   intro K hK
   go_simp
   clear hg6
   refine (HIH.out _).mono ?_
   rintro e w7 ⟨v,rfl,hp7,hb7⟩
   rw [HZ6.out] at hp7 hb7
   have hg7:=(hb7.block b3 (by omega)).trans HG6.out
   have HG7:=hid hg7;have HB7:=hid (HB6.out.trans (hb7.mono (by have:=HB3.out;omega)));have HP7:=hid (hp7.mono (show b3+1≤b3+2 by omega));have HZ7:=hid (show b3+1≤w7.heap.size from by have:=hb7.size;rw [HZ6.out] at this;omega)
   have HC7:=hid (show ∀ (i:Nat) (u:Value),(#[.int .i64 (a:Int),.int .i64 (k:Int)]:Array Value).toList[i]?=some u→w7.cell? ((⟨r6,0,none⟩:Addr).add i)=some u from fun i u h=>by
    have hc:=HC6.out i u h
    have ea:(⟨r6,0,none⟩:Addr).add i=⟨r6,i,none⟩:=by by_cases h0:i=0 <;> simp [Addr.add,h0]
    rw [ea] at hc ⊢
    exact (World.cell?_of_block (hb7.block r6 (by have:=HR7.out;omega))).trans hc)
   clear hp7 hb7
   apply bk hK
   · exact (keepS hg7)
   intro hHeld
   clear hK K
   apply wpR 11
   intro K hK
   clear hg7
   refine S_appendN rfl (.tmp 45) (.tmp 50) 227 (by rfl) sl227 (b3+1) v _ _ (by rfl) HP7.out ⟨r6,0,none⟩ 1 1 [.int .i64 (a:Int),.int .i64 (k:Int)] (by rfl) (by rfl) HC7.out (by intro u hu;simp only [List.mem_cons,List.not_mem_nil,or_false] at hu;rcases hu with rfl | rfl <;> rfl) HQ.out.1 HQ.out.2 HZ7.out (fun a4 c4 w4 ho4 hg4 hat4=>?_)
   have hb8:=HB7.out.grown hg4 HB7.out.size (fun q hq=>by have:=(HP7.out.lt q hq).1;have:=HB3.out;omega)
   have hg8:=(hg4.block b3 (Array.getElem?_eq_some_iff.1 HG7.out).1 (fun e=>by have:=(HP7.out.lt b3 e.symm).1;omega)).trans HG7.out
   have hp8:PO w4 w.heap.size (.slice a4 ((jointP f k b old false).length+1) c4) (jointP f k b old false++[(a,k)]):=by
    refine PO.mono (B:=b3+1) ?_ (by have:=HB3.out;omega)
    unfold PO
    rw [List.length_append,List.flatMap_append]
    exact ho4
   have HO8:=hid hp8;have HB8:=hid hb8
   clear ho4 hg4 hat4 hb8 hp8
   apply bk hK
   · exact (keepS hg8)
   intro hHeld
   clear hK K
   apply wpT 12
   refine wpAnyH_done (by kernel_rfl) ?_ _
   clear hg8
   go_wp2_with fail
   go_ret
   rw [← hb3']
   exact ⟨_,rfl,HO8.out,HB8.out⟩
theorem joint_any (f:Nat):JointC f:=by
 induction f with
 | zero=>intro w a b old whole h h1 h2 h3;omega
 | succ f ih =>
   intro w a b old whole hf hao hob hb6
   by_cases he:old=b
   · subst he
     exact joint_base w f a old whole
   · by_cases hk:old≤a+leftP (b - a)
     · exact joint_low f ih w a b old whole hf hao (by omega) hb6 hk
     · exact joint_high f ih w a b old whole hf hao (by omega) hb6 hk
def partsP (old size:Nat):List (Nat × Nat):=if old=0∨old=size then [] else jointP size 0 size old true
theorem parts_any (w:World) (old size:Nat) (h:old≤size) (hs:size≤1000000):Calls Tryz.prog 147 #[.int .i64 (old:Int),.int .i64 (size:Int)] w fun e w'=>∃ v,e=.returned v∧PO w' w.heap.size v (partsP old size)∧Below w.heap.size w w':=by
 by_cases h0:old=0
 · subst h0
   rw [show partsP 0 size=[] from if_pos (.inl rfl)]
   go_enter Tryz.func147,Tryz.ntmps147
   go_wp2_with fail
   go_ret
   exact ⟨_,rfl,World.ownsRow_nil _ _ _ _,Below.refl _ _⟩
 · have b0:((old:Int) == 0)=false:=by simp;omega
   by_cases he:old=size
   · subst he
     rw [show partsP old old=[] from if_pos (.inr rfl)]
     clear h h0
     go_enter Tryz.func147,Tryz.ntmps147
     go_wp2_with fail
     go_ret
     exact ⟨_,rfl,World.ownsRow_nil _ _ _ _,Below.refl _ _⟩
   · have b1:((old:Int) == (size:Int))=false:=by simp;omega
     have b2:(old == size)=false:=by simp;omega
     have b3:decide (old=size)=false:=by simp;omega
     rw [show partsP old size=jointP size 0 size old true from if_neg (by omega)]
     have HJ:=hid (joint_any size w 0 size old true (by omega) (by omega) h hs)
     clear h h0 he hs
     go_enter Tryz.func147,Tryz.ntmps147
     go_wp2_with (go_at_call 204;refine HJ.out.mono ?_;rintro e w1 ⟨v,rfl,hp,hb⟩)
     go_ret
     exact ⟨_,rfl,hp,hb⟩
end
section
open Go.Maps Go.WideMaps Go.ChangeMaps Go.Sort
theorem flatK_sp (l:List (Nat × Nat)):(flatK spE 2 l.toArray).toList=l.flatMap spE:=by
 apply List.ext_getElem?
 intro t
 have hL:(l.flatMap spE).length=l.length * 2:=flat_len spE 2 (fun _=>rfl) l
 rcases Nat.lt_or_ge t (l.length * 2) with h | h
 · have hi:t / 2 < l.length:=by omega
   have hx:l[t / 2]?=some (l[t / 2]'hi):=List.getElem?_eq_getElem hi
   have hv:(spE (l[t / 2]'hi))[t % 2]?=some ((spE (l[t / 2]'hi))[t % 2]!):=by
    have:t % 2=0∨t % 2=1:=by omega
    rcases this with e | e <;> rw [e] <;> rfl
   have h1:=flat_get spE 2 (fun _=>rfl) l (t / 2) _ hx (t % 2) _ hv
   rw [show t / 2 * 2+t % 2=t by omega] at h1
   rw [h1]
   unfold flatK
   simp [h,hi]
 · rw [List.getElem?_eq_none (by rw [Array.length_toList,size_flatK];simpa using h),List.getElem?_eq_none (by omega)]
theorem reverse_any (w:World) (B:Nat) (v:Value) (l:List (Nat × Nat)) (h:PO w B v l) (hl:l.length≤1000000) :
 Calls Tryz.prog 206 #[v] w fun e w'=>e=.returned (.tuple #[])∧PO w' B v l.reverse∧w.grownBy w' v.ownBlock:=by
 have hL:(l.flatMap spE).length=l.length * 2:=flat_len spE 2 (fun _=>rfl) l
 rcases h.2 with ⟨rfl,h0⟩ | ⟨g,cap,cur,rfl,hB,hg,hcap,hmax,hsz,htk⟩
 · obtain rfl:l=[]:=List.length_eq_zero_iff.1 h0
   refine (AnyQ.slices_Reverse_empty Tryz.reverse206 none 0 w).mono ?_
   rintro e w' ⟨rfl,rfl⟩
   exact ⟨rfl,World.ownsRow_nil _ _ _ _,⟨rfl,rfl,rfl,Nat.le_refl _,fun _ _ _=>rfl⟩⟩
 · have hcell:∀ j,j < l.length * 2→cur[j]?=(l.flatMap spE)[j]?:=fun j hj=>by
    rw [← htk,List.getElem?_take,if_pos hj,Array.getElem?_toList]
   have hH:HoldsK spE 2 w g 0 l.toArray:=fun j hj=>by
    have hj2:j < l.length * 2:=by simpa using hj
    refine ⟨?_,by rw [Nat.zero_add];exact frozen_of_row _ _ _ _ _ hg⟩
    rw [Nat.zero_add,cell_of_row _ _ _ _ _ _ hg,hcell j hj2,← flatK_sp,Array.getElem?_toList,getElem!_pos _ j hj]
    exact Array.getElem?_eq_getElem hj
   have hr:=AnyQ.slices_Reverse Tryz.reverse206 2 Tryz.isAgg300 Tryz.sizeOf300 spE (fun _=>rfl) (fun x u hu=>by simp only [spE,List.mem_cons,List.not_mem_nil,or_false] at hu;rcases hu with rfl | rfl <;> rfl) g 0 cap l.toArray w hH (by simp;omega)
   rw [show l.toArray.size=l.length from rfl] at hr
   refine hr.mono ?_
   rintro e w' ⟨rfl,n,rfl⟩
   obtain ⟨F,hF⟩:∃ F,F=flatK spE 2 l.toArray.reverse:=⟨_,rfl⟩
   have hFl:F.toList=l.reverse.flatMap spE:=by rw [hF,← flatK_sp];simp
   have hFs:F.size=l.length * 2:=by rw [hF];simp
   unfold putRowK putRow
   rw [← hF]
   have hk:∀ k,k ≠ g→(Sort.mapBlock (Sort.ahead w n) g (Sort.putCells id 0 F)).heap[k]?=w.heap[k]?:=fun k hk=>by
    show (w.heap.modify g _)[k]?=_
    rw [Array.getElem?_modify,if_neg (fun e=>hk e.symm)]
   have hgg:(Sort.mapBlock (Sort.ahead w n) g (Sort.putCells id 0 F)).heap[g]?=some (.cells (Sort.putCells id 0 F cur) 300 (0,0)):=by
    show (w.heap.modify g _)[g]?=_
    rw [Array.getElem?_modify,if_pos rfl,hg]
    rfl
   refine ⟨rfl,⟨?_,.inr ⟨g,cap,_,by rw [List.length_reverse],hB,hgg,?_,hmax,?_,?_⟩⟩,⟨rfl,rfl,rfl,?_,fun k hk1 hk2=>hk k (fun e=>hk2 (by rw [e];rfl))⟩⟩
   · rw [flat_len spE 2 (fun _=>rfl)]
   · rw [List.length_reverse];exact hcap
   · unfold putCells;rw [Array.size_mapIdx];exact hsz
   · rw [List.length_reverse,← hFl]
     apply List.ext_getElem?
     intro t
     rw [List.getElem?_take,Array.getElem?_toList,Array.getElem?_toList]
     rcases Nat.lt_or_ge t (l.length * 2) with q | q
     · have hc:t < cur.size:=by
        have:l.length * 2≤cap * 2:=Nat.mul_le_mul_right 2 hcap
        omega
       unfold putCells
       rw [if_pos q,Array.getElem?_mapIdx,Array.getElem?_eq_getElem hc,Option.map_some,if_pos ⟨Nat.zero_le _,by omega⟩,Nat.sub_zero,getElem!_pos F t (by omega),Array.getElem?_eq_getElem (by omega)]
       rfl
     · rw [if_neg (by omega),Array.getElem?_eq_none (by omega)]
   · show w.heap.size≤(w.heap.modify g _).size
     rw [Array.size_modify];exact Nat.le_refl _
end
end Go.Proofs.YtgkehahklccacaaGreatDoor
