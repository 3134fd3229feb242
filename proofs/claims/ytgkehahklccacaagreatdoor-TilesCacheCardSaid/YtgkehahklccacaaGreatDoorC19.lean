import Derived.Test.YtgkehahklccacaaGreatDoorC03
import Derived.Test.YtgkehahklccacaaGreatDoorC18
namespace Go.Proofs.YtgkehahklccacaaGreatDoor
open Go Go.RowKit
open Go.Lib (hid)
set_option maxRecDepth 100000
set_option maxHeartbeats 1000000
set_option linter.unusedVariables false
set_option linter.unusedSimpArgs false
section
open Go.Maps Go.WideMaps Go.ChangeMaps
theorem sl96:Sl Tryz.prog 96 121 (.agg #[.int .i64 0,.int .i64 0]) 2 16:=⟨Tryz.underlying96,by kernel_rfl,rfl,by decide⟩
theorem mkO {w:World} {gt g6 l j:Nat} {ordV:Value} {cs:Array Value} (h:w.heap[gt]?=some (.cells cs 99 (0,0))) (h7:cs[7]?=some ordV) (hg6:w.heap[g6]?=some (.cells #[.int .i64 (l:Int),.int .i64 (j:Int)] 121 (0,0))) :
 w.cell? ⟨g6,0,none⟩=some (.int .i64 (l:Int))∧w.cell? ⟨g6,1,none⟩=some (.int .i64 (j:Int)) :=
 ⟨by rw [cell_of_row _ _ _ _ _ _ hg6];rfl,by rw [cell_of_row _ _ _ _ _ _ hg6];rfl⟩
theorem cellA (D:Array Value) (e:TypeId) (w:World) (i:Nat) (u:Value) (h:D.toList[i]?=some u):(w.alloc (.cells D e)).cell? ((⟨w.heap.size,0,none⟩:Addr).add i)=some u:=by
 have h0:(w.alloc (.cells D e)).heap[w.heap.size]?=some (.cells D e (0,0)):=heap_alloc_new _ _
 have ea:(⟨w.heap.size,0,none⟩:Addr).add i=⟨w.heap.size,i,none⟩:=by by_cases h0:i=0 <;> simp [Addr.add,h0]
 rw [ea,cell_of_row _ _ i _ _ _ h0]
 simpa using h
theorem block_setCell' {w:World} {g i:Nat} {C:Array Value} {ty:TypeId} (h:w.heap[g]?=some (.cells C ty (0,0))) (v:Value):(w.setCell ⟨g,i,none⟩ v).heap[g]?=some (.cells (C.setIfInBounds i v) ty (0,0)) :=
 heap_setCell_same w g i C ty v h
theorem row_setCell {w:World} {g i:Nat} {C:Array Value} {ty:TypeId} (h:w.heap[g]?=some (.cells C ty (0,0))) (v:Value):(w.setCell ⟨g,i,none⟩ v).heap[g]?=some (.cells (C.setIfInBounds i v) ty (0,0))∧w.grownBy (w.setCell ⟨g,i,none⟩ v) (some g) :=
 ⟨block_setCell' h v,⟨rfl,rfl,rfl,by rw [World.size_setCell];exact Nat.le_refl _,fun k _ hk=>heap_setCell_other w ⟨g,i,none⟩ k v (fun e=>hk (by rw [e]))⟩⟩
set_option maxHeartbeats 8000000
theorem grow_r10 (W:World) (τ:Nat→Nat) (gt g3 g6 l j:Nat) (cs:Array Value) (ordV:Value) (hl:l < 1099511627776) (hj:j < 1099511627776) (h1:W.heap[gt]?=some (.cells cs 99 (0,0))) (h7:cs[7]?=some ordV) (h2:W.heap[g6]?=some (.cells #[.int .i64 (l:Int),.int .i64 (j:Int)] 121 (0,0)))
 (n:Nat) (xs:List Value) (ho:OwnL W τ 121 2 7 ordV n xs) (hn:n≤1000000) (l1:τ gt=1) (l6:τ g6=0) (hdom:∀ k,τ k ≠ 0→k < W.heap.size)
 (v4 u1 u2 u7 u8 u9 uA uB uC uD uE uF uG uH uI uJ uK uL uM uN uO uP uQ uR uS uT uU uV uW uX uY uZ vA vB vC vD vE vF vG vH vI vJ vK vL vM vN vO vP vQ vR vS vT vU vV vW vX vY vZ qA qB qC qD qE qF qG qH qI qJ qK qL qM qN qO qP qQ qR qS qT qU qV qW qX:Value) (K:Act→World→Prop) (R:Exit→Act→World→Prop) (hR:∀ c a a' w,R (.panic c) a w→a.defers=a'.defers→R (.panic c) a' w)
 (hK:∀ (u1 u2 u7 u8 u9 uA uB uC uD uE uF uG uH uI uJ uK uL uM uN uO uP uQ uR uS uT uU uV uW uX uY uZ vA vB vC vD vE vF vG vH vI vJ vK vL vM vN vO vP vQ vR vS vT vU vV vW vX vY vZ qA qB qC qD qE qF qG qH qI qJ qK qL qM qN qO qP qQ qR qS qT qU qV qW qX:Value) (w':World) (τ':Nat→Nat) (v':Value),w'.heap[gt]?=some (.cells (cs.setIfInBounds 7 v') 99 (0,0))→OwnL w' τ' 121 2 7 v' (n+1) (xs++[.int .i64 (l:Int),.int .i64 (j:Int)])→Ext W.heap.size τ τ'→(∀ k,τ' k ≠ 0→k < w'.heap.size)→(∀ k,k < W.heap.size→k ≠ gt→τ k ≠ 7→w'.heap[k]?=W.heap[k]?)→w'.os=W.os→w'.tape=W.tape→w'.output=W.output→W.heap.size≤w'.heap.size→K ⟨#[.pointer (some ⟨gt,0,none⟩),u1,u2,.pointer (some ⟨g3,0,none⟩),v4,.int .i64 (l:Int),.pointer (some ⟨g6,0,none⟩),u7,u8,u9,uA,uB,uC,uD,uE,uF,uG,uH,uI,uJ,uK,uL,uM,uN,uO,uP,uQ,uR,uS,uT,uU,uV,uW,uX,uY,uZ,vA,vB,vC,vD,vE,vF,vG,vH,vI,vJ,vK,vL,vM,vN,vO,vP,vQ,vR,vS,vT,vU,vV,vW,vX,vY,vZ,qA,qB,qC,qD,qE,qF,qG,qH,qI,qJ,qK,qL,qM,qN,qO,qP,qQ,qR,qS,qT,qU,qV,qW,qX],[]⟩ w') :
 Code.wp Tryz.prog (headSeq (dropSeq 5 gX)) (Exit.then K R) ⟨#[.pointer (some ⟨gt,0,none⟩),u1,u2,.pointer (some ⟨g3,0,none⟩),v4,.int .i64 (l:Int),.pointer (some ⟨g6,0,none⟩),u7,u8,u9,uA,uB,uC,uD,uE,uF,uG,uH,uI,uJ,uK,uL,uM,uN,uO,uP,uQ,uR,uS,uT,uU,uV,uW,uX,uY,uZ,vA,vB,vC,vD,vE,vF,vG,vH,vI,vJ,vK,vL,vM,vN,vO,vP,vQ,vR,vS,vT,vU,vV,vW,vX,vY,vZ,qA,qB,qC,qD,qE,qF,qG,qH,qI,qJ,qK,qL,qM,qN,qO,qP,qQ,qR,qS,qT,qU,qV,qW,qX],[]⟩ W:=by
 have HK:=hid hK
 have HO:=hid ho
 have HDOM:=hid hdom
 have H1:=hid h1;have H7:=hid h7;have H2:=hid h2
 have hs0:=mkO (w:=W.drew) h1 h7 h2
 have HLB:=hid (And.intro l1 l6)
 have HQ1:=hid (show (n+1) * 16≤140737488355328 by omega)
 have HQ2:=hid (show n+1≤maxLen by simp [maxLen];omega)
 have HLJ:=hid (And.intro hl hj)
 clear hK ho hdom h1 h7 h2 hl hj l1 l6 hn
 conv=>arg 2;whnf
 refine wp_region_held_drew (S:=fun w=>w.cell? ⟨g6,0,none⟩=some (.int .i64 (l:Int))∧w.cell? ⟨g6,1,none⟩=some (.int .i64 (j:Int))) (by kernel_rfl) hs0 (fun hHeld=>?_)
 apply wpTR hR 0
 apply wpTR hR 1
 apply wpTR hR 2
 apply wpTR hR 3
 apply wpTR hR 5
 refine wpAnyH_ready (rs:=[4,6]) (by kernel_rfl) (by simp) ?_
 have e7:W.drew.cell? ⟨gt,7,none⟩=some ordV:=by rw [cell_of_row W.drew _ _ _ _ _ H1.out];exact H7.out
 refine AllReadyH.cons (o:=_) rfl (fun K hK=>?_) (AllReadyH.cons (o:=_) rfl (fun K hK=>?_) AllReadyH.nil)
 · go_simp
   apply bk hK
   · exact (mkO (w:=W.drew) H1.out H7.out H2.out)
   intro hHeld
   clear hK K
   apply wpR 6
   intro K hK
   refine S_value rfl (exec_build1 (e:=121) (D:=#[.int .i64 (l:Int),.int .i64 (j:Int)]) (by rfl) (by rfl) (by rfl) (by rfl) (by rfl) (by rfl) (by decide) (by decide)) ?_
   have hg1:=grown_alloc W.drew (.cells #[.int .i64 (l:Int),.int .i64 (j:Int)] 121)
   have hlt:∀ (k:Nat) (o:Obj),W.heap[k]?=some o→k < W.drew.heap.size:=fun k o h=>(Array.getElem?_eq_some_iff.1 h).1
   have H11:=hid ((hg1.block gt (hlt _ _ H1.out) (by simp)).trans H1.out)
   have H21:=hid ((hg1.block g6 (hlt _ _ H2.out) (by simp)).trans H2.out)
   have HC1:=hid (cellA #[.int .i64 (l:Int),.int .i64 (j:Int)] 121 W.drew)
   have HO1:=hid (show OwnL (W.drew.alloc (.cells #[.int .i64 (l:Int),.int .i64 (j:Int)] 121)) τ 121 2 7 ordV n xs from ⟨(show W.drew.ownsRow 0 121 2 ordV n xs from HO.out.1).alloc _,HO.out.2⟩)
   have hsz:W.drew.heap.size=W.heap.size:=rfl
   have hsz1:W.heap.size < (W.drew.alloc (.cells #[.int .i64 (l:Int),.int .i64 (j:Int)] 121)).heap.size:=by rw [alloc_size',hsz];omega
   rw [hsz] at HC1 ⊢
   have HG1:=hid hg1;have HZ1:=hid hsz1
   clear hg1 hsz1 hsz
   generalize W.drew.alloc (.cells #[.int .i64 (l:Int),.int .i64 (j:Int)] 121)=w1 at H11 H21 HG1 HZ1 HC1 HO1 ⊢
   apply bk hK
   · exact (mkO H11.out H7.out H21.out)
   intro hHeld
   clear hK K
   apply wpR 7
   intro K hK
   refine S_appendN rfl (.tmp 67) (.tmp 69) 96 (by rfl) sl96 0 ordV n xs (by rfl) HO1.out.1 ⟨W.heap.size,0,none⟩ 1 1 [.int .i64 (l:Int),.int .i64 (j:Int)] (by rfl) (by rfl) HC1.out (by intro u hu;simp only [List.mem_cons,List.not_mem_nil,or_false] at hu;rcases hu with rfl | rfl <;> rfl) HQ1.out HQ2.out (Nat.zero_le _) (fun a4 c4 w4 ho4 hg4 hat4=>?_)
   have hn4:ordV.ownBlock ≠ some gt∧ordV.ownBlock ≠ some g6:=⟨fun e=>by have:=HO.out.2 _ e;have:=HLB.out;omega,fun e=>by have:=HO.out.2 _ e;have:=HLB.out;omega⟩
   have H14:=hid ((hg4.block gt (Nat.lt_of_lt_of_le (hlt _ _ H1.out) (Nat.le_of_lt HZ1.out)) (fun e=>hn4.1 e.symm)).trans H11.out)
   have H24:=hid ((hg4.block g6 (Nat.lt_of_lt_of_le (hlt _ _ H2.out) (Nat.le_of_lt HZ1.out)) (fun e=>hn4.2 e.symm)).trans H21.out)
   have HG4:=hid hg4;have HO4:=hid ho4;have HAT:=hid hat4
   clear hg4 ho4 hat4 hn4 hlt
   have e8':=cell_of_row _ _ 7 _ _ _ H14.out
   have f8':=frozen_of_row w4 gt 7 _ _ H14.out
   rw [H7.out] at e8'
   apply bk hK
   · exact (mkO H14.out H7.out H24.out)
   intro hHeld
   clear hK K
   apply wpTR hR 8
   apply wpTR hR 9
   apply wpR 10
   intro K hK
   go_simp
   obtain ⟨H15,hg5⟩:=row_setCell (i:=7) H14.out (Value.slice a4 (n+1) c4)
   have hne:(Value.slice a4 (n+1) c4).ownBlock ≠ some gt:=by
    rcases HAT.out with h | h
    · rw [h];intro e;have:=HO.out.2 _ e;have:=HLB.out;omega
    · rw [h];intro e;have h1:=(Array.getElem?_eq_some_iff.1 H11.out).1;injection e with e;omega
   have H25:=(hg5.block g6 (Array.getElem?_eq_some_iff.1 H24.out).1 (fun e=>by have h1:=H14.out;have h2:=H24.out;injection e with e;rw [e,h1] at h2;injection h2 with h2;injection h2 with h2 h3;exact absurd h3 (by decide))).trans H24.out
   have H15p:(cs.setIfInBounds 7 (Value.slice a4 (n+1) c4))[7]?=some (Value.slice a4 (n+1) c4):=by
    rw [Array.getElem?_setIfInBounds_self_of_lt ((Array.getElem?_eq_some_iff.1 H7.out).1)]
   have z1:W.heap.size < w1.heap.size:=HZ1.out
   have z4:=HG4.out.size;have z5:=hg5.size
   obtain ⟨τ',x1,x2,x3⟩:=relabel HO1.out (fun k hk=>Nat.lt_of_lt_of_le (HDOM.out k hk) (by omega)) (HO4.out.kept hg5 (.inr hne)) HAT.out (by decide) (by omega)
   apply bk hK
   · exact (mkO H15 H15p H25)
   intro hHeld
   clear hK K
   refine wpAnyH_done (by kernel_rfl) ?_ _
   refine HK.out _ _ _ _ _ _ _ _ _ _ _ _ _ _ _ _ _ _ _ _ _ _ _ _ _ _ _ _ _ _ _ _ _ _ _ _ _ _ _ _ _ _ _ _ _ _ _ _ _ _ _ _ _ _ _ _ _ _ _ _ _ _ _ _ _ _ _ _ _ _ _ _ _ _ _ _ _ _ _ _ _ _ τ' (Value.slice a4 (n+1) c4) H15 x3 ⟨x1.same,fun k hk h0=>x1.old k (by omega) h0⟩ x2 ?_ ?_ ?_ ?_ (by omega)
   · intro k hk h1 h2
     have q1:w1.heap[k]?=W.heap[k]?:=HG1.out.block k hk (by simp)
     have q4:=HG4.out.block k (by omega) (fun e=>h2 (HO.out.2 k e.symm))
     have q5:=hg5.block k (by omega) (fun e=>h1 (by injection e))
     exact q5.trans (q4.trans q1)
   · exact hg5.os.trans (HG4.out.os.trans HG1.out.os)
   · exact hg5.tape.trans (HG4.out.tape.trans HG1.out.tape)
   · exact hg5.output.trans (HG4.out.output.trans HG1.out.output)
 · refine S_value rfl (exec_build1 (e:=121) (D:=#[.int .i64 (l:Int),.int .i64 (j:Int)]) (by rfl) (by rfl) (by rfl) (by rfl) (by rfl) (by rfl) (by decide) (by decide)) ?_
   have hg1:=grown_alloc W.drew (.cells #[.int .i64 (l:Int),.int .i64 (j:Int)] 121)
   have hlt:∀ (k:Nat) (o:Obj),W.heap[k]?=some o→k < W.drew.heap.size:=fun k o h=>(Array.getElem?_eq_some_iff.1 h).1
   have H11:=hid ((hg1.block gt (hlt _ _ H1.out) (by simp)).trans H1.out)
   have H21:=hid ((hg1.block g6 (hlt _ _ H2.out) (by simp)).trans H2.out)
   have HC1:=hid (cellA #[.int .i64 (l:Int),.int .i64 (j:Int)] 121 W.drew)
   have HO1:=hid (show OwnL (W.drew.alloc (.cells #[.int .i64 (l:Int),.int .i64 (j:Int)] 121)) τ 121 2 7 ordV n xs from ⟨(show W.drew.ownsRow 0 121 2 ordV n xs from HO.out.1).alloc _,HO.out.2⟩)
   have hsz:W.drew.heap.size=W.heap.size:=rfl
   have hsz1:W.heap.size < (W.drew.alloc (.cells #[.int .i64 (l:Int),.int .i64 (j:Int)] 121)).heap.size:=by rw [alloc_size',hsz];omega
   rw [hsz] at HC1 ⊢
   have HG1:=hid hg1;have HZ1:=hid hsz1
   clear hg1 hsz1 hsz
   generalize W.drew.alloc (.cells #[.int .i64 (l:Int),.int .i64 (j:Int)] 121)=w1 at H11 H21 HG1 HZ1 HC1 HO1 ⊢
   clear e7
   have e7:w1.cell? ⟨gt,7,none⟩=some ordV:=by rw [cell_of_row w1 _ _ _ _ _ H11.out];exact H7.out
   apply bk hK
   · exact (mkO H11.out H7.out H21.out)
   intro hHeld
   clear hK K
   apply wpR 4
   intro K hK
   go_simp
   apply bk hK
   · exact (mkO H11.out H7.out H21.out)
   intro hHeld
   clear hK K
   apply wpR 7
   intro K hK
   refine S_appendN rfl (.tmp 67) (.tmp 69) 96 (by rfl) sl96 0 ordV n xs (by rfl) HO1.out.1 ⟨W.heap.size,0,none⟩ 1 1 [.int .i64 (l:Int),.int .i64 (j:Int)] (by rfl) (by rfl) HC1.out (by intro u hu;simp only [List.mem_cons,List.not_mem_nil,or_false] at hu;rcases hu with rfl | rfl <;> rfl) HQ1.out HQ2.out (Nat.zero_le _) (fun a4 c4 w4 ho4 hg4 hat4=>?_)
   have hn4:ordV.ownBlock ≠ some gt∧ordV.ownBlock ≠ some g6:=⟨fun e=>by have:=HO.out.2 _ e;have:=HLB.out;omega,fun e=>by have:=HO.out.2 _ e;have:=HLB.out;omega⟩
   have H14:=hid ((hg4.block gt (Nat.lt_of_lt_of_le (hlt _ _ H1.out) (Nat.le_of_lt HZ1.out)) (fun e=>hn4.1 e.symm)).trans H11.out)
   have H24:=hid ((hg4.block g6 (Nat.lt_of_lt_of_le (hlt _ _ H2.out) (Nat.le_of_lt HZ1.out)) (fun e=>hn4.2 e.symm)).trans H21.out)
   have HG4:=hid hg4;have HO4:=hid ho4;have HAT:=hid hat4
   clear hg4 ho4 hat4 hn4 hlt
   have e8':=cell_of_row _ _ 7 _ _ _ H14.out
   have f8':=frozen_of_row w4 gt 7 _ _ H14.out
   rw [H7.out] at e8'
   apply bk hK
   · exact (mkO H14.out H7.out H24.out)
   intro hHeld
   clear hK K
   apply wpTR hR 8
   apply wpTR hR 9
   apply wpR 10
   intro K hK
   go_simp
   obtain ⟨H15,hg5⟩:=row_setCell (i:=7) H14.out (Value.slice a4 (n+1) c4)
   have hne:(Value.slice a4 (n+1) c4).ownBlock ≠ some gt:=by
    rcases HAT.out with h | h
    · rw [h];intro e;have:=HO.out.2 _ e;have:=HLB.out;omega
    · rw [h];intro e;have h1:=(Array.getElem?_eq_some_iff.1 H11.out).1;injection e with e;omega
   have H25:=(hg5.block g6 (Array.getElem?_eq_some_iff.1 H24.out).1 (fun e=>by have h1:=H14.out;have h2:=H24.out;injection e with e;rw [e,h1] at h2;injection h2 with h2;injection h2 with h2 h3;exact absurd h3 (by decide))).trans H24.out
   have H15p:(cs.setIfInBounds 7 (Value.slice a4 (n+1) c4))[7]?=some (Value.slice a4 (n+1) c4):=by
    rw [Array.getElem?_setIfInBounds_self_of_lt ((Array.getElem?_eq_some_iff.1 H7.out).1)]
   have z1:W.heap.size < w1.heap.size:=HZ1.out
   have z4:=HG4.out.size;have z5:=hg5.size
   obtain ⟨τ',x1,x2,x3⟩:=relabel HO1.out (fun k hk=>Nat.lt_of_lt_of_le (HDOM.out k hk) (by omega)) (HO4.out.kept hg5 (.inr hne)) HAT.out (by decide) (by omega)
   apply bk hK
   · exact (mkO H15 H15p H25)
   intro hHeld
   clear hK K
   refine wpAnyH_done (by kernel_rfl) ?_ _
   refine HK.out _ _ _ _ _ _ _ _ _ _ _ _ _ _ _ _ _ _ _ _ _ _ _ _ _ _ _ _ _ _ _ _ _ _ _ _ _ _ _ _ _ _ _ _ _ _ _ _ _ _ _ _ _ _ _ _ _ _ _ _ _ _ _ _ _ _ _ _ _ _ _ _ _ _ _ _ _ _ _ _ _ _ τ' (Value.slice a4 (n+1) c4) H15 x3 ⟨x1.same,fun k hk h0=>x1.old k (by omega) h0⟩ x2 ?_ ?_ ?_ ?_ (by omega)
   · intro k hk h1 h2
     have q1:w1.heap[k]?=W.heap[k]?:=HG1.out.block k hk (by simp)
     have q4:=HG4.out.block k (by omega) (fun e=>h2 (HO.out.2 k e.symm))
     have q5:=hg5.block k (by omega) (fun e=>h1 (by injection e))
     exact q5.trans (q4.trans q1)
   · exact hg5.os.trans (HG4.out.os.trans HG1.out.os)
   · exact hg5.tape.trans (HG4.out.tape.trans HG1.out.tape)
   · exact hg5.output.trans (HG4.out.output.trans HG1.out.output)
end
section
open Go.Maps Go.WideMaps Go.ChangeMaps
theorem mkR {w:World} {gt fb g6 l j nf g n c:Nat} {wd:Int} {Mf:Nat→Nat→Sc} {cs:Array Value} (h:w.heap[gt]?=some (.cells cs 99 (0,0))) (h3:cs[3]?=some (.int .i64 wd)) (h5:cs[5]?=some (.map (some fb))) (hg6:w.heap[g6]?=some (.cells #[.int .i64 (l:Int),.int .i64 (j:Int)] 121 (0,0))) (hm:MAt w fb nf Mf) (hl:l < 1099511627776) (hj:j < 1099511627776) (hM:Mf l j=some (g,n,c)) :
 w.cell? ⟨gt,3,none⟩=some (.int .i64 wd)∧w.cell? ⟨gt,5,none⟩=some (.map (some fb))∧w.cell? ⟨g6,0,none⟩=some (.int .i64 (l:Int))∧w.cell? ⟨g6,1,none⟩=some (.int .i64 (j:Int))∧(Instr.lookup 95 (.map (some fb)) (keyV l j) false).run Tryz.prog w=.ok (.slice (some ⟨g,0,none⟩) n c) w:=by
 have hk:=hm.look hl hj
 rw [hM] at hk
 exact ⟨by rw [cell_of_row _ _ _ _ _ _ h];exact h3,by rw [cell_of_row _ _ _ _ _ _ h];exact h5,by rw [cell_of_row _ _ _ _ _ _ hg6];rfl,by rw [cell_of_row _ _ _ _ _ _ hg6];rfl,hk⟩
set_option maxHeartbeats 8000000
theorem grow_r11 (W:World) (gt fb g3 g6 l j nf g n c:Nat) (wd:Int) (Mf:Nat→Nat→Sc) (cs D:Array Value) (ds:List Dg) (hl:l < 1099511627776) (hj:j < 1099511627776) (h1:W.heap[gt]?=some (.cells cs 99 (0,0))) (h3:cs[3]?=some (.int .i64 wd)) (h5:cs[5]?=some (.map (some fb))) (h2:W.heap[g6]?=some (.cells #[.int .i64 (l:Int),.int .i64 (j:Int)] 121 (0,0))) (hg3:W.heap[g3]?=some (.cells D 38 (0,0))) (hD:D.size=32)
 (hm:MAt W fb nf Mf) (hM:Mf l j=some (g,n,c)) (hds:DS W (some ⟨g,0,none⟩) n c ds) (hn:n≤1000000) (hw0:-9223372036854775808≤wd) (hw1:wd≤9223372036854775807) (ht:RoundTab W) (hz:3 < W.heap.size) (hne:g3 ≠ gt∧g3 ≠ g6∧g3 ≠ fb)
 (v4 u1 u2 u7 u8 u9 uA uB uC uD uE uF uG uH uI uJ uK uL uM uN uO uP uQ uR uS uT uU uV uW uX uY uZ vA vB vC vD vE vF vG vH vI vJ vK vL vM vN vO vP vQ vR vS vT vU vV vW vX vY vZ qA qB qC qD qE qF qG qH qI qJ qK qL qM qN qO qP qQ qR qS qT qU qV qW qX:Value) (K:Act→World→Prop) (R:Exit→Act→World→Prop) (hR:∀ c a a' w,R (.panic c) a w→a.defers=a'.defers→R (.panic c) a' w)
 (hK:∀ (u1 u2 u7 u8 u9 uA uB uC uD uE uF uG uH uI uJ uK uL uM uN uO uP uQ uR uS uT uU uV uW uX uY uZ vA vB vC vD vE vF vG vH vI vJ vK vL vM vN vO vP vQ vR vS vT vU vV vW vX vY vZ qA qB qC qD qE qF qG qH qI qJ qK qL qM qN qO qP qQ qR qS qT qU qV qW qX:Value) (w':World),W.grownBy w' (some g3)→w'.heap[g3]?=some (.cells (dgA (rootP wd ds).1) 38 (0,0))→K ⟨#[.pointer (some ⟨gt,0,none⟩),u1,u2,.pointer (some ⟨g3,0,none⟩),v4,.int .i64 (l:Int),.pointer (some ⟨g6,0,none⟩),u7,u8,u9,uA,uB,uC,uD,uE,uF,uG,uH,uI,uJ,uK,uL,uM,uN,uO,uP,uQ,uR,uS,uT,uU,uV,uW,uX,uY,uZ,vA,vB,vC,vD,vE,vF,vG,vH,vI,vJ,vK,vL,vM,vN,vO,vP,vQ,vR,vS,vT,vU,vV,vW,vX,vY,vZ,qA,qB,qC,qD,qE,qF,qG,qH,qI,qJ,qK,qL,qM,qN,qO,qP,qQ,qR,qS,qT,qU,qV,qW,qX],[]⟩ w') :
 Code.wp Tryz.prog (headSeq (dropSeq 6 gX)) (Exit.then K R) ⟨#[.pointer (some ⟨gt,0,none⟩),u1,u2,.pointer (some ⟨g3,0,none⟩),v4,.int .i64 (l:Int),.pointer (some ⟨g6,0,none⟩),u7,u8,u9,uA,uB,uC,uD,uE,uF,uG,uH,uI,uJ,uK,uL,uM,uN,uO,uP,uQ,uR,uS,uT,uU,uV,uW,uX,uY,uZ,vA,vB,vC,vD,vE,vF,vG,vH,vI,vJ,vK,vL,vM,vN,vO,vP,vQ,vR,vS,vT,vU,vV,vW,vX,vY,vZ,qA,qB,qC,qD,qE,qF,qG,qH,qI,qJ,qK,qL,qM,qN,qO,qP,qQ,qR,qS,qT,qU,qV,qW,qX],[]⟩ W:=by
 have HK:=hid hK
 obtain ⟨E,hE⟩:∃ E,E=dgA (rootP wd ds).1:=⟨_,rfl⟩
 have HES:=hid (show E.size=32 by rw [hE,dgA_size,(rootP wd ds).2])
 have HE1:=hid (show E.all (·.oneCell')=true by rw [hE];exact dgA_all _)
 have hs0:=mkR (w:=W.drew) h1 h3 h5 h2 hm hl hj hM
 have hroot:=root_any W.drew wd hw0 hw1 (some ⟨g,0,none⟩) n c ds hds hn ht hz
 rw [← hE] at hroot
 have HRT:=hid hroot
 have HE:=hid hE
 have H1:=hid h1;have H2:=hid h2;have H3:=hid h3;have H5:=hid h5;have HG3:=hid hg3;have HD:=hid hD;have HM:=hid hm;have HMM:=hid hM
 have HLJ:=hid (And.intro hl hj)
 have HNE:=hid hne
 clear hK hm h1 h2 h3 h5 hg3 hD hl hj hM hds hn ht hz hne hroot hE hw0 hw1
 conv=>arg 2;whnf
 refine wp_region_held_drew (S:=fun w=>w.cell? ⟨gt,3,none⟩=some (.int .i64 wd)∧w.cell? ⟨gt,5,none⟩=some (.map (some fb))∧w.cell? ⟨g6,0,none⟩=some (.int .i64 (l:Int))∧w.cell? ⟨g6,1,none⟩=some (.int .i64 (j:Int))∧(Instr.lookup 95 (.map (some fb)) (keyV l j) false).run Tryz.prog w=.ok (.slice (some ⟨g,0,none⟩) n c) w) (by kernel_rfl) hs0 (fun hHeld=>?_)
 apply wpTR hR 0
 apply wpTR hR 1
 apply wpTR hR 2
 apply wpTR hR 3
 apply wpTR hR 4
 apply wpTR hR 5
 apply wpTR hR 6
 apply wpTR hR 7
 apply wpTR hR 8
 apply wpLR hR 9 (.slice (some ⟨g,0,none⟩) n c)
 · exact fun w hSw=>exec_lookup (by rfl) (hSw.2.2.2.2)
 apply wpR 10
 intro K hK
 go_simp
 refine HRT.out.mono ?_
 rintro e w6 ⟨rfl,hb6⟩
 have hlt:∀ (k:Nat) (o:Obj),W.heap[k]?=some o→k < W.drew.heap.size:=fun k o h=>(Array.getElem?_eq_some_iff.1 h).1
 have K1:=hid ((hb6.block gt (hlt _ _ H1.out)).trans H1.out)
 have K2:=hid ((hb6.block g6 (hlt _ _ H2.out)).trans H2.out)
 have K3:=hid ((hb6.block g3 (hlt _ _ HG3.out)).trans HG3.out)
 have KM:=hid (HM.out.keep (hb6.block fb HM.out.lt))
 have HB6:=hid hb6
 have hth:=there_block K3.out
 rw [HD.out] at hth
 have HTH:=hid hth
 have hgr:=setCells_grown g3 E.toList 0 w6
 have HG6:=hid (setCells_all K3.out E.toList (by rw [Array.length_toList,HES.out,HD.out]))
 have J1:=hid ((hgr.block gt (Array.getElem?_eq_some_iff.1 K1.out).1 (fun e=>HNE.out.1 (by injection e with e;exact e.symm))).trans K1.out)
 have J2:=hid ((hgr.block g6 (Array.getElem?_eq_some_iff.1 K2.out).1 (fun e=>HNE.out.2.1 (by injection e with e;exact e.symm))).trans K2.out)
 have JM:=hid (KM.out.keep (hgr.block fb KM.out.lt (fun e=>HNE.out.2.2 (by injection e with e;exact e.symm))))
 have HGR:=hid hgr
 clear hgr hth hb6 hlt
 apply bk hK
 · exact (mkR K1.out H3.out H5.out K2.out KM.out HLJ.out.1 HLJ.out.2 HMM.out)
 intro hHeld
 clear hK K
 apply wpR 11
 intro K hK
 refine S_store_mid rfl 38 (.tmp 3) (.tmp 83) (by rfl) g3 0 E (by rfl) (by rfl) (by rw [HES.out];exact HTH.out) (by rw [HES.out];exact info38) HE1.out ?_
 apply bk hK
 · exact (mkR J1.out H3.out H5.out J2.out JM.out HLJ.out.1 HLJ.out.2 HMM.out)
 intro hHeld
 clear hK K
 refine wpAnyH_done (by kernel_rfl) ?_ _
 refine HK.out _ _ _ _ _ _ _ _ _ _ _ _ _ _ _ _ _ _ _ _ _ _ _ _ _ _ _ _ _ _ _ _ _ _ _ _ _ _ _ _ _ _ _ _ _ _ _ _ _ _ _ _ _ _ _ _ _ _ _ _ _ _ _ _ _ _ _ _ _ _ _ _ _ _ _ _ _ _ _ _ _ _ ⟨HGR.out.os.trans HB6.out.os,HGR.out.tape.trans HB6.out.tape,HGR.out.output.trans HB6.out.output,Nat.le_trans HB6.out.size HGR.out.size,fun k hk h=>(HGR.out.block k (Nat.lt_of_lt_of_le hk HB6.out.size) h).trans (HB6.out.block k hk)⟩ ?_
 rw [← HE.out,HG6.out,Array.toArray_toList]
end
end Go.Proofs.YtgkehahklccacaaGreatDoor
