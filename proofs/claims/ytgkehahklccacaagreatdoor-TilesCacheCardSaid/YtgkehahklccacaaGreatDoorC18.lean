import Derived.Test.YtgkehahklccacaaGreatDoorC03
import Derived.Test.YtgkehahklccacaaGreatDoorC17
import Derived.Deep.RegionHeld3
import Derived.IntWalk
import Derived.Deep.MidRow
import Derived.Great.BuildSlice
namespace Go.Proofs.YtgkehahklccacaaGreatDoor
open Go Go.RowKit
open Go.Lib (hid)
set_option maxRecDepth 100000
set_option maxHeartbeats 1000000
set_option linter.unusedVariables false
set_option linter.unusedSimpArgs false
section
open Go.Maps Go.WideMaps Go.ChangeMaps
def inBlock:Code→Code
 | .block _ c=>c
 | c=>c
def firstLoop:Code→Option Code
 | .loop c=>some c
 | .seq a b=>match firstLoop a with
   | some c=>some c
   | none=>firstLoop b
 | .block _ c=>firstLoop c
 | _=>none
noncomputable def gX:Code:=inBlock (headSeq ((Tryz.f49.body.bind firstLoop).getD .skip))
theorem load_dg (w:World) (g:Nat) (D:Array Value) (h:w.heap[g]?=some (.cells D 38 (0,0))) (hs:D.size=32):(Instr.loadAt 38 (.pointer (some ⟨g,0,none⟩))).run Tryz.prog w=.ok (.agg D) w:=by
 have hr:w.rangeAt g 0 D.toList:=fun j v hj=>by
  rw [cell_of_row _ _ _ _ _ _ h,Nat.zero_add]
  simpa using hj
 have:=run_loadAt_mid (P:=Tryz.prog) w g 0 38 D.toList _ hr Tryz.underlying38 rfl (by rw [Array.length_toList,hs];exact info38)
 rwa [Array.toArray_toList] at this
theorem mkS {w:World} {gt ob g6 l j g3:Nat} {D cs:Array Value} (h1:w.heap[gt]?=some (.cells cs 99 (0,0))) (h1':cs[6]?=some (.map (some ob))) (h2:w.heap[g6]?=some (.cells #[.int .i64 (l:Int),.int .i64 (j:Int)] 3 (0,0))∨w.heap[g6]?=some (.cells #[.int .i64 (l:Int),.int .i64 (j:Int)] 121 (0,0))) (h3:w.heap[g3]?=some (.cells D 38 (0,0))) (hs:D.size=32) :
 w.cell? ⟨gt,6,none⟩=some (.map (some ob))∧w.cell? ⟨g6,0,none⟩=some (.int .i64 (l:Int))∧w.cell? ⟨g6,1,none⟩=some (.int .i64 (j:Int))∧(Instr.loadAt 38 (.pointer (some ⟨g3,0,none⟩))).run Tryz.prog w=.ok (.agg D) w:=by
 refine ⟨by rw [cell_of_row _ _ _ _ _ _ h1];exact h1',?_,?_,load_dg w g3 D h3 hs⟩
 · rcases h2 with h2 | h2 <;> (rw [cell_of_row _ _ _ _ _ _ h2];rfl)
 · rcases h2 with h2 | h2 <;> (rw [cell_of_row _ _ _ _ _ _ h2];rfl)
theorem exec_load {P:Program} {ρ:Operand→Value} {o:Oper} {ty:TypeId} {x:Operand} {v:Value} {w:World} (ho:o.op=.load ty x) (h:(Instr.loadAt ty (ρ x)).run P w=.ok v w):(execOp ρ o).run P w=.ok (.value v) w:=by
 unfold execOp
 simp only [ho,Sem.run_bind,h,Result.andThen_ok,Sem.run_pure]
section
variable {w w' : World} {ops : Array Oper} {o : Oper} {a : Act} {Q : Exit → Act → World → Prop} {K : Act → World → Prop} {E : Prop}
theorem S_value {v:Value} (hgd:o.guard=none) (hrun:(execOp a.eval o).run Tryz.prog w=.ok (.value v) w') (h:K (a.put o.dst v) w'):if Region.wanted o (yielded ops a.tmps)=true then Oper.wp Tryz.prog o a w K Q else E:=by
 rw [if_pos (by simp [Region.wanted,hgd])]
 unfold Oper.wp
 rw [hrun,Oper.upon_value]
 exact h
theorem S_skip (hgd:o.guard=none) (hrun:(execOp a.eval o).run Tryz.prog w=.ok .skip w') (h:K (a.put o.dst undef) w'):if Region.wanted o (yielded ops a.tmps)=true then Oper.wp Tryz.prog o a w K Q else E:=by
 rw [if_pos (by simp [Region.wanted,hgd])]
 unfold Oper.wp
 rw [hrun,Oper.upon_skip]
 exact h
theorem exec_entry {P:Program} {ρ:Operand→Value} {o:Oper} {ty:TypeId} {m k:Operand} {v:Value} {w w':World} (ho:o.op=.mapEntry ty m k) (h:(Instr.mapEntry ty (ρ m) (ρ k)).run P w=.ok v w'):(execOp ρ o).run P w=.ok (.value v) w':=by
 unfold execOp
 simp only [ho,Sem.run_bind,h,Result.andThen_ok,Sem.run_pure]
theorem exec_entryStore {P:Program} {ρ:Operand→Value} {o:Oper} {ty:TypeId} {m s x:Operand} {w w':World} (ho:o.op=.entryStore ty m s x) (h:(Instr.entryStore ty (ρ m) (ρ s) (ρ x)).run P w=.ok () w'):(execOp ρ o).run P w=.ok .skip w':=by
 unfold execOp
 simp only [ho,Sem.run_bind,h,Result.andThen_ok,Sem.run_pure]
theorem exec_build1 {P:Program} {ρ:Operand→Value} {o:Oper} {t e:TypeId} {d:Operand} {D:Array Value} {ie:TypeInfo} {z:Value} (ho:o.op=.buildSlice t 1 #[(0,d)]) (hd:ρ d=.agg D) (hu:P.underlying t=some (.slice e)) (hie:P.info? e=some ie) (hz:ie.zero=some z) (hs:D.size=ie.size) (h0:0 < ie.size) (hsm:ie.size≤1024) :
 (execOp ρ o).run P w=.ok (.value (.slice (some ⟨w.heap.size,0,none⟩) 1 1)) (w.alloc (.cells D e)):=by
 have hf:Instr.fill (fun i=>some (i * ie.size,ie.size)) ((Array.range (1 * ie.size)).map (z.cells[· % z.cells.size]!)) (#[(0,Value.agg D)]:Array (Nat × Value)).toList=some D:=by
  have:=Great.fill_whole h0 [Value.agg D] ((Array.range (1 * ie.size)).map (z.cells[· % z.cells.size]!)) (by intro v hv;rw [List.mem_singleton.1 hv];exact hs) (by simp)
  simpa [Value.cells] using this
 unfold execOp
 simp only [ho,List.map_toArray,List.map_cons,List.map_nil,hd]
 rw [Sem.run_bind,run_buildSlice w t e 1 _ D ie z hu hie hz (by omega) (by omega) hf]
 rfl
end
theorem dgCell (D:Array Value) (i:Nat) (u:Value) (h:D.toList[i]?=some u) (w:World):(w.alloc (.cells D 38)).cell? ⟨w.heap.size,i,none⟩=some u:=by
 have h0:(w.alloc (.cells D 38)).heap[w.heap.size]?=some (.cells D 38 (0,0)):=heap_alloc_new _ _
 rw [cell_of_row _ _ i _ _ _ h0]
 simpa using h
def Bk (gt g6 g3 l j:Nat) (cs D:Array Value) (w:World):Prop:=w.heap[gt]?=some (.cells cs 99 (0,0))∧w.heap[g6]?=some (.cells #[.int .i64 (l:Int),.int .i64 (j:Int)] 121 (0,0))∧w.heap[g3]?=some (.cells D 38 (0,0))
theorem Bk.kept {gt g6 g3 l j:Nat} {cs D:Array Value} {w w':World} {row:Option Nat} (h:Bk gt g6 g3 l j cs D w) (hg:w.grownBy w' row) (h1:row ≠ some gt) (h2:row ≠ some g6) (h3:row ≠ some g3):Bk gt g6 g3 l j cs D w':=by
 have lt:∀ k (o:Obj),w.heap[k]?=some o→k < w.heap.size:=fun k o h=>(Array.getElem?_eq_some_iff.1 h).1
 exact ⟨(hg.block gt (lt _ _ h.1) (fun e=>h1 e.symm)).trans h.1,(hg.block g6 (lt _ _ h.2.1) (fun e=>h2 e.symm)).trans h.2.1,(hg.block g3 (lt _ _ h.2.2) (fun e=>h3 e.symm)).trans h.2.2⟩
theorem mkB {w:World} {gt ob g6 l j g3:Nat} {D cs:Array Value} (h:Bk gt g6 g3 l j cs D w) (h1':cs[6]?=some (.map (some ob))) (hs:D.size=32) :
 w.cell? ⟨gt,6,none⟩=some (.map (some ob))∧w.cell? ⟨g6,0,none⟩=some (.int .i64 (l:Int))∧w.cell? ⟨g6,1,none⟩=some (.int .i64 (j:Int))∧(Instr.loadAt 38 (.pointer (some ⟨g3,0,none⟩))).run Tryz.prog w=.ok (.agg D) w:=mkS h.1 h1' (.inr h.2.1) h.2.2 hs
theorem own_row {w w':World} {ρ:Nat→Nat} {e s r n b:Nat} {v:Value} {xs:List Value} (h:OwnL w ρ e s r v n xs) (hg:w.grownBy w' (some b)) (hb:ρ b ≠ r):OwnL w' ρ e s r v n xs:=by
 refine ⟨own_same h.1 (fun k e=>hg.block k (h.1.lt k e).2 (fun e2=>hb ?_)),h.2⟩
 cases e2
 exact h.2 _ e
theorem alloc_size' (w:World) (o:Obj):(w.alloc o).heap.size=w.heap.size+1:=by unfold World.alloc;exact Array.size_push ..
theorem grown_alloc (w:World) (o:Obj):w.grownBy (w.alloc o) none:=⟨rfl,rfl,rfl,by rw [alloc_size'];omega,fun k hk _=>Lib.alloc_old w o k hk⟩
set_option maxHeartbeats 8000000
theorem grow_r6 (W:World) (τ:Nat→Nat) (gt ob g3 g6 l j r:Nat) (cs:Array Value) (d:Dg) (hl:l < 1099511627776) (hj:j < 1099511627776) (h1:W.heap[gt]?=some (.cells cs 99 (0,0))) (h1':cs[6]?=some (.map (some ob))) (h2:W.heap[g6]?=some (.cells #[.int .i64 (l:Int),.int .i64 (j:Int)] 121 (0,0))) (h3:W.heap[g3]?=some (.cells (dgA d.1) 38 (0,0)))
 (no:Nat) (Mo:Nat→Nat→Sc) (hm:MAt W ob no Mo) (hno:no≤1000000) (n:Nat) (xs:List Dg) (ho:OwnL W τ 38 32 r (encS (Mo l j)) n (xs.flatMap dgE)) (hn:n≤1000000) (hr0:r ≠ 0) (l1:τ gt=1) (l3:τ ob=3) (hr1:r ≠ 1) (hr3:r ≠ 3) (l6:τ g6=0) (lg3:τ g3=0) (hdom:∀ k,τ k ≠ 0→k < W.heap.size)
 (v4 v5 u1 u2 u7 u8 u9 uA uB uC uD uE uF uG uH uI uJ uK uL uM uN uO uP uQ uR uS uT uU uV uW uX uY uZ vA vB vC vD vE vF vG vH vI vJ vK vL vM vN vO vP vQ vR vS vT vU vV vW vX vY vZ qA qB qC qD qE qF qG qH qI qJ qK qL qM qN qO qP qQ qR qS qT qU qV qW qX:Value) (K:Act→World→Prop) (R:Exit→Act→World→Prop) (hR:∀ c a a' w,R (.panic c) a w→a.defers=a'.defers→R (.panic c) a' w)
 (hK:∀ (u1 u2 u7 u8 u9 uA uB uC uD uE uF uG uH uI uJ uK uL uM uN uO uP uQ uR uS uT uU uV uW uX uY uZ vA vB vC vD vE vF vG vH vI vJ vK vL vM vN vO vP vQ vR vS vT vU vV vW vX vY vZ qA qB qC qD qE qF qG qH qI qJ qK qL qM qN qO qP qQ qR qS qT qU qV qW qX:Value) (w':World) (τ':Nat→Nat) (p:Nat × Nat × Nat),MAt w' ob (no+1) (put2 Mo l j (some p))→OwnL w' τ' 38 32 r (encS (some p)) (n+1) ((xs++[d]).flatMap dgE)→Ext W.heap.size τ τ'→(∀ k,τ' k ≠ 0→k < w'.heap.size)→(∀ k,k < W.heap.size→k ≠ ob→τ k ≠ r→w'.heap[k]?=W.heap[k]?)→w'.os=W.os→w'.tape=W.tape→w'.output=W.output→W.heap.size≤w'.heap.size→K ⟨#[.pointer (some ⟨gt,0,none⟩),u1,u2,.pointer (some ⟨g3,0,none⟩),v4,v5,.pointer (some ⟨g6,0,none⟩),u7,u8,u9,uA,uB,uC,uD,uE,uF,uG,uH,uI,uJ,uK,uL,uM,uN,uO,uP,uQ,uR,uS,uT,uU,uV,uW,uX,uY,uZ,vA,vB,vC,vD,vE,vF,vG,vH,vI,vJ,vK,vL,vM,vN,vO,vP,vQ,vR,vS,vT,vU,vV,vW,vX,vY,vZ,qA,qB,qC,qD,qE,qF,qG,qH,qI,qJ,qK,qL,qM,qN,qO,qP,qQ,qR,qS,qT,qU,qV,qW,qX],[]⟩ w') :
 Code.wp Tryz.prog (headSeq (dropSeq 1 gX)) (Exit.then K R) ⟨#[.pointer (some ⟨gt,0,none⟩),u1,u2,.pointer (some ⟨g3,0,none⟩),v4,v5,.pointer (some ⟨g6,0,none⟩),u7,u8,u9,uA,uB,uC,uD,uE,uF,uG,uH,uI,uJ,uK,uL,uM,uN,uO,uP,uQ,uR,uS,uT,uU,uV,uW,uX,uY,uZ,vA,vB,vC,vD,vE,vF,vG,vH,vI,vJ,vK,vL,vM,vN,vO,vP,vQ,vR,vS,vT,vU,vV,vW,vX,vY,vZ,qA,qB,qC,qD,qE,qF,qG,qH,qI,qJ,qK,qL,qM,qN,qO,qP,qQ,qR,qS,qT,qU,qV,qW,qX],[]⟩ W:=by
 have HK:=hid hK
 have HM:=hid hm
 have HO:=hid ho
 have HDOM:=hid hdom
 obtain ⟨D,hD⟩:∃ D,D=dgA d.1:=⟨_,rfl⟩
 have HDD:=hid hD
 have HDS:=hid (show D.size=32 by rw [hD,dgA_size,d.2])
 rw [← hD] at h3
 have H1:=hid h1;have H1':=hid h1';have H2:=hid h2;have H3:=hid h3
 have hs0:=mkS h1 h1' (.inr h2) h3 HDS.out
 have HLJ:=hid (And.intro hl hj)
 have HLB:=hid (show r ≠ 0∧τ gt=1∧τ ob=3∧r ≠ 1∧r ≠ 3∧τ g6=0∧τ g3=0 from ⟨hr0,l1,l3,hr1,hr3,l6,lg3⟩)
 have HONE:=hid (show ∀ u ∈ D.toList,u.oneCell'=true from fun u hu=>by
  rw [hD] at hu
  exact Array.all_eq_true'.1 (dgA_all d.1) u (Array.mem_toList_iff.1 hu))
 have HQ1:=hid (show (n+1) * 32≤140737488355328 by omega)
 have HQ2:=hid (show n+1≤maxLen by simp [maxLen];omega)
 clear hK hm ho hdom hD h1 h1' h2 h3 hl hj hr0 l1 l3 hr1 hr3 l6 lg3
 conv=>arg 2;whnf
 refine wp_region_held_drew (S:=fun w=>w.cell? ⟨gt,6,none⟩=some (.map (some ob))∧w.cell? ⟨g6,0,none⟩=some (.int .i64 (l:Int))∧w.cell? ⟨g6,1,none⟩=some (.int .i64 (j:Int))∧(Instr.loadAt 38 (.pointer (some ⟨g3,0,none⟩))).run Tryz.prog w=.ok (.agg D) w) (by kernel_rfl) (mkS (w:=W.drew) H1.out H1'.out (.inr H2.out) H3.out HDS.out) (fun hHeld=>?_)
 apply wpTR hR 0
 apply wpTR hR 1
 apply wpTR hR 2
 apply wpTR hR 3
 apply wpTR hR 4
 apply wpLR hR 5 (.agg D)
 · exact fun w hSw=>exec_load rfl (hSw.2.2.2)
 apply wpR 6
 intro K hK
 refine S_value rfl (exec_build1 (e:=38) (D:=D) (by rfl) (by rfl) (by rfl) (by rfl) (by rfl) HDS.out (by decide) (by decide)) ?_
 have hB:Bk gt g6 g3 l j cs D W.drew:=⟨H1.out,H2.out,H3.out⟩
 have hg1:=grown_alloc W.drew (.cells D 38)
 have HB1:=hid (hB.kept hg1 (by simp) (by simp) (by simp))
 have hcell:=fun i u h=>dgCell D i u h W.drew
 have HM1:=hid (show MAt (W.drew.alloc (.cells D 38)) ob no Mo from HM.out.keep (hg1.block ob HM.out.lt (by simp)))
 have ho1:OwnL (W.drew.alloc (.cells D 38)) τ 38 32 r (encS (Mo l j)) n (xs.flatMap dgE):=⟨(show W.drew.ownsRow 0 38 32 (encS (Mo l j)) n (xs.flatMap dgE) from HO.out.1).alloc _,HO.out.2⟩
 have hsz:W.drew.heap.size=W.heap.size:=rfl
 have hsz1:W.heap.size < (W.drew.alloc (.cells D 38)).heap.size:=by rw [alloc_size',hsz];omega
 rw [hsz] at hcell ⊢
 generalize W.drew.alloc (.cells D 38)=w1 at HB1 hg1 hcell HM1 ho1 hsz1 ⊢
 have hn1:some ob ≠ some gt∧some ob ≠ some g6∧some ob ≠ some g3∧τ ob ≠ r:=by
  obtain ⟨a1,a2,a3,a4,a5,a6,a7⟩:=HLB.out
  refine ⟨fun e=>?_,fun e=>?_,fun e=>?_,fun e=>?_⟩ <;> first | (cases e;omega) | omega
 have hn2:∀ k,(encS (Mo l j)).ownBlock=some k→k ≠ gt∧k ≠ g6∧k ≠ g3∧k ≠ ob:=fun k hk=>by
  have h:=HO.out.2 k hk
  obtain ⟨a1,a2,a3,a4,a5,a6,a7⟩:=HLB.out
  refine ⟨fun e=>?_,fun e=>?_,fun e=>?_,fun e=>?_⟩ <;> (subst e;omega)
 have HN1:=hid hn1
 have HN2:=hid hn2
 obtain ⟨st,w2,he,hg2,hst⟩:=HM1.out.entry (show no < maxLen by simp [maxLen];omega) HLJ.out.1 HLJ.out.2
 have HB2:=hid (HB1.out.kept hg2 hn1.1 hn1.2.1 hn1.2.2.1)
 have HO2:=hid (own_row ho1 hg2 hn1.2.2.2)
 have HC2:=hid (show ∀ i u,D.toList[i]?=some u→w2.cell? ((⟨W.heap.size,0,none⟩:Addr).add i)=some u from fun i u h=>by
  have hc:=hcell i u h
  have ea:(⟨W.heap.size,0,none⟩:Addr).add i=⟨W.heap.size,i,none⟩:=by by_cases h0:i=0 <;> simp [Addr.add,h0]
  rw [ea]
  refine (World.cell?_of_block (hg2.block _ hsz1 ?_)).trans hc
  intro e
  have:=HM.out.lt
  injection e with e
  exact absurd (show W.heap.size=ob from e) (by omega))
 have HG1:=hid hg1;have HG2:=hid hg2;have HST:=hid hst
 clear hg1 hg2 hst hcell ho1 hn1 hn2 hB
 apply bk hK
 · exact (mkB HB1.out H1'.out HDS.out)
 intro hHeld
 clear hK K
 apply wpR 7
 intro K hK
 refine S_value rfl (exec_entry (by rfl) he) ?_
 apply bk hK
 · exact (mkB HB2.out H1'.out HDS.out)
 intro hHeld
 clear hK K
 apply wpTR hR 8
 apply wpTR hR 10
 apply wpR 9
 intro K hK
 refine S_appendN rfl (.tmp 29) (.tmp 31) 23 (by rfl) sl23 0 (encS (Mo l j)) n (xs.flatMap dgE) (by rfl) HO2.out.1 ⟨W.heap.size,0,none⟩ 1 1 D.toList (by rfl) (by rw [Array.length_toList,HDS.out]) HC2.out HONE.out HQ1.out HQ2.out (Nat.zero_le _) (fun a4 c4 w4 ho4 hg4 hat4=>?_)
 obtain ⟨g9,c9,e9,-⟩:=ho4.form (Nat.succ_pos n)
 rw [e9] at ho4 hat4 ⊢
 have hn4:(encS (Mo l j)).ownBlock ≠ some gt∧(encS (Mo l j)).ownBlock ≠ some g6∧(encS (Mo l j)).ownBlock ≠ some g3∧(encS (Mo l j)).ownBlock ≠ some ob:=⟨fun e=>(HN2.out _ e).1 rfl,fun e=>(HN2.out _ e).2.1 rfl,fun e=>(HN2.out _ e).2.2.1 rfl,fun e=>(HN2.out _ e).2.2.2 rfl⟩
 have HB4:=hid (HB2.out.kept hg4 hn4.1 hn4.2.1 hn4.2.2.1)
 obtain ⟨w5,he5,hm5,hg5⟩:=HST.out (g9,n+1,c9) w4 (hg4.block ob (Nat.lt_of_lt_of_le HM1.out.lt HG2.out.size) (fun e=>hn4.2.2.2 e.symm))
 have HG4:=hid hg4;have HG5:=hid hg5;have HM5:=hid hm5;have HO4:=hid ho4;have HAT:=hid hat4
 clear hg4 hg5 hm5 ho4 hat4 hn4
 apply bk hK
 · exact (mkB HB4.out H1'.out HDS.out)
 intro hHeld
 clear hK K
 apply wpR 11
 intro K hK
 refine S_skip rfl (exec_entryStore (by rfl) he5) ?_
 have HB5:=hid (HB4.out.kept HG5.out HN1.out.1 HN1.out.2.1 HN1.out.2.2.1)
 apply bk hK
 · exact (mkB HB5.out H1'.out HDS.out)
 intro hHeld
 clear hK K
 refine wpAnyH_done (by kernel_rfl) ?_ _
 have hne:(Value.slice (some ⟨g9,0,none⟩) (n+1) c9).ownBlock ≠ some ob:=by
  rcases HAT.out with h | h
  · rw [h];exact fun e=>(HN2.out _ e).2.2.2 rfl
  · rw [h];intro e;have h1:=HM1.out.lt;have h2:=HG2.out.size;injection e with e;omega
 have z1:W.heap.size≤w1.heap.size:=HG1.out.size
 have z2:=HG2.out.size;have z4:=HG4.out.size;have z5:=HG5.out.size
 obtain ⟨τ',x1,x2,x3⟩:=relabel HO2.out (fun k hk=>Nat.lt_of_lt_of_le (HDOM.out k hk) (by omega)) (HO4.out.kept HG5.out (.inr hne)) HAT.out HLB.out.1 (by omega)
 refine HK.out _ _ _ _ _ _ _ _ _ _ _ _ _ _ _ _ _ _ _ _ _ _ _ _ _ _ _ _ _ _ _ _ _ _ _ _ _ _ _ _ _ _ _ _ _ _ _ _ _ _ _ _ _ _ _ _ _ _ _ _ _ _ _ _ _ _ _ _ _ _ _ _ _ _ _ _ _ _ _ _ _ w5 τ' (g9,n+1,c9) HM5.out ?_ ⟨x1.same,fun k hk h0=>x1.old k (by omega) h0⟩ x2 ?_ ?_ ?_ ?_ (by omega)
 · have e:(xs++[d]).flatMap dgE=xs.flatMap dgE++D.toList:=by rw [HDD.out,List.flatMap_append];simp [dgA,dgE]
   rw [e]
   exact x3
 · intro k hk h1 h2
   have q1:w1.heap[k]?=W.heap[k]?:=HG1.out.block k hk (by simp)
   have q2:=HG2.out.block k (by omega) (fun e=>h1 (by injection e))
   have q4:=HG4.out.block k (by omega) (fun e=>h2 (HO.out.2 k e.symm))
   have q5:=HG5.out.block k (by omega) (fun e=>h1 (by injection e))
   exact q5.trans (q4.trans (q2.trans q1))
 · exact HG5.out.os.trans (HG4.out.os.trans (HG2.out.os.trans HG1.out.os))
 · exact HG5.out.tape.trans (HG4.out.tape.trans (HG2.out.tape.trans HG1.out.tape))
 · exact HG5.out.output.trans (HG4.out.output.trans (HG2.out.output.trans HG1.out.output))
end
section
open Go.Maps Go.WideMaps Go.ChangeMaps
theorem exec_lookup {P:Program} {ρ:Operand→Value} {o:Oper} {ty:TypeId} {m k:Operand} {ok:Bool} {v:Value} {w:World} (ho:o.op=.lookup ty m k ok) (h:(Instr.lookup ty (ρ m) (ρ k) ok).run P w=.ok v w):(execOp ρ o).run P w=.ok (.value v) w:=by
 unfold execOp
 simp only [ho,Sem.run_bind,h,Result.andThen_ok,Sem.run_pure]
theorem exec_mapUpdate {P:Program} {ρ:Operand→Value} {o:Oper} {ty:TypeId} {m s x:Operand} {w w':World} (ho:o.op=.mapUpdate ty m s x) (h:(Instr.mapUpdate ty (ρ m) (ρ s) (ρ x)).run P w=.ok () w'):(execOp ρ o).run P w=.ok .skip w':=by
 unfold execOp
 simp only [ho,Sem.run_bind,h,Result.andThen_ok,Sem.run_pure]
theorem mkL {w:World} {gt fb ob g6 l j no g n c:Nat} {Mo:Nat→Nat→Sc} {cs:Array Value} (h:w.heap[gt]?=some (.cells cs 99 (0,0))) (h5:cs[5]?=some (.map (some fb))) (h6:cs[6]?=some (.map (some ob))) (hg6:w.heap[g6]?=some (.cells #[.int .i64 (l:Int),.int .i64 (j:Int)] 121 (0,0))) (hm:MAt w ob no Mo) (hl:l < 1099511627776) (hj:j < 1099511627776) (hM:Mo l j=some (g,n,c)) :
 w.cell? ⟨gt,5,none⟩=some (.map (some fb))∧w.cell? ⟨gt,6,none⟩=some (.map (some ob))∧w.cell? ⟨g6,0,none⟩=some (.int .i64 (l:Int))∧w.cell? ⟨g6,1,none⟩=some (.int .i64 (j:Int))∧(Instr.lookup 95 (.map (some ob)) (keyV l j) false).run Tryz.prog w=.ok (.slice (some ⟨g,0,none⟩) n c) w:=by
 have hk:=hm.look hl hj
 rw [hM] at hk
 refine ⟨by rw [cell_of_row _ _ _ _ _ _ h];exact h5,by rw [cell_of_row _ _ _ _ _ _ h];exact h6,by rw [cell_of_row _ _ _ _ _ _ hg6];rfl,by rw [cell_of_row _ _ _ _ _ _ hg6];rfl,hk⟩
set_option maxHeartbeats 8000000
theorem grow_r7a (W:World) (gt fb ob g3 g6 l j no g n c:Nat) (Mo:Nat→Nat→Sc) (cs:Array Value) (hl:l < 1099511627776) (hj:j < 1099511627776) (h1:W.heap[gt]?=some (.cells cs 99 (0,0))) (h5:cs[5]?=some (.map (some fb))) (h6:cs[6]?=some (.map (some ob))) (h2:W.heap[g6]?=some (.cells #[.int .i64 (l:Int),.int .i64 (j:Int)] 121 (0,0)))
 (hm:MAt W ob no Mo) (hM:Mo l j=some (g,n,c)) (hn:n < 256)
 (v4 u1 u2 u7 u8 u9 uA uB uC uD uE uF uG uH uI uJ uK uL uM uN uO uP uQ uR uS uT uU uV uW uX uY uZ vA vB vC vD vE vF vG vH vI vJ vK vL vM vN vO vP vQ vR vS vT vU vV vW vX vY vZ qA qB qC qD qE qF qG qH qI qJ qK qL qM qN qO qP qQ qR qS qT qU qV qW qX:Value) (K:Act→World→Prop) (R:Exit→Act→World→Prop) (hR:∀ c a a' w,R (.panic c) a w→a.defers=a'.defers→R (.panic c) a' w)
 (hK:∀ (u1 u2 u7 u8 u9 uA uB uC uD uE uF uG uH uI uJ uK uL uM uN uO uP uQ uR uS uT uU uV uW uX uY uZ vA vB vC vD vE vF vG vH vI vJ vK vL vM vN vO vP vQ vR vS vT vU vV vW vX vY vZ qA qB qC qD qE qF qG qH qI qJ qK qL qM qN qO qP qQ qR qS qT qU qV qW qX:Value),R .ret ⟨#[.pointer (some ⟨gt,0,none⟩),u1,u2,.pointer (some ⟨g3,0,none⟩),v4,.int .i64 (l:Int),.pointer (some ⟨g6,0,none⟩),u7,u8,u9,uA,uB,uC,uD,uE,uF,uG,uH,uI,uJ,uK,uL,uM,uN,uO,uP,uQ,uR,uS,uT,uU,uV,uW,uX,uY,uZ,vA,vB,vC,vD,vE,vF,vG,vH,vI,vJ,vK,vL,vM,vN,vO,vP,vQ,vR,vS,vT,vU,vV,vW,vX,vY,vZ,qA,qB,qC,qD,qE,qF,qG,qH,qI,qJ,qK,qL,qM,qN,qO,qP,qQ,qR,qS,qT,qU,qV,qW,qX],[]⟩ W.drew) :
 Code.wp Tryz.prog (headSeq (dropSeq 2 gX)) (Exit.then K R) ⟨#[.pointer (some ⟨gt,0,none⟩),u1,u2,.pointer (some ⟨g3,0,none⟩),v4,.int .i64 (l:Int),.pointer (some ⟨g6,0,none⟩),u7,u8,u9,uA,uB,uC,uD,uE,uF,uG,uH,uI,uJ,uK,uL,uM,uN,uO,uP,uQ,uR,uS,uT,uU,uV,uW,uX,uY,uZ,vA,vB,vC,vD,vE,vF,vG,vH,vI,vJ,vK,vL,vM,vN,vO,vP,vQ,vR,vS,vT,vU,vV,vW,vX,vY,vZ,qA,qB,qC,qD,qE,qF,qG,qH,qI,qJ,qK,qL,qM,qN,qO,qP,qQ,qR,qS,qT,qU,qV,qW,qX],[]⟩ W:=by
 have HK:=hid hK
 have hs0:=mkL (w:=W.drew) h1 h5 h6 h2 hm hl hj hM
 have hb:decide ((n:Int) < 256)=true:=decide_eq_true (by omega)
 have HLJ:=hid (And.intro hl hj)
 clear hK hm h1 h2 hl hj hn h5 h6
 conv=>arg 2;whnf
 refine wp_seq ?_
 refine wp_region_held_drew (S:=fun w=>w.cell? ⟨gt,5,none⟩=some (.map (some fb))∧w.cell? ⟨gt,6,none⟩=some (.map (some ob))∧w.cell? ⟨g6,0,none⟩=some (.int .i64 (l:Int))∧w.cell? ⟨g6,1,none⟩=some (.int .i64 (j:Int))∧(Instr.lookup 95 (.map (some ob)) (keyV l j) false).run Tryz.prog w=.ok (.slice (some ⟨g,0,none⟩) n c) w) (by kernel_rfl) hs0 (fun hHeld=>?_)
 apply wpTR hR 0
 apply wpTR hR 1
 apply wpTR hR 2
 apply wpTR hR 3
 apply wpTR hR 4
 apply wpLR hR 5 (.slice (some ⟨g,0,none⟩) n c)
 · exact fun w hSw=>exec_lookup (by rfl) (hSw.2.2.2.2)
 apply wpTR hR 6
 apply wpTR hR 7
 apply wpTR hR 8
 apply wpUR hR 9
 apply wpUR hR 10
 apply wpTR hR 11
 refine wpAnyH_done (by kernel_rfl) ?_ _
 go_wp2
 exact HK.out _ _ _ _ _ _ _ _ _ _ _ _ _ _ _ _ _ _ _ _ _ _ _ _ _ _ _ _ _ _ _ _ _ _ _ _ _ _ _ _ _ _ _ _ _ _ _ _ _ _ _ _ _ _ _ _ _ _ _ _ _ _ _ _ _ _ _ _ _ _ _ _ _ _ _ _ _ _ _ _ _ 
theorem grow_r7b (W:World) (gt fb ob g3 g6 l j no g n c:Nat) (Mo:Nat→Nat→Sc) (cs:Array Value) (hl:l < 1099511627776) (hj:j < 1099511627776) (h1:W.heap[gt]?=some (.cells cs 99 (0,0))) (h5:cs[5]?=some (.map (some fb))) (h6:cs[6]?=some (.map (some ob))) (h2:W.heap[g6]?=some (.cells #[.int .i64 (l:Int),.int .i64 (j:Int)] 121 (0,0)))
 (hm:MAt W ob no Mo) (hM:Mo l j=some (g,n,c)) (hn:n=256) (hl0:l=0)
 (v4 u1 u2 u7 u8 u9 uA uB uC uD uE uF uG uH uI uJ uK uL uM uN uO uP uQ uR uS uT uU uV uW uX uY uZ vA vB vC vD vE vF vG vH vI vJ vK vL vM vN vO vP vQ vR vS vT vU vV vW vX vY vZ qA qB qC qD qE qF qG qH qI qJ qK qL qM qN qO qP qQ qR qS qT qU qV qW qX:Value) (K:Act→World→Prop) (R:Exit→Act→World→Prop) (hR:∀ c a a' w,R (.panic c) a w→a.defers=a'.defers→R (.panic c) a' w)
 (hK:∀ (u1 u2 u7 u8 u9 uA uB uC uD uE uF uG uH uI uJ uK uL uM uN uO uP uQ uR uS uT uU uV uW uX uY uZ vA vB vC vD vE vF vG vH vI vJ vK vL vM vN vO vP vQ vR vS vT vU vV vW vX vY vZ qA qB qC qD qE qF qG qH qI qJ qK qL qM qN qO qP qQ qR qS qT qU qV qW qX:Value),K ⟨#[.pointer (some ⟨gt,0,none⟩),u1,u2,.pointer (some ⟨g3,0,none⟩),v4,.int .i64 (l:Int),.pointer (some ⟨g6,0,none⟩),u7,u8,u9,uA,uB,uC,uD,uE,uF,uG,uH,uI,uJ,uK,uL,uM,uN,uO,uP,uQ,uR,uS,uT,uU,uV,uW,uX,uY,uZ,vA,vB,vC,vD,vE,vF,vG,vH,vI,vJ,vK,vL,vM,vN,vO,vP,vQ,vR,vS,vT,vU,vV,vW,vX,vY,vZ,qA,qB,qC,qD,qE,qF,qG,qH,qI,qJ,qK,qL,qM,qN,qO,qP,qQ,qR,qS,qT,qU,qV,qW,qX],[]⟩ W.drew) :
 Code.wp Tryz.prog (headSeq (dropSeq 2 gX)) (Exit.then K R) ⟨#[.pointer (some ⟨gt,0,none⟩),u1,u2,.pointer (some ⟨g3,0,none⟩),v4,.int .i64 (l:Int),.pointer (some ⟨g6,0,none⟩),u7,u8,u9,uA,uB,uC,uD,uE,uF,uG,uH,uI,uJ,uK,uL,uM,uN,uO,uP,uQ,uR,uS,uT,uU,uV,uW,uX,uY,uZ,vA,vB,vC,vD,vE,vF,vG,vH,vI,vJ,vK,vL,vM,vN,vO,vP,vQ,vR,vS,vT,vU,vV,vW,vX,vY,vZ,qA,qB,qC,qD,qE,qF,qG,qH,qI,qJ,qK,qL,qM,qN,qO,qP,qQ,qR,qS,qT,qU,qV,qW,qX],[]⟩ W:=by
 have HK:=hid hK
 have hs0:=mkL (w:=W.drew) h1 h5 h6 h2 hm hl hj hM
 have hb:decide ((n:Int) < 256)=false:=decide_eq_false (by omega)
 have hb5:decide ((l:Int)=5)=false:=decide_eq_false (by omega)
 have HLJ:=hid (And.intro hl hj)
 clear hK hm h1 h2 hl hj hn h5 h6 hl0
 conv=>arg 2;whnf
 refine wp_seq ?_
 refine wp_region_held_drew (S:=fun w=>w.cell? ⟨gt,5,none⟩=some (.map (some fb))∧w.cell? ⟨gt,6,none⟩=some (.map (some ob))∧w.cell? ⟨g6,0,none⟩=some (.int .i64 (l:Int))∧w.cell? ⟨g6,1,none⟩=some (.int .i64 (j:Int))∧(Instr.lookup 95 (.map (some ob)) (keyV l j) false).run Tryz.prog w=.ok (.slice (some ⟨g,0,none⟩) n c) w) (by kernel_rfl) hs0 (fun hHeld=>?_)
 apply wpTR hR 0
 apply wpTR hR 1
 apply wpTR hR 2
 apply wpTR hR 3
 apply wpTR hR 4
 apply wpLR hR 5 (.slice (some ⟨g,0,none⟩) n c)
 · exact fun w hSw=>exec_lookup (by rfl) (hSw.2.2.2.2)
 apply wpTR hR 6
 apply wpTR hR 7
 apply wpTR hR 8
 apply wpTR hR 9
 refine wpAnyH_take (i:=10) (oi:=_) (v:=.bool false) rfl (by kernel_rfl) (by kernel_rfl) (by kernel_rfl) (fun c a w h=>hR c _ _ w h rfl) (Or.inl ⟨by rfl,?_⟩) (by assumption) ?_
 · intro w hSw
   (try dsimp only at hSw)
   go_simp
   exact of_decide_eq_false hb5
 (try simp only [Act.put,List.setIfInBounds_toArray,List.set_cons_zero,List.set_cons_succ,List.getElem_toArray,List.getElem_cons_succ,List.getElem_cons_zero])
 apply wpTR hR 11
 refine wpAnyH_done (by kernel_rfl) ?_ _
 go_wp2
 exact HK.out _ _ _ _ _ _ _ _ _ _ _ _ _ _ _ _ _ _ _ _ _ _ _ _ _ _ _ _ _ _ _ _ _ _ _ _ _ _ _ _ _ _ _ _ _ _ _ _ _ _ _ _ _ _ _ _ _ _ _ _ _ _ _ _ _ _ _ _ _ _ _ _ _ _ _ _ _ _ _ _ _ 
theorem grow_r8 (W:World) (gt fb ob g3 g6 l j no g n c:Nat) (Mo:Nat→Nat→Sc) (cs:Array Value) (hl:l < 1099511627776) (hj:j < 1099511627776) (h1:W.heap[gt]?=some (.cells cs 99 (0,0))) (h5:cs[5]?=some (.map (some fb))) (h6:cs[6]?=some (.map (some ob))) (h2:W.heap[g6]?=some (.cells #[.int .i64 (l:Int),.int .i64 (j:Int)] 121 (0,0)))
 (hm:MAt W ob no Mo) (hM:Mo l j=some (g,n,c)) (nf:Nat) (Mf:Nat→Nat→Sc) (hmf:MAt W fb nf Mf) (hnf:nf≤1000000) (hne:fb ≠ gt∧fb ≠ g6∧fb ≠ ob)
 (v4 u1 u2 u7 u8 u9 uA uB uC uD uE uF uG uH uI uJ uK uL uM uN uO uP uQ uR uS uT uU uV uW uX uY uZ vA vB vC vD vE vF vG vH vI vJ vK vL vM vN vO vP vQ vR vS vT vU vV vW vX vY vZ qA qB qC qD qE qF qG qH qI qJ qK qL qM qN qO qP qQ qR qS qT qU qV qW qX:Value) (K:Act→World→Prop) (R:Exit→Act→World→Prop) (hR:∀ c a a' w,R (.panic c) a w→a.defers=a'.defers→R (.panic c) a' w)
 (hK:∀ (u1 u2 u7 u8 u9 uA uB uC uD uE uF uG uH uI uJ uK uL uM uN uO uP uQ uR uS uT uU uV uW uX uY uZ vA vB vC vD vE vF vG vH vI vJ vK vL vM vN vO vP vQ vR vS vT vU vV vW vX vY vZ qA qB qC qD qE qF qG qH qI qJ qK qL qM qN qO qP qQ qR qS qT qU qV qW qX:Value) (w':World),W.grownBy w' (some fb)→MAt w' fb (nf+1) (put2 Mf l j (some (g,n,c)))→K ⟨#[.pointer (some ⟨gt,0,none⟩),u1,u2,.pointer (some ⟨g3,0,none⟩),v4,.int .i64 (l:Int),.pointer (some ⟨g6,0,none⟩),u7,u8,u9,uA,uB,uC,uD,uE,uF,uG,uH,uI,uJ,uK,uL,uM,uN,uO,uP,uQ,uR,uS,uT,uU,uV,uW,uX,uY,uZ,vA,vB,vC,vD,vE,vF,vG,vH,vI,vJ,vK,vL,vM,vN,vO,vP,vQ,vR,vS,vT,vU,vV,vW,vX,vY,vZ,qA,qB,qC,qD,qE,qF,qG,qH,qI,qJ,qK,qL,qM,qN,qO,qP,qQ,qR,qS,qT,qU,qV,qW,qX],[]⟩ w') :
 Code.wp Tryz.prog (headSeq (dropSeq 3 gX)) (Exit.then K R) ⟨#[.pointer (some ⟨gt,0,none⟩),u1,u2,.pointer (some ⟨g3,0,none⟩),v4,.int .i64 (l:Int),.pointer (some ⟨g6,0,none⟩),u7,u8,u9,uA,uB,uC,uD,uE,uF,uG,uH,uI,uJ,uK,uL,uM,uN,uO,uP,uQ,uR,uS,uT,uU,uV,uW,uX,uY,uZ,vA,vB,vC,vD,vE,vF,vG,vH,vI,vJ,vK,vL,vM,vN,vO,vP,vQ,vR,vS,vT,vU,vV,vW,vX,vY,vZ,qA,qB,qC,qD,qE,qF,qG,qH,qI,qJ,qK,qL,qM,qN,qO,qP,qQ,qR,qS,qT,qU,qV,qW,qX],[]⟩ W:=by
 have HK:=hid hK
 have hs0:=mkL (w:=W.drew) h1 h5 h6 h2 hm hl hj hM
 obtain ⟨w5,he5,hm5,hg5⟩:=(show MAt W.drew fb nf Mf from hmf.keep rfl).update (by simp [maxLen];omega) hl hj (g,n,c)
 have HM5:=hid hm5
 have HG5:=hid hg5
 have hlt:∀ (k:Nat) (o:Obj),W.heap[k]?=some o→k < W.drew.heap.size:=fun k o h=>(Array.getElem?_eq_some_iff.1 h).1
 have hs5:=mkL (w:=w5) ((hg5.block gt (hlt _ _ h1) (fun e=>hne.1 (by injection e with e;exact e.symm))).trans h1) h5 h6 ((hg5.block g6 (hlt _ _ h2) (fun e=>hne.2.1 (by injection e with e;exact e.symm))).trans h2) (hm.keep (hg5.block ob hm.lt (fun e=>hne.2.2 (by injection e with e;exact e.symm)))) hl hj hM
 have HLJ:=hid (And.intro hl hj)
 clear hK hm h1 h2 hl hj h5 h6 hmf hm5 hg5 hlt hne
 conv=>arg 2;whnf
 refine wp_region_held_drew (S:=fun w=>w.cell? ⟨gt,5,none⟩=some (.map (some fb))∧w.cell? ⟨gt,6,none⟩=some (.map (some ob))∧w.cell? ⟨g6,0,none⟩=some (.int .i64 (l:Int))∧w.cell? ⟨g6,1,none⟩=some (.int .i64 (j:Int))∧(Instr.lookup 95 (.map (some ob)) (keyV l j) false).run Tryz.prog w=.ok (.slice (some ⟨g,0,none⟩) n c) w) (by kernel_rfl) hs0 (fun hHeld=>?_)
 apply wpTR hR 0
 apply wpTR hR 1
 apply wpTR hR 2
 apply wpTR hR 3
 apply wpTR hR 4
 apply wpTR hR 5
 apply wpTR hR 6
 apply wpTR hR 7
 apply wpTR hR 8
 apply wpTR hR 9
 apply wpLR hR 10 (.slice (some ⟨g,0,none⟩) n c)
 · exact fun w hSw=>exec_lookup (by rfl) (hSw.2.2.2.2)
 apply wpR 11
 intro K hK
 refine S_skip rfl (exec_mapUpdate (by rfl) he5) ?_
 apply bk hK
 · exact hs5
 intro hHeld
 clear hK K
 refine wpAnyH_done (by kernel_rfl) ?_ _
 exact HK.out _ _ _ _ _ _ _ _ _ _ _ _ _ _ _ _ _ _ _ _ _ _ _ _ _ _ _ _ _ _ _ _ _ _ _ _ _ _ _ _ _ _ _ _ _ _ _ _ _ _ _ _ _ _ _ _ _ _ _ _ _ _ _ _ _ _ _ _ _ _ _ _ _ _ _ _ _ _ _ _ _ _ ⟨HG5.out.os,HG5.out.tape,HG5.out.output,HG5.out.size,HG5.out.block⟩ HM5.out
theorem exec_delete {P:Program} {ρ:Operand→Value} {o:Oper} {m k:Operand} {t t':TypeId} {w w':World} {v:Value} (ho:o.op=.call { callee:=.builtin .delete,args:=#[m,k],argTypes:=#[t,t'] }) (h:(Builtin.delete_ #[t,t'] o.type #[ρ m,ρ k]).run P w=.ok v w'):(execOp ρ o).run P w=.ok (.value v) w':=by
 unfold execOp
 simp only [ho,resolve,invoke,builtin,Sem.run_bind,Sem.run_pure,Result.andThen_ok,List.map_toArray,List.map_cons,List.map_nil,h]
theorem grow_r9 (W:World) (gt ob g3 g6 l j no:Nat) (Mo:Nat→Nat→Sc) (cs:Array Value) (hl:l < 1099511627776) (hj:j < 1099511627776) (h1:W.heap[gt]?=some (.cells cs 99 (0,0))) (h6:cs[6]?=some (.map (some ob))) (h2:W.heap[g6]?=some (.cells #[.int .i64 (l:Int),.int .i64 (j:Int)] 121 (0,0)))
 (hm:MAt W ob no Mo) (hne:ob ≠ gt∧ob ≠ g6)
 (v4 u1 u2 u7 u8 u9 uA uB uC uD uE uF uG uH uI uJ uK uL uM uN uO uP uQ uR uS uT uU uV uW uX uY uZ vA vB vC vD vE vF vG vH vI vJ vK vL vM vN vO vP vQ vR vS vT vU vV vW vX vY vZ qA qB qC qD qE qF qG qH qI qJ qK qL qM qN qO qP qQ qR qS qT qU qV qW qX:Value) (K:Act→World→Prop) (R:Exit→Act→World→Prop) (hR:∀ c a a' w,R (.panic c) a w→a.defers=a'.defers→R (.panic c) a' w)
 (hK:∀ (u1 u2 u7 u8 u9 uA uB uC uD uE uF uG uH uI uJ uK uL uM uN uO uP uQ uR uS uT uU uV uW uX uY uZ vA vB vC vD vE vF vG vH vI vJ vK vL vM vN vO vP vQ vR vS vT vU vV vW vX vY vZ qA qB qC qD qE qF qG qH qI qJ qK qL qM qN qO qP qQ qR qS qT qU qV qW qX:Value) (w':World),W.grownBy w' (some ob)→MAt w' ob no (put2 Mo l j none)→K ⟨#[.pointer (some ⟨gt,0,none⟩),u1,u2,.pointer (some ⟨g3,0,none⟩),v4,.int .i64 (l:Int),.pointer (some ⟨g6,0,none⟩),u7,u8,u9,uA,uB,uC,uD,uE,uF,uG,uH,uI,uJ,uK,uL,uM,uN,uO,uP,uQ,uR,uS,uT,uU,uV,uW,uX,uY,uZ,vA,vB,vC,vD,vE,vF,vG,vH,vI,vJ,vK,vL,vM,vN,vO,vP,vQ,vR,vS,vT,vU,vV,vW,vX,vY,vZ,qA,qB,qC,qD,qE,qF,qG,qH,qI,qJ,qK,qL,qM,qN,qO,qP,qQ,qR,qS,qT,qU,qV,qW,qX],[]⟩ w') :
 Code.wp Tryz.prog (headSeq (dropSeq 4 gX)) (Exit.then K R) ⟨#[.pointer (some ⟨gt,0,none⟩),u1,u2,.pointer (some ⟨g3,0,none⟩),v4,.int .i64 (l:Int),.pointer (some ⟨g6,0,none⟩),u7,u8,u9,uA,uB,uC,uD,uE,uF,uG,uH,uI,uJ,uK,uL,uM,uN,uO,uP,uQ,uR,uS,uT,uU,uV,uW,uX,uY,uZ,vA,vB,vC,vD,vE,vF,vG,vH,vI,vJ,vK,vL,vM,vN,vO,vP,vQ,vR,vS,vT,vU,vV,vW,vX,vY,vZ,qA,qB,qC,qD,qE,qF,qG,qH,qI,qJ,qK,qL,qM,qN,qO,qP,qQ,qR,qS,qT,qU,qV,qW,qX],[]⟩ W:=by
 have HK:=hid hK
 have hs0:W.drew.cell? ⟨gt,6,none⟩=some (.map (some ob))∧W.drew.cell? ⟨g6,0,none⟩=some (.int .i64 (l:Int))∧W.drew.cell? ⟨g6,1,none⟩=some (.int .i64 (j:Int)) :=
  ⟨by rw [cell_of_row W.drew _ _ _ _ _ h1];exact h6,by rw [cell_of_row W.drew _ _ _ _ _ h2];rfl,by rw [cell_of_row W.drew _ _ _ _ _ h2];rfl⟩
 have H1:=hid h1;have H2:=hid h2;have H6:=hid h6;have HNE:=hid hne
 have HM0:=hid (show MAt W.drew ob no Mo from hm.keep rfl)
 have HLJ:=hid (And.intro hl hj)
 clear hK hm h1 h2 hl hj h6 hne
 conv=>arg 2;whnf
 refine wp_region_held_drew (S:=fun w=>w.cell? ⟨gt,6,none⟩=some (.map (some ob))∧w.cell? ⟨g6,0,none⟩=some (.int .i64 (l:Int))∧w.cell? ⟨g6,1,none⟩=some (.int .i64 (j:Int))) (by kernel_rfl) hs0 (fun hHeld=>?_)
 apply wpTR hR 0
 apply wpTR hR 1
 apply wpTR hR 2
 apply wpTR hR 3
 apply wpTR hR 4
 apply wpR 5
 intro K hK
 obtain ⟨w5,he5,hm5,hg5⟩:=HM0.out.del HLJ.out.1 HLJ.out.2 _
 have hlt:∀ (k:Nat) (o:Obj),W.heap[k]?=some o→k < W.drew.heap.size:=fun k o h=>(Array.getElem?_eq_some_iff.1 h).1
 have k1:=(hg5.block gt (hlt _ _ H1.out) (fun e=>HNE.out.1 (by injection e with e;exact e.symm))).trans H1.out
 have k2:=(hg5.block g6 (hlt _ _ H2.out) (fun e=>HNE.out.2 (by injection e with e;exact e.symm))).trans H2.out
 refine S_value rfl (exec_delete (by rfl) he5) ?_
 refine hK.out _ _ ⟨by rw [cell_of_row w5 _ _ _ _ _ k1];exact H6.out,by rw [cell_of_row w5 _ _ _ _ _ k2];rfl,by rw [cell_of_row w5 _ _ _ _ _ k2];rfl⟩ (fun hHeld=>?_)
 clear hK K
 (try simp only [Act.put,List.setIfInBounds_toArray,List.set_cons_zero,List.set_cons_succ,List.getElem_toArray,List.getElem_cons_succ,List.getElem_cons_zero])
 refine wpAnyH_done (by kernel_rfl) ?_ _
 exact HK.out _ _ _ _ _ _ _ _ _ _ _ _ _ _ _ _ _ _ _ _ _ _ _ _ _ _ _ _ _ _ _ _ _ _ _ _ _ _ _ _ _ _ _ _ _ _ _ _ _ _ _ _ _ _ _ _ _ _ _ _ _ _ _ _ _ _ _ _ _ _ _ _ _ _ _ _ _ _ _ _ _ _ ⟨hg5.os,hg5.tape,hg5.output,hg5.size,hg5.block⟩ hm5
end
end Go.Proofs.YtgkehahklccacaaGreatDoor
