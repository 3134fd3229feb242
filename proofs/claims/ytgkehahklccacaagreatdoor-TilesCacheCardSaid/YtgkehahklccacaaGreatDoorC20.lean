import Derived.Test.YtgkehahklccacaaGreatDoorC19
namespace Go.Proofs.YtgkehahklccacaaGreatDoor
open Go Go.RowKit
open Go.Lib (hid)
set_option maxRecDepth 100000
set_option maxHeartbeats 1000000
set_option linter.unusedVariables false
set_option linter.unusedSimpArgs false
section
open Go.Maps Go.WideMaps Go.ChangeMaps
theorem DS.same {w w':World} {g off n c:Nat} {ds:List Dg} (h:DS w (some ⟨g,off,none⟩) n c ds) (hk:w'.heap[g]?=w.heap[g]?):DS w' (some ⟨g,off,none⟩) n c ds:=by
 obtain ⟨h1,h2,h3,h4⟩:=h
 refine ⟨h1,h2,h3,fun i x hx=>?_⟩
 obtain ⟨b,o,e,hc⟩:=h4 i x hx
 refine ⟨b,o,e,fun j v hv=>(World.cell?_of_block ?_).trans (hc j v hv)⟩
 injection e with e
 injection e with e1 e2
 rw [← e1]
 exact hk
set_option maxHeartbeats 4000000
theorem grow_r5 (W:World) (gt g3 m l j:Nat) (hm:m < 1099511627776) (hj:j=m / 256)
 (u1 u2 u6 u7 u8 u9 uA uB uC uD uE uF uG uH uI uJ uK uL uM uN uO uP uQ uR uS uT uU uV uW uX uY uZ vA vB vC vD vE vF vG vH vI vJ vK vL vM vN vO vP vQ vR vS vT vU vV vW vX vY vZ qA qB qC qD qE qF qG qH qI qJ qK qL qM qN qO qP qQ qR qS qT qU qV qW qX:Value) (K:Act→World→Prop) (R:Exit→Act→World→Prop) (hR:∀ c a a' w,R (.panic c) a w→a.defers=a'.defers→R (.panic c) a' w)
 (hK:∀ (u1 u2 u7 u8 u9 uA uB uC uD uE uF uG uH uI uJ uK uL uM uN uO uP uQ uR uS uT uU uV uW uX uY uZ vA vB vC vD vE vF vG vH vI vJ vK vL vM vN vO vP vQ vR vS vT vU vV vW vX vY vZ qA qB qC qD qE qF qG qH qI qJ qK qL qM qN qO qP qQ qR qS qT qU qV qW qX:Value) (w':World),W.grownBy w' none→w'.heap[W.heap.size]?=some (.cells #[.int .i64 (l:Int),.int .i64 (j:Int)] 121 (0,0))→W.heap.size < w'.heap.size→K ⟨#[.pointer (some ⟨gt,0,none⟩),u1,u2,.pointer (some ⟨g3,0,none⟩),.int .i64 (m:Int),.int .i64 (l:Int),.pointer (some ⟨W.heap.size,0,none⟩),u7,u8,u9,uA,uB,uC,uD,uE,uF,uG,uH,uI,uJ,uK,uL,uM,uN,uO,uP,uQ,uR,uS,uT,uU,uV,uW,uX,uY,uZ,vA,vB,vC,vD,vE,vF,vG,vH,vI,vJ,vK,vL,vM,vN,vO,vP,vQ,vR,vS,vT,vU,vV,vW,vX,vY,vZ,qA,qB,qC,qD,qE,qF,qG,qH,qI,qJ,qK,qL,qM,qN,qO,qP,qQ,qR,qS,qT,qU,qV,qW,qX],[]⟩ w') :
 Code.wp Tryz.prog (headSeq gX) (Exit.then K R) ⟨#[.pointer (some ⟨gt,0,none⟩),u1,u2,.pointer (some ⟨g3,0,none⟩),.int .i64 (m:Int),.int .i64 (l:Int),u6,u7,u8,u9,uA,uB,uC,uD,uE,uF,uG,uH,uI,uJ,uK,uL,uM,uN,uO,uP,uQ,uR,uS,uT,uU,uV,uW,uX,uY,uZ,vA,vB,vC,vD,vE,vF,vG,vH,vI,vJ,vK,vL,vM,vN,vO,vP,vQ,vR,vS,vT,vU,vV,vW,vX,vY,vZ,qA,qB,qC,qD,qE,qF,qG,qH,qI,qJ,qK,qL,qM,qN,qO,qP,qQ,qR,qS,qT,qU,qV,qW,qX],[]⟩ W:=by
 have HK:=hid hK
 have q1:(m:Int).tdiv 256=(j:Int):=by rw [hj];exact (Int.tdiv_eq_ediv_of_nonneg (by omega)).trans (by omega)
 have q2:(m:Int) / 256=(j:Int):=by omega
 have q3:IntKind.i64.wrap (j:Int)=(j:Int):=IntWalk.i64_in _ (by omega)
 have HM:=hid (And.intro hm hj)
 clear hK hm hj
 conv=>arg 2;whnf
 go_wp2
 exact HK.out _ _ _ _ _ _ _ _ _ _ _ _ _ _ _ _ _ _ _ _ _ _ _ _ _ _ _ _ _ _ _ _ _ _ _ _ _ _ _ _ _ _ _ _ _ _ _ _ _ _ _ _ _ _ _ _ _ _ _ _ _ _ _ _ _ _ _ _ _ _ _ _ _ _ _ _ _ _ _ _ _ _ (grown_alloc _ _) (heap_alloc_new _ _) (by rw [alloc_size'];omega)
theorem grow_r12 (W:World) (gt g3 g6 m l j:Nat) (hm:m < 1099511627776) (hj:j=m / 256)
 (u1 u2 u7 u8 u9 uA uB uC uD uE uF uG uH uI uJ uK uL uM uN uO uP uQ uR uS uT uU uV uW uX uY uZ vA vB vC vD vE vF vG vH vI vJ vK vL vM vN vO vP vQ vR vS vT vU vV vW vX vY vZ qA qB qC qD qE qF qG qH qI qJ qK qL qM qN qO qP qQ qR qS qT qU qV qW qX:Value) (R:Exit→Act→World→Prop)
 (hK:∀ (u1 u2 u7 u8 u9 uA uB uC uD uE uF uG uH uI uJ uK uL uM uN uO uP uQ uR uS uT uU uV uW uX uY uZ vA vB vC vD vE vF vG vH vI vJ vK vL vM vN vO vP vQ vR vS vT vU vV vW vX vY vZ qA qB qC qD qE qF qG qH qI qJ qK qL qM qN qO qP qQ qR qS qT qU qV qW qX:Value),R .normal ⟨#[.pointer (some ⟨gt,0,none⟩),u1,u2,.pointer (some ⟨g3,0,none⟩),.int .i64 (j:Int),.int .i64 (l:Int),.pointer (some ⟨g6,0,none⟩),u7,u8,u9,uA,uB,uC,uD,uE,uF,uG,uH,uI,uJ,uK,uL,uM,uN,uO,uP,uQ,uR,uS,uT,uU,uV,uW,uX,uY,uZ,vA,vB,vC,vD,vE,vF,vG,vH,vI,vJ,vK,vL,vM,vN,vO,vP,vQ,vR,vS,vT,vU,vV,vW,vX,vY,vZ,qA,qB,qC,qD,qE,qF,qG,qH,qI,qJ,qK,qL,qM,qN,qO,qP,qQ,qR,qS,qT,qU,qV,qW,qX],[]⟩ W) :
 Code.wp Tryz.prog (dropSeq 7 gX) R ⟨#[.pointer (some ⟨gt,0,none⟩),u1,u2,.pointer (some ⟨g3,0,none⟩),.int .i64 (m:Int),.int .i64 (l:Int),.pointer (some ⟨g6,0,none⟩),u7,u8,u9,uA,uB,uC,uD,uE,uF,uG,uH,uI,uJ,uK,uL,uM,uN,uO,uP,uQ,uR,uS,uT,uU,uV,uW,uX,uY,uZ,vA,vB,vC,vD,vE,vF,vG,vH,vI,vJ,vK,vL,vM,vN,vO,vP,vQ,vR,vS,vT,vU,vV,vW,vX,vY,vZ,qA,qB,qC,qD,qE,qF,qG,qH,qI,qJ,qK,qL,qM,qN,qO,qP,qQ,qR,qS,qT,qU,qV,qW,qX],[]⟩ W:=by
 have HK:=hid hK
 have q1:(m:Int).tdiv 256=(j:Int):=by rw [hj];exact (Int.tdiv_eq_ediv_of_nonneg (by omega)).trans (by omega)
 have q2:(m:Int) / 256=(j:Int):=by omega
 have q3:IntKind.i64.wrap (j:Int)=(j:Int):=IntWalk.i64_in _ (by omega)
 have HM:=hid (And.intro hm hj)
 clear hK hm hj
 conv=>arg 2;whnf
 go_wp2
 exact HK.out _ _ _ _ _ _ _ _ _ _ _ _ _ _ _ _ _ _ _ _ _ _ _ _ _ _ _ _ _ _ _ _ _ _ _ _ _ _ _ _ _ _ _ _ _ _ _ _ _ _ _ _ _ _ _ _ _ _ _ _ _ _ _ _ _ _ _ _ _ _ _ _ _ _ _ _ _ _ _ _ _ 
theorem round_stay (W:World) (τ:Nat→Nat) (gt fb ob g3 m l j r:Nat) (cs:Array Value) (d:Dg) (hm:m < 1099511627776) (hl:l < 1099511627776) (hj:j=m / 256) (h1:W.heap[gt]?=some (.cells cs 99 (0,0))) (h5:cs[5]?=some (.map (some fb))) (h6:cs[6]?=some (.map (some ob))) (h3:W.heap[g3]?=some (.cells (dgA d.1) 38 (0,0)))
 (no:Nat) (Mo:Nat→Nat→Sc) (hmo:MAt W ob no Mo) (hno:no≤1000000) (n:Nat) (xs:List Dg) (ho:OwnL W τ 38 32 r (encS (Mo l j)) n (xs.flatMap dgE)) (hn:n+1 < 256) (hr0:r ≠ 0) (l1:τ gt=1) (l3:τ ob=3) (hr1:r ≠ 1) (hr3:r ≠ 3) (lg3:τ g3=0) (hdom:∀ k,τ k ≠ 0→k < W.heap.size)
 (u1 u2 u6 u7 u8 u9 uA uB uC uD uE uF uG uH uI uJ uK uL uM uN uO uP uQ uR uS uT uU uV uW uX uY uZ vA vB vC vD vE vF vG vH vI vJ vK vL vM vN vO vP vQ vR vS vT vU vV vW vX vY vZ qA qB qC qD qE qF qG qH qI qJ qK qL qM qN qO qP qQ qR qS qT qU qV qW qX:Value) (R:Exit→Act→World→Prop) (hR:∀ c a a' w,R (.panic c) a w→a.defers=a'.defers→R (.panic c) a' w)
 (hK:∀ (a:Act) (w':World) (τ':Nat→Nat) (p:Nat × Nat × Nat),a.defers=[]→MAt w' ob (no+1) (put2 Mo l j (some p))→OwnL w' τ' 38 32 r (encS (some p)) (n+1) ((xs++[d]).flatMap dgE)→Ext W.heap.size τ τ'→(∀ k,τ' k ≠ 0→k < w'.heap.size)→(∀ k,k < W.heap.size→k ≠ ob→τ k ≠ r→w'.heap[k]?=W.heap[k]?)→w'.os=W.os→w'.tape=W.tape→w'.output=W.output→W.heap.size≤w'.heap.size→R .ret a w') :
 Code.wp Tryz.prog gX R ⟨#[.pointer (some ⟨gt,0,none⟩),u1,u2,.pointer (some ⟨g3,0,none⟩),.int .i64 (m:Int),.int .i64 (l:Int),u6,u7,u8,u9,uA,uB,uC,uD,uE,uF,uG,uH,uI,uJ,uK,uL,uM,uN,uO,uP,uQ,uR,uS,uT,uU,uV,uW,uX,uY,uZ,vA,vB,vC,vD,vE,vF,vG,vH,vI,vJ,vK,vL,vM,vN,vO,vP,vQ,vR,vS,vT,vU,vV,vW,vX,vY,vZ,qA,qB,qC,qD,qE,qF,qG,qH,qI,qJ,qK,qL,qM,qN,qO,qP,qQ,qR,qS,qT,qU,qV,qW,qX],[]⟩ W:=by
 have hlt:∀ (k:Nat) (o:Obj),W.heap[k]?=some o→k < W.heap.size:=fun k o h=>(Array.getElem?_eq_some_iff.1 h).1
 have hj':j < 1099511627776:=by omega
 refine wp_two_k (c:=gX) ⟨_,_,rfl⟩ fun K hK1=>?_
 refine grow_r5 W gt g3 m l j hm hj u1 u2 u6 u7 u8 u9 uA uB uC uD uE uF uG uH uI uJ uK uL uM uN uO uP uQ uR uS uT uU uV uW uX uY uZ vA vB vC vD vE vF vG vH vI vJ vK vL vM vN vO vP vQ vR vS vT vU vV vW vX vY vZ qA qB qC qD qE qF qG qH qI qJ qK qL qM qN qO qP qQ qR qS qT qU qV qW qX K R hR ?_
 intro u1 u2 u7 u8 u9 uA uB uC uD uE uF uG uH uI uJ uK uL uM uN uO uP uQ uR uS uT uU uV uW uX uY uZ vA vB vC vD vE vF vG vH vI vJ vK vL vM vN vO vP vQ vR vS vT vU vV vW vX vY vZ qA qB qC qD qE qF qG qH qI qJ qK qL qM qN qO qP qQ qR qS qT qU qV qW qX w2 hg2 h62 hz2
 refine hK1 _ _ ?_
 clear hK1 K
 have z2:=hg2.size
 refine wp_two_k (c:=dropSeq 1 gX) ⟨_,_,rfl⟩ fun K hK1=>?_
 have b1:=(hg2.block gt (hlt _ _ h1) (by simp)).trans h1
 refine grow_r6 w2 τ gt ob g3 W.heap.size l j r cs d hl hj' b1 h6 h62 ((hg2.block g3 (hlt _ _ h3) (by simp)).trans h3) no Mo (hmo.keep (hg2.block ob hmo.lt (by simp))) hno n xs (ho.keep (fun k hk=>hg2.block k (hdom k (by omega)) (by simp)) (fun k hk=>hk)) (by omega) hr0 l1 l3 hr1 hr3 ?_ lg3 (fun k hk=>Nat.lt_of_lt_of_le (hdom k hk) z2) _ _ u1 u2 u7 u8 u9 uA uB uC uD uE uF uG uH uI uJ uK uL uM uN uO uP uQ uR uS uT uU uV uW uX uY uZ vA vB vC vD vE vF vG vH vI vJ vK vL vM vN vO vP vQ vR vS vT vU vV vW vX vY vZ qA qB qC qD qE qF qG qH qI qJ qK qL qM qN qO qP qQ qR qS qT qU qV qW qX K R hR ?_
 · rcases Nat.eq_zero_or_pos (τ W.heap.size) with h | h
   · exact h
   · have:=hdom W.heap.size (by omega);omega
 intro u1 u2 u7 u8 u9 uA uB uC uD uE uF uG uH uI uJ uK uL uM uN uO uP uQ uR uS uT uU uV uW uX uY uZ vA vB vC vD vE vF vG vH vI vJ vK vL vM vN vO vP vQ vR vS vT vU vV vW vX vY vZ qA qB qC qD qE qF qG qH qI qJ qK qL qM qN qO qP qQ qR qS qT qU qV qW qX w3 τ3 p hm3 ho3 he3 hd3 hf3 hos3 htp3 hou3 hz3
 refine hK1 _ _ ?_
 clear hK1 K
 rw [dropSeq_succ]
 refine wp_two_k (c:=dropSeq 2 gX) ⟨_,_,rfl⟩ fun K hK1=>?_
 have ep:p=(p.1,n+1,p.2.2):=by
  obtain ⟨g9,c9,e9,-⟩:=ho3.1.form (Nat.succ_pos n)
  obtain ⟨p1,p2,p3⟩:=p
  injection e9 with e1 e2 e3
  rw [e2]
 have n1:gt ≠ ob:=fun e=>by rw [e] at l1;omega
 have c1:=(hf3 gt (Nat.lt_of_lt_of_le (hlt _ _ h1) z2) n1 (by omega)).trans b1
 have g6o:W.heap.size ≠ ob:=fun e=>by have:=hmo.lt;omega
 have c6:=(hf3 W.heap.size hz2 g6o (fun e=>by have:=hdom W.heap.size (by omega);omega)).trans h62
 refine grow_r7a w3 gt fb ob g3 W.heap.size l j (no+1) p.1 (n+1) p.2.2 (put2 Mo l j (some p)) cs hl hj' c1 h5 h6 c6 hm3 (by rw [put2_same,← ep]) hn _ u1 u2 u7 u8 u9 uA uB uC uD uE uF uG uH uI uJ uK uL uM uN uO uP uQ uR uS uT uU uV uW uX uY uZ vA vB vC vD vE vF vG vH vI vJ vK vL vM vN vO vP vQ vR vS vT vU vV vW vX vY vZ qA qB qC qD qE qF qG qH qI qJ qK qL qM qN qO qP qQ qR qS qT qU qV qW qX K R hR ?_
 intro u1 u2 u7 u8 u9 uA uB uC uD uE uF uG uH uI uJ uK uL uM uN uO uP uQ uR uS uT uU uV uW uX uY uZ vA vB vC vD vE vF vG vH vI vJ vK vL vM vN vO vP vQ vR vS vT vU vV vW vX vY vZ qA qB qC qD qE qF qG qH qI qJ qK qL qM qN qO qP qQ qR qS qT qU qV qW qX
 exact hK _ _ τ3 p rfl hm3 ho3 ⟨he3.same,fun k hk h0=>he3.old k (by omega) h0⟩ hd3 (fun k hk h h'=>(hf3 k (by omega) h h').trans (hg2.block k hk (by simp))) (hos3.trans hg2.os) (htp3.trans hg2.tape) (hou3.trans hg2.output) (Nat.le_trans z2 hz3)
theorem round_full (W:World) (τ:Nat→Nat) (gt fb ob g3 m j:Nat) (cs:Array Value) (d:Dg) (wd:Int) (ordV:Value) (hm:m < 1099511627776) (hj:j=m / 256) (h1:W.heap[gt]?=some (.cells cs 99 (0,0))) (hc3:cs[3]?=some (.int .i64 wd)) (h5:cs[5]?=some (.map (some fb))) (h6:cs[6]?=some (.map (some ob))) (h7:cs[7]?=some ordV) (h3:W.heap[g3]?=some (.cells (dgA d.1) 38 (0,0)))
 (no:Nat) (Mo:Nat→Nat→Sc) (hmo:MAt W ob no Mo) (hno:no≤1000000) (nf:Nat) (Mf:Nat→Nat→Sc) (hmf:MAt W fb nf Mf) (hnf:nf≤1000000) (xs:List Dg) (ho:OwnL W τ 38 32 (8+j) (encS (Mo 0 j)) 255 (xs.flatMap dgE)) (hxs:xs.length=255) (no':Nat) (ks:List Value) (hor:OwnL W τ 121 2 7 ordV no' ks) (hno':no'≤1000000) (l1:τ gt=1) (l2:τ fb=2) (l3:τ ob=3) (lg3:τ g3=0) (hdom:∀ k,τ k ≠ 0→k < W.heap.size) (low:∀ k,k < 4→τ k=0) (ht:RoundTab W) (hz:3 < W.heap.size) (hg34:4≤g3) (hw0:-9223372036854775808≤wd) (hw1:wd≤9223372036854775807)
 (u1 u2 u6 u7 u8 u9 uA uB uC uD uE uF uG uH uI uJ uK uL uM uN uO uP uQ uR uS uT uU uV uW uX uY uZ vA vB vC vD vE vF vG vH vI vJ vK vL vM vN vO vP vQ vR vS vT vU vV vW vX vY vZ qA qB qC qD qE qF qG qH qI qJ qK qL qM qN qO qP qQ qR qS qT qU qV qW qX:Value) (R:Exit→Act→World→Prop) (hR:∀ c a a' w,R (.panic c) a w→a.defers=a'.defers→R (.panic c) a' w)
 (hK:∀ (u1 u2 u7 u8 u9 uA uB uC uD uE uF uG uH uI uJ uK uL uM uN uO uP uQ uR uS uT uU uV uW uX uY uZ vA vB vC vD vE vF vG vH vI vJ vK vL vM vN vO vP vQ vR vS vT vU vV vW vX vY vZ qA qB qC qD qE qF qG qH qI qJ qK qL qM qN qO qP qQ qR qS qT qU qV qW qX:Value) (w':World) (τ':Nat→Nat) (g c:Nat) (v':Value),MAt w' ob (no+1) (put2 (put2 Mo 0 j (some (g,256,c))) 0 j none)→MAt w' fb (nf+1) (put2 Mf 0 j (some (g,256,c)))→DS w' (some ⟨g,0,none⟩) 256 c (xs++[d])→τ' g=8+j→OwnL w' τ' 121 2 7 v' (no'+1) (ks++[.int .i64 ((0:Nat):Int),.int .i64 (j:Int)])→w'.heap[gt]?=some (.cells (cs.setIfInBounds 7 v') 99 (0,0))→w'.heap[g3]?=some (.cells (dgA (rootP wd (xs++[d])).1) 38 (0,0))→Ext W.heap.size τ τ'→(∀ k,τ' k ≠ 0→k < w'.heap.size)→(∀ k,k < W.heap.size→k ≠ gt→k ≠ fb→k ≠ ob→k ≠ g3→τ k ≠ 8+j→τ k ≠ 7→w'.heap[k]?=W.heap[k]?)→w'.os=W.os→w'.tape=W.tape→w'.output=W.output→W.heap.size≤w'.heap.size→R .normal ⟨#[.pointer (some ⟨gt,0,none⟩),u1,u2,.pointer (some ⟨g3,0,none⟩),.int .i64 (j:Int),.int .i64 ((0:Nat):Int),.pointer (some ⟨W.heap.size,0,none⟩),u7,u8,u9,uA,uB,uC,uD,uE,uF,uG,uH,uI,uJ,uK,uL,uM,uN,uO,uP,uQ,uR,uS,uT,uU,uV,uW,uX,uY,uZ,vA,vB,vC,vD,vE,vF,vG,vH,vI,vJ,vK,vL,vM,vN,vO,vP,vQ,vR,vS,vT,vU,vV,vW,vX,vY,vZ,qA,qB,qC,qD,qE,qF,qG,qH,qI,qJ,qK,qL,qM,qN,qO,qP,qQ,qR,qS,qT,qU,qV,qW,qX],[]⟩ w') :
 Code.wp Tryz.prog gX R ⟨#[.pointer (some ⟨gt,0,none⟩),u1,u2,.pointer (some ⟨g3,0,none⟩),.int .i64 (m:Int),.int .i64 ((0:Nat):Int),u6,u7,u8,u9,uA,uB,uC,uD,uE,uF,uG,uH,uI,uJ,uK,uL,uM,uN,uO,uP,uQ,uR,uS,uT,uU,uV,uW,uX,uY,uZ,vA,vB,vC,vD,vE,vF,vG,vH,vI,vJ,vK,vL,vM,vN,vO,vP,vQ,vR,vS,vT,vU,vV,vW,vX,vY,vZ,qA,qB,qC,qD,qE,qF,qG,qH,qI,qJ,qK,qL,qM,qN,qO,qP,qQ,qR,qS,qT,qU,qV,qW,qX],[]⟩ W:=by
 have hlt:∀ (k:Nat) (o:Obj),W.heap[k]?=some o→k < W.heap.size:=fun k o h=>(Array.getElem?_eq_some_iff.1 h).1
 have hj':j < 1099511627776:=by omega
 have t6:τ W.heap.size=0:=by
  rcases Nat.eq_zero_or_pos (τ W.heap.size) with h | h
  · exact h
  · have:=hdom W.heap.size (by omega);omega
 have zgt:=hlt _ _ h1
 have zg3:=hlt _ _ h3
 have zob:=hmo.lt
 have zfb:=hmf.lt
 have nne:gt ≠ ob∧gt ≠ fb∧fb ≠ ob∧g3 ≠ gt∧g3 ≠ fb∧g3 ≠ ob:=by
  refine ⟨fun e=>?_,fun e=>?_,fun e=>?_,fun e=>?_,fun e=>?_,fun e=>?_⟩ <;> (subst e;omega)
 obtain ⟨n1,n2,n3,n4,n5,n6⟩:=nne
 refine wp_two_k (c:=gX) ⟨_,_,rfl⟩ fun K hK1=>?_
 refine grow_r5 W gt g3 m 0 j hm hj u1 u2 u6 u7 u8 u9 uA uB uC uD uE uF uG uH uI uJ uK uL uM uN uO uP uQ uR uS uT uU uV uW uX uY uZ vA vB vC vD vE vF vG vH vI vJ vK vL vM vN vO vP vQ vR vS vT vU vV vW vX vY vZ qA qB qC qD qE qF qG qH qI qJ qK qL qM qN qO qP qQ qR qS qT qU qV qW qX K R hR ?_
 intro u1 u2 u7 u8 u9 uA uB uC uD uE uF uG uH uI uJ uK uL uM uN uO uP uQ uR uS uT uU uV uW uX uY uZ vA vB vC vD vE vF vG vH vI vJ vK vL vM vN vO vP vQ vR vS vT vU vV vW vX vY vZ qA qB qC qD qE qF qG qH qI qJ qK qL qM qN qO qP qQ qR qS qT qU qV qW qX w2 hg2 h62 hz2
 refine hK1 _ _ ?_
 clear hK1 K
 have z2:=hg2.size
 refine wp_two_k (c:=dropSeq 1 gX) ⟨_,_,rfl⟩ fun K hK1=>?_
 have b1:=(hg2.block gt zgt (by simp)).trans h1
 refine grow_r6 w2 τ gt ob g3 W.heap.size 0 j (8+j) cs d (by decide) hj' b1 h6 h62 ((hg2.block g3 zg3 (by simp)).trans h3) no Mo (hmo.keep (hg2.block ob zob (by simp))) hno 255 xs (ho.keep (fun k hk=>hg2.block k (hdom k (by omega)) (by simp)) (fun k hk=>hk)) (by omega) (by omega) l1 l3 (by omega) (by omega) t6 lg3 (fun k hk=>Nat.lt_of_lt_of_le (hdom k hk) z2) _ _ u1 u2 u7 u8 u9 uA uB uC uD uE uF uG uH uI uJ uK uL uM uN uO uP uQ uR uS uT uU uV uW uX uY uZ vA vB vC vD vE vF vG vH vI vJ vK vL vM vN vO vP vQ vR vS vT vU vV vW vX vY vZ qA qB qC qD qE qF qG qH qI qJ qK qL qM qN qO qP qQ qR qS qT qU qV qW qX K R hR ?_
 intro u1 u2 u7 u8 u9 uA uB uC uD uE uF uG uH uI uJ uK uL uM uN uO uP uQ uR uS uT uU uV uW uX uY uZ vA vB vC vD vE vF vG vH vI vJ vK vL vM vN vO vP vQ vR vS vT vU vV vW vX vY vZ qA qB qC qD qE qF qG qH qI qJ qK qL qM qN qO qP qQ qR qS qT qU qV qW qX w3 τ3 p hm3 ho3 he3 hd3 hf3 hos3 htp3 hou3 hz3
 refine hK1 _ _ ?_
 clear hK1 K
 rw [dropSeq_succ]
 obtain ⟨g,n9,c⟩:=p
 have ep:n9=256:=by
  obtain ⟨g9,c9,e9,-⟩:=ho3.1.form (Nat.succ_pos 255)
  injection e9 with e1 e2 e3
 subst ep
 have f3:∀ k,k < W.heap.size→k ≠ ob→τ k ≠ 8+j→w3.heap[k]?=W.heap[k]?:=fun k hk h h'=>(hf3 k (by omega) h h').trans (hg2.block k hk (by simp))
 have c1:=(f3 gt zgt n1 (by omega)).trans h1
 have c3:=(f3 g3 zg3 n6 (by omega)).trans h3
 have cf:=hmf.keep (f3 fb zfb n3 (by omega))
 have c6:=(hf3 W.heap.size hz2 (by omega) (by omega)).trans h62
 have t3:∀ k,k < W.heap.size→τ k ≠ 0→τ3 k=τ k:=fun k _ hk=>he3.same k hk
 have hor3:OwnL w3 τ3 121 2 7 ordV no' ks:=hor.keep (fun k hk=>f3 k (hdom k (by omega)) (fun e=>by rw [e] at hk;omega) (by omega)) (fun k hk=>(he3.same k (by omega)).trans hk)
 have t36:τ3 W.heap.size=0:=he3.old _ hz2 t6
 have lg:τ3 g=8+j:=ho3.2 g rfl
 have zg:g < w3.heap.size:=hd3 g (by omega)
 have hds3:DS w3 (some ⟨g,0,none⟩) 256 c (xs++[d]):=RS.of_owns (e:=38) (base:=0) (show w3.ownsRow 0 38 32 (.slice (some ⟨g,0,none⟩) 256 c) 256 ((xs++[d]).flatMap dgE) from ho3.1) (by decide) dgE_len (by decide)
 refine wp_two_k (c:=dropSeq 2 gX) ⟨_,_,rfl⟩ fun K hK1=>?_
 refine grow_r7b w3 gt fb ob g3 W.heap.size 0 j (no+1) g 256 c (put2 Mo 0 j (some (g,256,c))) cs (by decide) hj' c1 h5 h6 c6 hm3 (by rw [put2_same]) rfl rfl _ u1 u2 u7 u8 u9 uA uB uC uD uE uF uG uH uI uJ uK uL uM uN uO uP uQ uR uS uT uU uV uW uX uY uZ vA vB vC vD vE vF vG vH vI vJ vK vL vM vN vO vP vQ vR vS vT vU vV vW vX vY vZ qA qB qC qD qE qF qG qH qI qJ qK qL qM qN qO qP qQ qR qS qT qU qV qW qX K R hR ?_
 intro u1 u2 u7 u8 u9 uA uB uC uD uE uF uG uH uI uJ uK uL uM uN uO uP uQ uR uS uT uU uV uW uX uY uZ vA vB vC vD vE vF vG vH vI vJ vK vL vM vN vO vP vQ vR vS vT vU vV vW vX vY vZ qA qB qC qD qE qF qG qH qI qJ qK qL qM qN qO qP qQ qR qS qT qU qV qW qX
 refine hK1 _ _ ?_
 clear hK1 K
 rw [dropSeq_succ]
 refine wp_two_k (c:=dropSeq 3 gX) ⟨_,_,rfl⟩ fun K hK1=>?_
 refine grow_r8 w3.drew gt fb ob g3 W.heap.size 0 j (no+1) g 256 c (put2 Mo 0 j (some (g,256,c))) cs (by decide) hj' c1 h5 h6 c6 hm3 (by rw [put2_same]) nf Mf cf hnf ⟨fun e=>n2 e.symm,by omega,n3⟩ _ u1 u2 u7 u8 u9 uA uB uC uD uE uF uG uH uI uJ uK uL uM uN uO uP uQ uR uS uT uU uV uW uX uY uZ vA vB vC vD vE vF vG vH vI vJ vK vL vM vN vO vP vQ vR vS vT vU vV vW vX vY vZ qA qB qC qD qE qF qG qH qI qJ qK qL qM qN qO qP qQ qR qS qT qU qV qW qX K R hR ?_
 intro u1 u2 u7 u8 u9 uA uB uC uD uE uF uG uH uI uJ uK uL uM uN uO uP uQ uR uS uT uU uV uW uX uY uZ vA vB vC vD vE vF vG vH vI vJ vK vL vM vN vO vP vQ vR vS vT vU vV vW vX vY vZ qA qB qC qD qE qF qG qH qI qJ qK qL qM qN qO qP qQ qR qS qT qU qV qW qX w4 hg4 hm4
 refine hK1 _ _ ?_
 clear hK1 K
 rw [dropSeq_succ]
 have y4:w3.heap.size≤w4.heap.size:=hg4.size
 have z6:W.heap.size < w3.heap.size:=by omega
 have f4:∀ k,k < w3.heap.size→k ≠ fb→w4.heap[k]?=w3.heap[k]?:=fun k hk h=>hg4.block k hk (fun e=>h (by injection e))
 refine wp_two_k (c:=dropSeq 4 gX) ⟨_,_,rfl⟩ fun K hK1=>?_
 refine grow_r9 w4 gt ob g3 W.heap.size 0 j (no+1) (put2 Mo 0 j (some (g,256,c))) cs (by decide) hj' ((f4 gt (by omega) n2).trans c1) h6 ((f4 _ z6 (by omega)).trans c6) (hm3.keep (f4 ob (by omega) (fun e=>n3 e.symm))) ⟨fun e=>n1 e.symm,by omega⟩ _ u1 u2 u7 u8 u9 uA uB uC uD uE uF uG uH uI uJ uK uL uM uN uO uP uQ uR uS uT uU uV uW uX uY uZ vA vB vC vD vE vF vG vH vI vJ vK vL vM vN vO vP vQ vR vS vT vU vV vW vX vY vZ qA qB qC qD qE qF qG qH qI qJ qK qL qM qN qO qP qQ qR qS qT qU qV qW qX K R hR ?_
 intro u1 u2 u7 u8 u9 uA uB uC uD uE uF uG uH uI uJ uK uL uM uN uO uP uQ uR uS uT uU uV uW uX uY uZ vA vB vC vD vE vF vG vH vI vJ vK vL vM vN vO vP vQ vR vS vT vU vV vW vX vY vZ qA qB qC qD qE qF qG qH qI qJ qK qL qM qN qO qP qQ qR qS qT qU qV qW qX w5 hg5 hm5
 refine hK1 _ _ ?_
 clear hK1 K
 rw [dropSeq_succ]
 have y5:=hg5.size
 have f5:∀ k,k < w3.heap.size→k ≠ fb→k ≠ ob→w5.heap[k]?=w3.heap[k]?:=fun k hk h h'=>(hg5.block k (by omega) (fun e=>h' (by injection e))).trans (f4 k hk h)
 have hm45:=hm4.keep (hg5.block fb (by omega) (fun e=>n3 (by injection e)))
 have hds5:DS w5 (some ⟨g,0,none⟩) 256 c (xs++[d]):=hds3.same (f5 g zg (fun e=>by subst e;rw [t3 _ zfb (by omega)] at lg;omega) (fun e=>by subst e;rw [t3 _ zob (by omega)] at lg;omega))
 have hor5:OwnL w5 τ3 121 2 7 ordV no' ks:=hor3.keep (fun k hk=>f5 k (hd3 k (by omega)) (fun e=>by subst e;rw [t3 _ zfb (by omega)] at hk;omega) (fun e=>by subst e;rw [t3 _ zob (by omega)] at hk;omega)) (fun k hk=>hk)
 refine wp_two_k (c:=dropSeq 5 gX) ⟨_,_,rfl⟩ fun K hK1=>?_
 refine grow_r10 w5 τ3 gt g3 W.heap.size 0 j cs ordV (by decide) hj' ((f5 gt (by omega) n2 n1).trans c1) h7 ((f5 _ z6 (by omega) (by omega)).trans c6) no' ks hor5 hno' (by rw [t3 _ zgt (by omega)];exact l1) t36 (fun k hk=>Nat.lt_of_lt_of_le (hd3 k hk) (by omega)) _ u1 u2 u7 u8 u9 uA uB uC uD uE uF uG uH uI uJ uK uL uM uN uO uP uQ uR uS uT uU uV uW uX uY uZ vA vB vC vD vE vF vG vH vI vJ vK vL vM vN vO vP vQ vR vS vT vU vV vW vX vY vZ qA qB qC qD qE qF qG qH qI qJ qK qL qM qN qO qP qQ qR qS qT qU qV qW qX K R hR ?_
 intro u1 u2 u7 u8 u9 uA uB uC uD uE uF uG uH uI uJ uK uL uM uN uO uP uQ uR uS uT uU uV uW uX uY uZ vA vB vC vD vE vF vG vH vI vJ vK vL vM vN vO vP vQ vR vS vT vU vV vW vX vY vZ qA qB qC qD qE qF qG qH qI qJ qK qL qM qN qO qP qQ qR qS qT qU qV qW qX w6 τ6 v6 c16 hor6 he6 hd6 hf6 hos6 htp6 hou6 hz6
 refine hK1 _ _ ?_
 clear hK1 K
 rw [dropSeq_succ]
 have f6:∀ k,k < w3.heap.size→k ≠ gt→k ≠ fb→k ≠ ob→τ3 k ≠ 7→w6.heap[k]?=w3.heap[k]?:=fun k hk h h' h2 h4=>(hf6 k (by omega) h h4).trans (f5 k hk h' h2)
 have tfb:τ3 fb=2:=(t3 _ zfb (by omega)).trans l2
 have tob:τ3 ob=3:=(t3 _ zob (by omega)).trans l3
 have tgt:τ3 gt=1:=(t3 _ zgt (by omega)).trans l1
 have tg3:τ3 g3=0:=he3.old _ (by omega) lg3
 have hm46:=hm45.keep (hf6 fb (by omega) (fun e=>n2 e.symm) (by omega))
 have hm56:=hm5.keep (hf6 ob (by omega) (fun e=>n1 e.symm) (by omega))
 have c36:=(f6 g3 (by omega) n4 n5 n6 (by omega)).trans c3
 have hds6:DS w6 (some ⟨g,0,none⟩) 256 c (xs++[d]):=hds5.same (hf6 g (by omega) (fun e=>by subst e;omega) (by omega))
 have lowf:∀ k,k < 4→k ≠ gt∧k ≠ fb∧k ≠ ob∧τ k=0:=fun k hk=>by
  have h:=low k hk
  refine ⟨fun e=>?_,fun e=>?_,fun e=>?_,h⟩ <;> (subst e;omega)
 have ht6:RoundTab w6:=fun i hi=>(World.cell?_of_block (by
  obtain ⟨q1,q2,q3,q4⟩:=lowf 3 (by decide)
  have q5:τ3 3=0:=he3.old 3 (by omega) q4
  exact (f6 3 (by omega) q1 q2 q3 (by omega)).trans (f3 3 hz q3 (by omega)))).trans (ht i hi)
 refine wp_two_k (c:=dropSeq 6 gX) ⟨_,_,rfl⟩ fun K hK1=>?_
 refine grow_r11 w6 gt fb g3 W.heap.size 0 j (nf+1) g 256 c wd (put2 Mf 0 j (some (g,256,c))) (cs.setIfInBounds 7 v6) (dgA d.1) (xs++[d]) (by decide) hj' c16 (by rw [Array.getElem?_setIfInBounds_ne (by decide)];exact hc3) (by rw [Array.getElem?_setIfInBounds_ne (by decide)];exact h5) ((hf6 _ (by omega) (by omega) (by omega)).trans ((f5 _ z6 (by omega) (by omega)).trans c6)) c36 (by rw [dgA_size,d.2]) hm46 (by rw [put2_same]) hds6 (by decide) hw0 hw1 ht6 (by omega) ⟨n4,by omega,n5⟩ _ u1 u2 u7 u8 u9 uA uB uC uD uE uF uG uH uI uJ uK uL uM uN uO uP uQ uR uS uT uU uV uW uX uY uZ vA vB vC vD vE vF vG vH vI vJ vK vL vM vN vO vP vQ vR vS vT vU vV vW vX vY vZ qA qB qC qD qE qF qG qH qI qJ qK qL qM qN qO qP qQ qR qS qT qU qV qW qX K R hR ?_
 intro u1 u2 u7 u8 u9 uA uB uC uD uE uF uG uH uI uJ uK uL uM uN uO uP uQ uR uS uT uU uV uW uX uY uZ vA vB vC vD vE vF vG vH vI vJ vK vL vM vN vO vP vQ vR vS vT vU vV vW vX vY vZ qA qB qC qD qE qF qG qH qI qJ qK qL qM qN qO qP qQ qR qS qT qU qV qW qX w7 hg7 c37
 refine hK1 _ _ ?_
 clear hK1 K
 rw [dropSeq_succ]
 have y7:=hg7.size
 have f7:∀ k,k < w6.heap.size→k ≠ g3→w7.heap[k]?=w6.heap[k]?:=fun k hk h=>hg7.block k hk (fun e=>h (by injection e))
 have tg:τ6 g=8+j:=(he6.same g (by omega)).trans lg
 have ng3:g ≠ g3:=fun e=>by subst e;omega
 refine grow_r12 w7 gt g3 W.heap.size m 0 j hm hj u1 u2 u7 u8 u9 uA uB uC uD uE uF uG uH uI uJ uK uL uM uN uO uP uQ uR uS uT uU uV uW uX uY uZ vA vB vC vD vE vF vG vH vI vJ vK vL vM vN vO vP vQ vR vS vT vU vV vW vX vY vZ qA qB qC qD qE qF qG qH qI qJ qK qL qM qN qO qP qQ qR qS qT qU qV qW qX R ?_
 intro u1 u2 u7 u8 u9 uA uB uC uD uE uF uG uH uI uJ uK uL uM uN uO uP uQ uR uS uT uU uV uW uX uY uZ vA vB vC vD vE vF vG vH vI vJ vK vL vM vN vO vP vQ vR vS vT vU vV vW vX vY vZ qA qB qC qD qE qF qG qH qI qJ qK qL qM qN qO qP qQ qR qS qT qU qV qW qX
 refine hK u1 u2 u7 u8 u9 uA uB uC uD uE uF uG uH uI uJ uK uL uM uN uO uP uQ uR uS uT uU uV uW uX uY uZ vA vB vC vD vE vF vG vH vI vJ vK vL vM vN vO vP vQ vR vS vT vU vV vW vX vY vZ qA qB qC qD qE qF qG qH qI qJ qK qL qM qN qO qP qQ qR qS qT qU qV qW qX w7 τ6 g c v6 (hm56.keep (f7 ob (by omega) (fun e=>n6 e.symm))) (hm46.keep (f7 fb (by omega) (fun e=>n5 e.symm))) (hds6.same (f7 g (by omega) ng3)) tg (hor6.keep (fun k hk=>f7 k (hd6 k (by omega)) (fun e=>by have h:=he6.old g3 (by omega) tg3;subst e;omega)) (fun k hk=>hk)) ((f7 gt (by omega) (fun e=>n4 e.symm)).trans c16) c37 ((he3.trans he6 (by omega)) |> fun e=>⟨e.same,fun k hk h0=>e.old k (by omega) h0⟩) (fun k hk=>Nat.lt_of_lt_of_le (hd6 k hk) y7) ?_ (hg7.os.trans (hos6.trans (hg5.os.trans (hg4.os.trans (hos3.trans hg2.os))))) (hg7.tape.trans (htp6.trans (hg5.tape.trans (hg4.tape.trans (htp3.trans hg2.tape))))) (hg7.output.trans (hou6.trans (hg5.output.trans (hg4.output.trans (hou3.trans hg2.output))))) (by omega)
 intro k hk q1 q2 q3 q4 q5 q6
 have q7:τ3 k ≠ 7:=fun e=>by
  rcases Nat.eq_zero_or_pos (τ k) with h | h
  · have:=he3.old k (by omega) h;omega
  · have:=he3.same k (by omega);omega
 exact (f7 k (by omega) q4).trans ((f6 k (by omega) q1 q2 q3 q7).trans (f3 k hk q3 q5))
end
section
open Go.Maps Go.WideMaps Go.ChangeMaps
def chunk (L:List Dg) (j:Nat):List Dg:=(L.drop (256 * j)).take 256
def rootsP (wd:Int) (L:List Dg):List Dg:=(List.range (L.length / 256)).map fun j=>rootP wd (chunk L j)
def ordE (j:Nat):List Value:=[.int .i64 ((0:Nat):Int),.int .i64 (j:Int)]
theorem chunk_old {L L':List Dg} {j:Nat} (h:j < L.length / 256):chunk (L++L') j=chunk L j:=by
 unfold chunk
 rw [List.drop_append_of_le_length (by omega),List.take_append_of_le_length (by rw [List.length_drop];omega)]
theorem rootsP_old {wd:Int} {L:List Dg} {d:Dg} (h:(L.length+1) / 256=L.length / 256):rootsP wd (L++[d])=rootsP wd L:=by
 unfold rootsP
 rw [List.length_append,List.length_singleton,h]
 apply List.map_congr_left
 intro j hj
 rw [chunk_old (List.mem_range.1 hj)]
theorem rootsP_new {wd:Int} {L:List Dg} {d:Dg} (h:(L.length+1) / 256=L.length / 256+1):rootsP wd (L++[d])=rootsP wd L++[rootP wd (chunk (L++[d]) (L.length / 256))]:=by
 unfold rootsP
 rw [List.length_append,List.length_singleton,h,List.range_succ,List.map_append,List.map_singleton]
 congr 1
 apply List.map_congr_left
 intro j hj
 rw [chunk_old (List.mem_range.1 hj)]
structure TT where
 ep:Int
 cl:Int
 wd:Int
 held:Nat
 l0:Bool
 l1:Bool
 L:List Dg
structure TY where
 fb:Nat
 ob:Nat
 ordV:Value
 Mf:Nat→Nat→Sc
 Mo:Nat→Nat→Sc
 nf:Nat
 no:Nat
abbrev boxT (gd:Nat) (T:TT) (Y:TY):Obj:=.cells #[.pointer (some ⟨gd,0,none⟩),.int .i64 T.ep,.int .i64 T.cl,.int .i64 T.wd,.int .i64 (T.L.length:Int),.map (some Y.fb),.map (some Y.ob),Y.ordV,.int .i64 (T.held:Int),.bool T.l0,.bool T.l1] 99
structure TS (w:World) (τ:Nat→Nat) (gt gd:Nat) (T:TT) (Y:TY):Prop where
 box:w.heap[gt]?=some (boxT gd T Y)
 lg:τ gt=1
 dom:∀ k,τ k ≠ 0→k < w.heap.size
 low:∀ k,k < 4→τ k=0
 sz:4≤w.heap.size
 wdb:1≤T.wd∧T.wd≤32
 mf:MAt w Y.fb Y.nf Y.Mf
 lf:τ Y.fb=2
 nf:Y.nf≤T.L.length
 mo:MAt w Y.ob Y.no Y.Mo
 lo:τ Y.ob=3
 no:Y.no≤2 * T.L.length
 full:∀ j,j < T.L.length / 256→∃ g c,Y.Mf 0 j=some (g,256,c)∧DS w (some ⟨g,0,none⟩) 256 c (chunk T.L j)∧τ g=8+j
 o0:OwnL w τ 38 32 (8+T.L.length / 256) (encS (Y.Mo 0 (T.L.length / 256))) (T.L.length % 256) ((T.L.drop (256 * (T.L.length / 256))).flatMap dgE)
 none0:∀ j,T.L.length / 256 < j→Y.Mo 0 j=none
 o1:OwnL w τ 38 32 5 (encS (Y.Mo 1 0)) (T.L.length / 256) ((rootsP T.wd T.L).flatMap dgE)
 ord:OwnL w τ 121 2 7 Y.ordV (T.L.length / 256) ((List.range (T.L.length / 256)).flatMap ordE)
 few:T.L.length≤60000
 fno:∀ j,T.L.length / 256≤j→Y.Mf 0 j=none
 f1:Y.Mf 1 0=none
noncomputable def gr0:Code:=Tryz.f49.body.getD .skip
theorem lg0 {w:World} {τ:Nat→Nat} (h:∀ k,τ k ≠ 0→k < w.heap.size) {k:Nat} (hk:w.heap.size≤k):τ k=0:=by
 rcases Nat.eq_zero_or_pos (τ k) with h1 | h1
 · exact h1
 · have:=h k (by omega);omega
set_option maxHeartbeats 4000000
theorem grow_pre (w:World) (gt gd:Nat) (T:TT) (Y:TY) (E:Array Value) (hb:w.heap[gt]?=some (boxT gd T Y)) (hn:T.L.length < 60000) (hE:E.size=32) (hE1:E.all (·.oneCell')=true) (d:Dg) (hEd:E=dgA d.1)
 (R:Ending→World→Prop)
 (h:∀ (u1 u2 u6 u7 u8 u9 u10 u11 u12 u13 u14 u15 u16 u17 u18 u19 u20 u21 u22 u23 u24 u25 u26 u27 u28 u29 u30 u31 u32 u33 u34 u35 u36 u37 u38 u39 u40 u41 u42 u43 u44 u45 u46 u47 u48 u49 u50 u51 u52 u53 u54 u55 u56 u57 u58 u59 u60 u61 u62 u63 u64 u65 u66 u67 u68 u69 u70 u71 u72 u73 u74 u75 u76 u77 u78 u79 u80 u81 u82 u83 u84 u85:Value) (w':World) (m:Nat),m=T.L.length→w'.heap[gt]?=some (boxT gd { T with L:=T.L++[d] } Y)→w'.heap[w.heap.size]?=some (.cells E 38 (0,0))→w.grownBy w' (some gt)→w.heap.size < w'.heap.size→Code.wp Tryz.prog (dropSeq 4 gr0) (bodyPost Tryz.prog Tryz.f49 R) ⟨#[.pointer (some ⟨gt,0,none⟩),u1,u2,.pointer (some ⟨w.heap.size,0,none⟩),.int .i64 (m:Int),.int .i64 ((0:Nat):Int),u6,u7,u8,u9,u10,u11,u12,u13,u14,u15,u16,u17,u18,u19,u20,u21,u22,u23,u24,u25,u26,u27,u28,u29,u30,u31,u32,u33,u34,u35,u36,u37,u38,u39,u40,u41,u42,u43,u44,u45,u46,u47,u48,u49,u50,u51,u52,u53,u54,u55,u56,u57,u58,u59,u60,u61,u62,u63,u64,u65,u66,u67,u68,u69,u70,u71,u72,u73,u74,u75,u76,u77,u78,u79,u80,u81,u82,u83,u84,u85],[]⟩ w') :
 Calls Tryz.prog 49 #[.pointer (some ⟨gt,0,none⟩),.agg E] w R:=by
 have H:=hid h
 have HB:=hid hb
 have e4:=cell_of_row _ _ 4 _ _ _ hb
 have f4:=frozen_of_row w gt 4 _ _ hb
 simp only [List.getElem?_toArray,List.getElem?_cons_zero,List.getElem?_cons_succ] at e4
 obtain ⟨m,hm⟩:∃ m,m=T.L.length:=⟨_,rfl⟩
 rw [← hm] at e4
 have hw1:IntKind.i64.wrap ((m:Int)+1)=((m+1:Nat):Int):=IntWalk.i64_in _ (by omega)
 have HM:=hid hm
 have HX:=hid (And.intro hE (And.intro hE1 hEd))
 have HN:=hid hn
 clear h hb hm hE hE1 hEd hn
 go_enter Tryz.func49,Tryz.ntmps49
 refine wp_two_k (c:=gr0) ⟨_,_,rfl⟩ fun K hK=>?_
 have HK:=hid hK
 clear hK
 conv=>arg 2;whnf
 go_wp2_with fail
 refine HK.out _ _ ?_
 clear HK K
 have hlt:=(Array.getElem?_eq_some_iff.1 HB.out).1
 have hga:=grown_alloc w (.cells E 38)
 have hx1:(w.alloc (.cells E 38)).heap[w.heap.size]?=some (.cells E 38 (0,0)):=heap_alloc_new _ _
 have hsz1:w.heap.size < (w.alloc (.cells E 38)).heap.size:=by rw [alloc_size'];omega
 have hb1:=(hga.block gt hlt (by simp)).trans HB.out
 rw [show (⟨w.heap.size,0,none⟩:Addr)=⟨w.heap.size,0,none⟩ from rfl]
 have HGA:=hid hga;have HX1:=hid hx1;have HSZ:=hid hsz1;have HB1:=hid hb1;have HLT:=hid hlt
 clear hga hx1 hsz1 hb1 hlt e4 f4
 generalize w.alloc (.cells E 38)=w1 at HGA HX1 HSZ HB1 ⊢
 have e4:=cell_of_row _ _ 4 _ _ _ HB1.out
 have f4:=frozen_of_row w1 gt 4 _ _ HB1.out
 simp only [List.getElem?_toArray,List.getElem?_cons_zero,List.getElem?_cons_succ] at e4
 rw [← HM.out] at e4
 refine wp_two_k (c:=dropSeq 1 gr0) ⟨_,_,rfl⟩ fun K hK=>?_
 have HK:=hid hK
 clear hK
 conv=>arg 2;whnf
 go_wp2_with fail
 refine HK.out _ _ ?_
 rw [dropSeq_succ]
 clear HK K
 refine wp_two_k (c:=dropSeq 2 gr0) ⟨_,_,rfl⟩ fun K hK=>?_
 have HK:=hid hK
 clear hK
 conv=>arg 2;whnf
 go_wp2_with fail
 refine HK.out _ _ ?_
 rw [dropSeq_succ]
 clear HK K
 obtain ⟨hb2,hg2⟩:=row_setCell (i:=4) HB1.out (Value.int .i64 ((m:Int)+1))
 have HB2:=hid hb2;have HG2:=hid hg2
 clear hb2 hg2 e4 f4
 generalize w1.setCell ⟨gt,4,none⟩ (Value.int .i64 ((m:Int)+1))=w2 at HB2 HG2 ⊢
 refine wp_two_k (c:=dropSeq 3 gr0) ⟨_,_,rfl⟩ fun K hK=>?_
 have HK:=hid hK
 clear hK
 conv=>arg 2;whnf
 go_wp2_with fail
 refine HK.out _ _ ?_
 rw [dropSeq_succ]
 clear HK K
 refine H.out _ _ _ _ _ _ _ _ _ _ _ _ _ _ _ _ _ _ _ _ _ _ _ _ _ _ _ _ _ _ _ _ _ _ _ _ _ _ _ _ _ _ _ _ _ _ _ _ _ _ _ _ _ _ _ _ _ _ _ _ _ _ _ _ _ _ _ _ _ _ _ _ _ _ _ _ _ _ _ _ _ _ w2 m HM.out ?_ ?_ ?_ ?_
 · refine HB2.out.trans ?_
   rw [HM.out]
   simp [List.length_append]
 · exact (HG2.out.block _ HSZ.out (fun e=>by have:=HLT.out;injection e with e;omega)).trans HX1.out
 · exact ⟨HG2.out.os.trans HGA.out.os,HG2.out.tape.trans HGA.out.tape,HG2.out.output.trans HGA.out.output,Nat.le_trans HGA.out.size HG2.out.size,fun k hk h=>(HG2.out.block k (Nat.lt_of_lt_of_le hk HGA.out.size) h).trans (HGA.out.block k hk (by simp))⟩
 · exact Nat.lt_of_lt_of_le HSZ.out HG2.out.size
end
section
open Go.Maps Go.WideMaps Go.ChangeMaps
theorem TS.stay {w w':World} {τ τ':Nat→Nat} {gt gd:Nat} {T:TT} {Y:TY} {d:Dg} {p:Nat × Nat × Nat} (h:TS w τ gt gd T Y) (hn:T.L.length < 60000) (h5:T.L.length % 256+1 < 256) (hb:w'.heap[gt]?=some (boxT gd { T with L:=T.L++[d] } Y)) (hm:MAt w' Y.ob (Y.no+1) (put2 Y.Mo 0 (T.L.length / 256) (some p)))
 (ho:OwnL w' τ' 38 32 (8+T.L.length / 256) (encS (some p)) (T.L.length % 256+1) ((T.L.drop (256 * (T.L.length / 256))++[d]).flatMap dgE)) (he:Ext w.heap.size τ τ') (hd:∀ k,τ' k ≠ 0→k < w'.heap.size) (hf:∀ k,k < w.heap.size→k ≠ gt→k ≠ Y.ob→τ k ≠ 8+T.L.length / 256→w'.heap[k]?=w.heap[k]?) (hz:w.heap.size≤w'.heap.size) :
 TS w' τ' gt gd { T with L:=T.L++[d] } { Y with Mo:=put2 Y.Mo 0 (T.L.length / 256) (some p),no:=Y.no+1 }:=by
 have el:(T.L++[d]).length=T.L.length+1:=by simp
 have e1:(T.L.length+1) / 256=T.L.length / 256:=by omega
 have e2:(T.L.length+1) % 256=T.L.length % 256+1:=by omega
 have eL:=h.lg;have e0:=h.lo;have ef:=h.lf
 have kp:∀ (k r:Nat),τ k=r→r ≠ 0→r ≠ 1→r ≠ 3→r ≠ 8+T.L.length / 256→w'.heap[k]?=w.heap[k]?∧τ' k=r:=fun k r hk r0 r1 r3 r8 =>
  ⟨hf k (h.dom k (by omega)) (fun e=>by subst e;omega) (fun e=>by subst e;omega) (by omega),(he.same k (by omega)).trans hk⟩
 refine ⟨hb,(he.same gt (by omega)).trans eL,hd,fun k hk=>he.old k (by have:=h.sz;omega) (h.low k hk),Nat.le_trans h.sz hz,h.wdb,h.mf.keep (kp Y.fb 2 ef (by decide) (by decide) (by decide) (by omega)).1,(kp Y.fb 2 ef (by decide) (by decide) (by decide) (by omega)).2,?_,hm,(he.same Y.ob (by omega)).trans e0,?_,?_,?_,?_,?_,?_,?_,?_,h.f1⟩
 · show Y.nf≤(T.L++[d]).length
   rw [el];have:=h.nf;omega
 · show Y.no+1≤2 * (T.L++[d]).length
   rw [el];have:=h.no;omega
 · intro j hj
   simp only [el,e1] at hj
   obtain ⟨g,c,q1,q2,q3⟩:=h.full j hj
   obtain ⟨k1,k2⟩:=kp g (8+j) q3 (by omega) (by omega) (by omega) (by omega)
   exact ⟨g,c,q1,by rw [chunk_old hj];exact q2.same k1,k2⟩
 · simp only [el,e1,e2]
   rw [put2_same,List.drop_append_of_le_length (by omega)]
   exact ho
 · intro j hj
   simp only [el,e1] at hj
   show put2 _ _ _ _ _ _=none
   rw [put2_other _ (by omega)]
   exact h.none0 j hj
 · simp only [el,e1]
   rw [put2_other _ (by omega),rootsP_old e1]
   exact h.o1.keep (fun k hk=>(kp k 5 hk (by decide) (by decide) (by decide) (by omega)).1) (fun k hk=>(kp k 5 hk (by decide) (by decide) (by decide) (by omega)).2)
 · simp only [el,e1]
   exact h.ord.keep (fun k hk=>(kp k 7 hk (by decide) (by decide) (by decide) (by omega)).1) (fun k hk=>(kp k 7 hk (by decide) (by decide) (by decide) (by omega)).2)
 · show (T.L++[d]).length≤60000
   rw [el];omega
 · intro j hj
   simp only [el,e1] at hj
   exact h.fno j hj
theorem TS.fill {w w':World} {τ τ':Nat→Nat} {gt gd:Nat} {T:TT} {Y Y':TY} {d:Dg} {g c:Nat} {p:Nat × Nat × Nat} (h:TS w τ gt gd T Y) (hn:T.L.length < 60000) (h5:T.L.length % 256=255) (e1:Y'.fb=Y.fb) (e2:Y'.ob=Y.ob) (hb:w'.heap[gt]?=some (boxT gd { T with L:=T.L++[d] } Y'))
 (hm:MAt w' Y.ob (Y.no+2) (put2 (put2 (put2 Y.Mo 0 (T.L.length / 256) (some (g,256,c))) 0 (T.L.length / 256) none) 1 0 (some p))) (hMo:Y'.Mo=put2 (put2 (put2 Y.Mo 0 (T.L.length / 256) (some (g,256,c))) 0 (T.L.length / 256) none) 1 0 (some p)) (hno:Y'.no=Y.no+2)
 (hmf:MAt w' Y.fb (Y.nf+1) (put2 Y.Mf 0 (T.L.length / 256) (some (g,256,c)))) (hMf:Y'.Mf=put2 Y.Mf 0 (T.L.length / 256) (some (g,256,c))) (hnf:Y'.nf=Y.nf+1)
 (hds:DS w' (some ⟨g,0,none⟩) 256 c (chunk (T.L++[d]) (T.L.length / 256))) (hg:τ' g=8+T.L.length / 256)
 (hor:OwnL w' τ' 121 2 7 Y'.ordV (T.L.length / 256+1) ((List.range (T.L.length / 256)).flatMap ordE++ordE (T.L.length / 256)))
 (ho1:OwnL w' τ' 38 32 5 (encS (some p)) (T.L.length / 256+1) ((rootsP T.wd T.L++[rootP T.wd (chunk (T.L++[d]) (T.L.length / 256))]).flatMap dgE))
 (he:Ext w.heap.size τ τ') (hd:∀ k,τ' k ≠ 0→k < w'.heap.size) (hf:∀ k,k < w.heap.size→k ≠ gt→k ≠ Y.fb→k ≠ Y.ob→τ k ≠ 0→τ k ≠ 8+T.L.length / 256→τ k ≠ 7→τ k ≠ 5→w'.heap[k]?=w.heap[k]?) (hz:w.heap.size≤w'.heap.size) :
 TS w' τ' gt gd { T with L:=T.L++[d] } Y':=by
 have el:(T.L++[d]).length=T.L.length+1:=by simp
 have e3:(T.L.length+1) / 256=T.L.length / 256+1:=by omega
 have e4:(T.L.length+1) % 256=0:=by omega
 have eL:=h.lg;have e0:=h.lo;have ef:=h.lf
 refine ⟨hb,(he.same gt (by omega)).trans eL,hd,fun k hk=>he.old k (by have:=h.sz;omega) (h.low k hk),Nat.le_trans h.sz hz,h.wdb,?_,?_,?_,?_,?_,?_,?_,?_,?_,?_,?_,?_,?_,?_⟩
 · rw [e1,hnf,hMf];exact hmf
 · rw [e1];exact (he.same _ (by omega)).trans ef
 · show Y'.nf≤(T.L++[d]).length
   rw [el,hnf];have:=h.nf;omega
 · rw [e2,hno,hMo];exact hm
 · rw [e2];exact (he.same _ (by omega)).trans e0
 · show Y'.no≤2 * (T.L++[d]).length
   rw [el,hno];have:=h.no;omega
 · intro j hj
   simp only [el,e3] at hj
   rw [hMf]
   by_cases hj2:j=T.L.length / 256
   · subst hj2
     exact ⟨g,c,put2_same _ _ _ _,hds,hg⟩
   · obtain ⟨g',c',q1,q2,q3⟩:=h.full j (by omega)
     rw [put2_other _ (by omega)]
     refine ⟨g',c',q1,?_,(he.same _ (by omega)).trans q3⟩
     rw [show chunk (T.L++[d]) j=chunk T.L j from chunk_old (by omega)]
     exact q2.same (hf g' (h.dom g' (by omega)) (fun e=>by subst e;omega) (fun e=>by subst e;omega) (fun e=>by subst e;omega) (by omega) (by omega) (by omega) (by omega))
 · simp only [el,e3,e4]
   rw [hMo,put2_other _ (by omega),put2_other _ (by omega),put2_other _ (by omega),h.none0 _ (by omega),List.drop_eq_nil_of_le (by rw [el];omega)]
   exact OwnL.nil _ _ _ _ _
 · intro j hj
   simp only [el,e3] at hj
   rw [hMo,put2_other _ (by omega),put2_other _ (by omega),put2_other _ (by omega)]
   exact h.none0 j (by omega)
 · simp only [el,e3]
   rw [hMo,put2_same,rootsP_new e3]
   exact ho1
 · simp only [el,e3]
   rw [List.range_succ,List.flatMap_append]
   simpa using hor
 · show (T.L++[d]).length≤60000
   rw [el];omega
 · intro j hj
   have hj:(T.L++[d]).length / 256≤j:=hj
   rw [el] at hj
   rw [hMf,put2_other _ (by omega)]
   exact h.fno j (by omega)
 · rw [hMf,put2_other _ (by omega)]
   exact h.f1
end
end Go.Proofs.YtgkehahklccacaaGreatDoor
