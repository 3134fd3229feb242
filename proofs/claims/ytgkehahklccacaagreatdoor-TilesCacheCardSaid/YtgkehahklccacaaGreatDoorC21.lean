import Derived.Test.YtgkehahklccacaaGreatDoorC20
import Derived.Maps.OwnSet
namespace Go.Proofs.YtgkehahklccacaaGreatDoor
open Go Go.RowKit
open Go.Lib (hid)
set_option maxRecDepth 100000
set_option maxHeartbeats 1000000
set_option linter.unusedVariables false
set_option linter.unusedSimpArgs false
section
open Go.Maps Go.WideMaps Go.ChangeMaps
noncomputable def gL:Code:=(Tryz.f49.body.bind firstLoop).getD .skip
set_option maxHeartbeats 4000000
theorem grow_r4 (W:World) (gt g3 j:Nat) (u1 u2 u6 u7 u8 u9 uA uB uC uD uE uF uG uH uI uJ uK uL uM uN uO uP uQ uR uS uT uU uV uW uX uY uZ vA vB vC vD vE vF vG vH vI vJ vK vL vM vN vO vP vQ vR vS vT vU vV vW vX vY vZ qA qB qC qD qE qF qG qH qI qJ qK qL qM qN qO qP qQ qR qS qT qU qV qW qX:Value) (R:Exit→Act→World→Prop) (hK:∀ (u1 u2 u6 u7 u8 u9 uA uB uC uD uE uF uG uH uI uJ uK uL uM uN uO uP uQ uR uS uT uU uV uW uX uY uZ vA vB vC vD vE vF vG vH vI vJ vK vL vM vN vO vP vQ vR vS vT vU vV vW vX vY vZ qA qB qC qD qE qF qG qH qI qJ qK qL qM qN qO qP qQ qR qS qT qU qV qW qX:Value),R .normal ⟨#[.pointer (some ⟨gt,0,none⟩),u1,u2,.pointer (some ⟨g3,0,none⟩),.int .i64 (j:Int),.int .i64 ((1:Nat):Int),u6,u7,u8,u9,uA,uB,uC,uD,uE,uF,uG,uH,uI,uJ,uK,uL,uM,uN,uO,uP,uQ,uR,uS,uT,uU,uV,uW,uX,uY,uZ,vA,vB,vC,vD,vE,vF,vG,vH,vI,vJ,vK,vL,vM,vN,vO,vP,vQ,vR,vS,vT,vU,vV,vW,vX,vY,vZ,qA,qB,qC,qD,qE,qF,qG,qH,qI,qJ,qK,qL,qM,qN,qO,qP,qQ,qR,qS,qT,qU,qV,qW,qX],[]⟩ W) :
 Code.wp Tryz.prog (dropSeq 1 gL) R ⟨#[.pointer (some ⟨gt,0,none⟩),u1,u2,.pointer (some ⟨g3,0,none⟩),.int .i64 (j:Int),.int .i64 ((0:Nat):Int),u6,u7,u8,u9,uA,uB,uC,uD,uE,uF,uG,uH,uI,uJ,uK,uL,uM,uN,uO,uP,uQ,uR,uS,uT,uU,uV,uW,uX,uY,uZ,vA,vB,vC,vD,vE,vF,vG,vH,vI,vJ,vK,vL,vM,vN,vO,vP,vQ,vR,vS,vT,vU,vV,vW,vX,vY,vZ,qA,qB,qC,qD,qE,qF,qG,qH,qI,qJ,qK,qL,qM,qN,qO,qP,qQ,qR,qS,qT,qU,qV,qW,qX],[]⟩ W:=by
 have HK:=hid hK
 clear hK
 conv=>arg 2;whnf
 go_wp2
 exact HK.out _ _ _ _ _ _ _ _ _ _ _ _ _ _ _ _ _ _ _ _ _ _ _ _ _ _ _ _ _ _ _ _ _ _ _ _ _ _ _ _ _ _ _ _ _ _ _ _ _ _ _ _ _ _ _ _ _ _ _ _ _ _ _ _ _ _ _ _ _ _ _ _ _ _ _ _ _ _ _ _ _ _ 
theorem grow_any (w:World) (τ:Nat→Nat) (gt gd:Nat) (T:TT) (Y:TY) (h:TS w τ gt gd T Y) (hn:T.L.length < 60000) (d:Dg) (ht:RoundTab w) :
 Calls Tryz.prog 49 #[.pointer (some ⟨gt,0,none⟩),.agg (dgA d.1)] w fun e w'=>e=.returned (.tuple #[])∧∃ τ' Y',TS w' τ' gt gd { T with L:=T.L++[d] } Y'∧Upd τ τ' w w':=by
 refine grow_pre w gt gd T Y (dgA d.1) h.box hn (by rw [dgA_size,d.2]) (dgA_all _) d rfl _ ?_
 intro u1 u2 u6 u7 u8 u9 uA uB uC uD uE uF uG uH uI uJ uK uL uM uN uO uP uQ uR uS uT uU uV uW uX uY uZ vA vB vC vD vE vF vG vH vI vJ vK vL vM vN vO vP vQ vR vS vT vU vV vW vX vY vZ qA qB qC qD qE qF qG qH qI qJ qK qL qM qN qO qP qQ qR qS qT qU qV qW qX w1 m hm hb1 hx1 hg1 hz1
 have eL:=h.lg;have e0:=h.lo;have ef:=h.lf
 have zgt:=h.dom gt (by omega)
 have zob:=h.mo.lt
 have zfb:=h.mf.lt
 have t3:τ w.heap.size=0:=lg0 h.dom (Nat.le_refl _)
 have n1:gt ≠ Y.ob:=fun e=>by rw [e] at eL;omega
 have n2:gt ≠ Y.fb:=fun e=>by rw [e] at eL;omega
 have n3:Y.fb ≠ Y.ob:=fun e=>by rw [e] at ef;omega
 have f1:∀ k,k < w.heap.size→k ≠ gt→w1.heap[k]?=w.heap[k]?:=fun k hk h=>hg1.block k hk (fun e=>h (by injection e))
 have hd1:∀ k,τ k ≠ 0→k < w1.heap.size:=fun k hk=>by have:=h.dom k hk;omega
 have hno:=h.no;have hnf:=h.nf
 have hmo1:=h.mo.keep (f1 Y.ob zob (fun e=>n1 e.symm))
 have ho1:=h.o0.keep (w':=w1) (ρ':=τ) (fun k hk=>f1 k (h.dom k (by omega)) (fun e=>by subst e;omega)) (fun k hk=>hk)
 conv=>arg 2;whnf
 refine wp_block ?_
 refine wp_loop_rounds 2 ?_
 refine wp_seq_k fun K hK=>?_
 refine wp_block ?_
 change Code.wp Tryz.prog gX _ _ _
 by_cases h5:T.L.length % 256+1 < 256
 · clear hK
   subst hm
   refine round_stay w1 τ gt Y.fb Y.ob w.heap.size T.L.length 0 (T.L.length / 256) (8+T.L.length / 256) _ d (by omega) (by decide) rfl hb1 rfl rfl hx1 Y.no Y.Mo hmo1 (by omega) (T.L.length % 256) (T.L.drop (256 * (T.L.length / 256))) ho1 h5 (by omega) eL e0 (by omega) (by omega) t3 hd1 u1 u2 u6 u7 u8 u9 uA uB uC uD uE uF uG uH uI uJ uK uL uM uN uO uP uQ uR uS uT uU uV uW uX uY uZ vA vB vC vD vE vF vG vH vI vJ vK vL vM vN vO vP vQ vR vS vT vU vV vW vX vY vZ qA qB qC qD qE qF qG qH qI qJ qK qL qM qN qO qP qQ qR qS qT qU qV qW qX _ (fun c a a' w h e=>⟨(show a'.defers=[] from e ▸ (show a.defers=[] from h.1)),h.2⟩) ?_
   intro a w3 τ3 p hdef hm3 ho3 he3 hd3 hf3 hos htp hou hz3
   have hT:=TS.stay h hn h5 ((hf3 gt (by omega) n1 (by omega)).trans hb1) hm3 ho3 ⟨he3.same,fun k hk h0=>he3.old k (by omega) h0⟩ hd3 (fun k hk q1 q2 q3=>(hf3 k (by omega) q2 q3).trans (f1 k hk q1)) (by omega)
   simp only [Exit.inBlock,Exit.then]
   refine bodyPost_ret (v:=.tuple #[]) (by simp [results,Tryz.results49,go_sem]) hdef ⟨rfl,τ3,_,hT,⟨hos.trans hg1.os,htp.trans hg1.tape,hou.trans hg1.output,by omega,fun k hk h0=>(hf3 k (by omega) (fun e=>by subst e;omega) (by omega)).trans (f1 k hk (fun e=>by subst e;omega)),⟨he3.same,fun k hk h0=>he3.old k (by omega) h0⟩⟩⟩
 · have h5':T.L.length % 256=255:=by omega
   obtain ⟨j,hj⟩:∃ j,j=T.L.length / 256:=⟨_,rfl⟩
   rw [← hj] at ho1
   rw [h5'] at ho1
   have hxl:(T.L.drop (256 * j)).length=255:=by rw [List.length_drop];omega
   have hch:chunk (T.L++[d]) j=T.L.drop (256 * j)++[d]:=by
    unfold chunk
    rw [List.drop_append_of_le_length (by omega),List.take_of_length_le (by simp [hxl])]
   have hor1:=h.ord.keep (w':=w1) (ρ':=τ) (fun k hk=>f1 k (h.dom k (by omega)) (fun e=>by subst e;omega)) (fun k hk=>hk)
   have ho51:=h.o1.keep (w':=w1) (ρ':=τ) (fun k hk=>f1 k (h.dom k (by omega)) (fun e=>by subst e;omega)) (fun k hk=>hk)
   rw [← hj] at hor1 ho51
   have hlow3:(3:Nat) ≠ gt:=fun e=>by have:=h.low 3 (by decide);rw [e] at this;omega
   have ht1:RoundTab w1:=fun i hi=>(World.cell?_of_block (f1 3 (by have:=h.sz;omega) hlow3)).trans (ht i hi)
   have hwb:=h.wdb
   have hsz:=h.sz
   refine round_full w1 τ gt Y.fb Y.ob w.heap.size m j _ d T.wd Y.ordV (by omega) (by omega) hb1 rfl rfl rfl rfl hx1 Y.no Y.Mo hmo1 (by omega) Y.nf Y.Mf (h.mf.keep (f1 Y.fb zfb (fun e=>n2 e.symm))) (by omega) (T.L.drop (256 * j)) ho1 hxl j _ hor1 (by omega) eL ef e0 t3 hd1 h.low ht1 (by omega) hsz (by omega) (by omega) u1 u2 u6 u7 u8 u9 uA uB uC uD uE uF uG uH uI uJ uK uL uM uN uO uP uQ uR uS uT uU uV uW uX uY uZ vA vB vC vD vE vF vG vH vI vJ vK vL vM vN vO vP vQ vR vS vT vU vV vW vX vY vZ qA qB qC qD qE qF qG qH qI qJ qK qL qM qN qO qP qQ qR qS qT qU qV qW qX _ (fun c a a' w h e=>⟨(show a'.defers=[] from e ▸ (show a.defers=[] from h.1)),h.2⟩) ?_
   intro u1 u2 u7 u8 u9 uA uB uC uD uE uF uG uH uI uJ uK uL uM uN uO uP uQ uR uS uT uU uV uW uX uY uZ vA vB vC vD vE vF vG vH vI vJ vK vL vM vN vO vP vQ vR vS vT vU vV vW vX vY vZ qA qB qC qD qE qF qG qH qI qJ qK qL qM qN qO qP qQ qR qS qT qU qV qW qX w7 τ7 g c v' hmo7 hmf7 hds7 hg7 hor7 hbx7 hx7 he7 hd7 hf7 hos7 htp7 hou7 hz7
   simp only [Exit.inBlock,Exit.then]
   refine hK _ _ ?_
   clear hK K
   change Code.wp Tryz.prog (dropSeq 1 gL) _ _ _
   refine grow_r4 w7 gt w.heap.size j u1 u2 (.pointer (some ⟨w1.heap.size,0,none⟩)) u7 u8 u9 uA uB uC uD uE uF uG uH uI uJ uK uL uM uN uO uP uQ uR uS uT uU uV uW uX uY uZ vA vB vC vD vE vF vG vH vI vJ vK vL vM vN vO vP vQ vR vS vT vU vV vW vX vY vZ qA qB qC qD qE qF qG qH qI qJ qK qL qM qN qO qP qQ qR qS qT qU qV qW qX _ ?_
   intro u1 u2 u6 u7 u8 u9 uA uB uC uD uE uF uG uH uI uJ uK uL uM uN uO uP uQ uR uS uT uU uV uW uX uY uZ vA vB vC vD vE vF vG vH vI vJ vK vL vM vN vO vP vQ vR vS vT vU vV vW vX vY vZ qA qB qC qD qE qF qG qH qI qJ qK qL qM qN qO qP qQ qR qS qT qU qV qW qX
   simp only [Exit.then,Code.rounds]
   refine wp_seq_k fun K hK=>?_
   refine wp_block ?_
   change Code.wp Tryz.prog gX _ _ _
   clear hK
   rw [← hch] at hds7 hx7
   have x1:Ext w.heap.size τ τ7:=⟨he7.same,fun k hk h0=>he7.old k (by omega) h0⟩
   have ho57:OwnL w7 τ7 38 32 5 (encS (put2 (put2 Y.Mo 0 j (some (g,256,c))) 0 j none 1 0)) j ((rootsP T.wd T.L).flatMap dgE):=by
    rw [put2_other _ (by omega),put2_other _ (by omega)]
    exact ho51.keep (fun k hk=>hf7 k (hd1 k (by omega)) (fun e=>by subst e;omega) (fun e=>by subst e;omega) (fun e=>by subst e;omega) (fun e=>by subst e;omega) (by omega) (by omega)) (fun k hk=>(he7.same k (by omega)).trans hk)
   have tob:τ7 Y.ob=3:=(he7.same _ (by omega)).trans e0
   have tgt:τ7 gt=1:=(he7.same _ (by omega)).trans eL
   have tfb:τ7 Y.fb=2:=(he7.same _ (by omega)).trans ef
   have t37:τ7 w.heap.size=0:=he7.old _ (by omega) t3
   refine round_stay w7 τ7 gt Y.fb Y.ob w.heap.size j 1 0 5 _ (rootP T.wd (chunk (T.L++[d]) j)) (by omega) (by decide) (by omega) hbx7 rfl rfl hx7 (Y.no+1) _ hmo7 (by omega) j (rootsP T.wd T.L) ho57 (by omega) (by decide) tgt tob (by decide) (by decide) t37 hd7 u1 u2 u6 u7 u8 u9 uA uB uC uD uE uF uG uH uI uJ uK uL uM uN uO uP uQ uR uS uT uU uV uW uX uY uZ vA vB vC vD vE vF vG vH vI vJ vK vL vM vN vO vP vQ vR vS vT vU vV vW vX vY vZ qA qB qC qD qE qF qG qH qI qJ qK qL qM qN qO qP qQ qR qS qT qU qV qW qX _ (fun c a a' w h e=>⟨(show a'.defers=[] from e ▸ (show a.defers=[] from h.1)),h.2⟩) ?_
   intro a w9 τ9 p hdef hm9 ho9 he9 hd9 hf9 hos htp hou hz9
   have zg7:g < w7.heap.size:=hd7 g (by omega)
   have x2:Ext w.heap.size τ τ9:=x1.trans he9 (by omega)
   have hT:=TS.fill (Y':={ fb:=Y.fb,ob:=Y.ob,ordV:=v',Mf:=put2 Y.Mf 0 j (some (g,256,c)),Mo:=put2 (put2 (put2 Y.Mo 0 j (some (g,256,c))) 0 j none) 1 0 (some p),nf:=Y.nf+1,no:=Y.no+2 }) (w':=w9) (τ':=τ9) (g:=g) (c:=c) (p:=p) (d:=d) h hn h5' rfl rfl ?_ (by rw [← hj];exact hm9) (by rw [← hj]) rfl (by rw [← hj];exact hmf7.keep (hf9 Y.fb (by omega) n3 (by omega))) (by rw [← hj]) rfl ?_ ?_ ?_ ?_ x2 hd9 ?_ (by omega)
   · simp only [Exit.inBlock,Exit.then]
     refine bodyPost_ret (v:=.tuple #[]) (by simp [results,Tryz.results49,go_sem]) hdef ⟨rfl,τ9,_,hT,⟨hos.trans (hos7.trans hg1.os),htp.trans (htp7.trans hg1.tape),hou.trans (hou7.trans hg1.output),by omega,fun k hk h0=>?_,x2⟩⟩
     have q7:τ7 k=0:=he7.old k (by omega) h0
     exact (hf9 k (by omega) (fun e=>by subst e;omega) (by omega)).trans ((hf7 k (by omega) (fun e=>by subst e;omega) (fun e=>by subst e;omega) (fun e=>by subst e;omega) (by omega) (by omega) (by omega)).trans (f1 k hk (fun e=>by subst e;omega)))
   · exact (hf9 gt (by omega) n1 (by omega)).trans hbx7
   · rw [← hj];exact hds7.same (hf9 g zg7 (fun e=>by subst e;omega) (by omega))
   · rw [← hj];exact (he9.same g (by omega)).trans hg7
   · rw [← hj];exact hor7.keep (fun k hk=>hf9 k (hd7 k (by omega)) (fun e=>by subst e;omega) (by omega)) (fun k hk=>(he9.same k (by omega)).trans hk)
   · rw [← hj];exact ho9
   · intro k hk q1 q2 q3 q0 q4 q5 q6
     rw [← hj] at q4
     have q7:τ7 k=τ k:=he7.same k q0
     exact (hf9 k (by omega) q3 (by omega)).trans ((hf7 k (by omega) q1 q2 q3 (by omega) q4 q5).trans (f1 k hk q1))
end
section
open Go.Maps Go.WideMaps Go.ChangeMaps
section
variable {P : Program} (w : World)
theorem run_equalIn_nil (d:Nat) {ti tn:TypeId} {ms:Array (String × TypeId)} (v:Value) (hi:P.underlying ti=some (.interface ms)):(Op.equalIn (d+2) ti .nilIface (.iface tn v)).run P w=.ok false w:=by
 simp [Op.equalIn,run_underlying hi]
theorem run_eql_nil {ti tn:TypeId} {ms:Array (String × TypeId)} (v:Value) (hi:P.underlying ti=some (.interface ms)):(binOp .eql ti .nilIface (.iface tn v)).run P w=.ok (.bool false) w:=by
 simp only [binOp]
 simp [Op.equal,Op.maxDepth,run_equalIn_nil w 9998 v hi]
end
theorem eql_nil_iface (w:World) (y:Int):(binOp .eql 27 .nilIface (.iface 92 (.int .i64 y))).run Tryz.prog w=.ok (.bool false) w:=run_eql_nil w _ Tryz.underlying27
theorem is_nil (w:World) (y:Int) :
 Calls Tryz.prog 41 #[.nilIface,.iface 92 (.int .i64 y)] w fun e w'=>e=.returned (.bool false)∧w'=w:=by
 have heq:=fun w:World=>eql_nil_iface w y
 go_enter Tryz.func41,Tryz.ntmps41
 go_wp2
 go_ret
 exact ⟨rfl,rfl⟩
theorem is_other (w:World) (e:Value) (c n:ByteArray) (y z:Int) (h:IsFault w e c n y) (hyz:y ≠ z) :
 Calls Tryz.prog 41 #[e,.iface 92 (.int .i64 z)] w fun e w'=>e=.returned (.bool false)∧w'=w:=by
 obtain ⟨g,rfl,h⟩:=h
 obtain ⟨i,hi,hcmp⟩:=Option.map_eq_some_iff.1 isComp
 have h8:=@run_callFunc_extern Tryz.prog 92 _ Extern.ReflectliteType.typeOf Tryz.func92 (by kernel_rfl) (by kernel_rfl) (by kernel_rfl) (by kernel_rfl)
 have h32:=@run_callFunc_extern Tryz.prog 290 _ (Extern.ReflectliteType.method fun t=>do Extern.Rtype.noPackHeld "Comparable" t;pure (.bool (← typeInfo t).comparable)) Tryz.func290 (by kernel_rfl) (by kernel_rfl) (by kernel_rfl) (by kernel_rfl)
 obtain ⟨H,tT,cT⟩:=isHandle
 have mR:=isMethodComparable
 have nE:=noIsF
 have uE:=hasUnwrapF
 have mU:=methodUnwrap
 have nI:=noIsI
 have uI:=noUnwrapI
 have uI2:=noUnwrapsI
 have heq:=run_eql_iface_int (P:=Tryz.prog) w y z Tryz.underlying27 Tryz.underlying92 hi hcmp
 rw [show (y == z)=false by simpa using hyz] at heq
 have hty:=run_eql_iface_types (P:=Tryz.prog) 90 92 (.pointer (some ⟨g,0,none⟩)) (.int .i64 z) Tryz.underlying27 (by decide) w
 have c2:=cell_of_row w g 2 _ _ _ h
 simp only [List.getElem?_toArray,List.getElem?_cons_zero,List.getElem?_cons_succ] at c2
 clear h hi hcmp hyz
 go_enter Tryz.func41,Tryz.ntmps41
 go_wp2
 refine wp_loop_rounds 2 ?_
 rw [rounds_succ]
 go_wp2
 rw [rounds_succ]
 go_wp2
 go_ret
 exact ⟨rfl,rfl⟩
def tlB:ByteArray:=⟨#[116,105,108,101,115]⟩
theorem tfault_any (w:World) (c:ByteArray) (y:Int):Calls Tryz.prog 48 #[.string c,.int .i64 y] w fun e w'=>(∃ g,e=.returned (.iface 90 (.pointer (some ⟨g,0,none⟩)))∧w.heap.size≤g∧w'.heap[g]?=some (boxF tlB c y))∧Below w.heap.size w w':=by
 have h37:=newfault_any w tlB c y
 go_enter Tryz.func48,Tryz.ntmps48
 go_wp2_with (go_at_call 37;refine h37.mono ?_;rintro e w' ⟨⟨g,rfl,hg,hh⟩,hb⟩)
 go_ret
 exact ⟨⟨g,rfl,hg,hh⟩,hb⟩
theorem passed_nil (w:World):Calls Tryz.prog 43 #[.nilIface] w fun e w'=>e=.returned .nilIface∧w'=w:=by
 have h41:=is_nil w 31
 go_enter Tryz.func43,Tryz.ntmps43
 go_wp2_with (go_at_call 41;refine h41.mono ?_;rintro e w' ⟨rfl,rfl⟩)
 go_ret
 exact ⟨rfl,rfl⟩
theorem passed_space (w:World) (e:Value) (c n:ByteArray) (h:IsFault w e c n 31):Calls Tryz.prog 43 #[e] w fun e w'=>e=.returned .nilIface∧w'=w:=by
 have h41:=is_same w e c n 31 h
 go_enter Tryz.func43,Tryz.ntmps43
 go_wp2_with (go_at_call 41;refine h41.mono ?_;rintro e w' ⟨rfl,rfl⟩)
 go_ret
 exact ⟨rfl,rfl⟩
theorem passed_other (w:World) (e:Value) (c n:ByteArray) (y:Int) (h:IsFault w e c n y) (hy:y ≠ 31):Calls Tryz.prog 43 #[e] w fun e' w'=>e'=.returned e∧w'=w:=by
 have h41:=is_other w e c n y 31 h hy
 obtain ⟨g,rfl,-⟩:=h
 go_enter Tryz.func43,Tryz.ntmps43
 go_wp2_with (go_at_call 41;refine h41.mono ?_;rintro e w' ⟨rfl,rfl⟩)
 go_ret
 exact ⟨rfl,rfl⟩
end
section
open Go.Maps Go.WideMaps Go.ChangeMaps
def Dm.claimOf (d:Dm) (s:Nm):Int:=(lk d.claims s).getD 0
def Dm.claim (d:Dm) (s:Nm):Dm:={ d with claims:=(s,d.claimOf s+1) :: d.claims }
theorem zero3' (w:World):(zeroValue 3).run Tryz.prog w=.ok (.int .i64 0) w:=by kernel_rfl
theorem ClAt.look {w:World} {ρ:Nat→Nat} {b:Nat} {m:List (Nm × Int)} (h:ClAt w ρ b m) {s:Nm} (hs:s.length≤maxLen) :
 (Instr.lookup 50 (.map (some b)) (.string (bs s)) false).run Tryz.prog w=.ok (.int .i64 ((lk m s).getD 0)) w:=by
 obtain ⟨D,hm,-,h3⟩:=h
 obtain ⟨c,hrun,hat,-⟩:=hm.lookup_int law9 Tryz.underlying50 Tryz.underlying3 (zero3' w) (key9 (lenBs hs))
 have:=(h3 s).1
 unfold kL at hat
 rw [show (bs s).data.toList=s by simp [bs],this] at hat
 simp only [DataW.lit.injEq,Lit.int.injEq,true_and] at hat
 rw [hrun,hat]
theorem claims_any (w:World) (L:Lay) (gd:Nat) (d:Dm) (h:DAt w L gd d) (s:Nm) (hs:s.length≤maxLen) :
 Calls Tryz.prog 22 #[.pointer (some ⟨gd,0,none⟩),.string (bs s)] w fun e w'=>e=.returned (.int .i64 (d.claimOf s))∧w'=w:=by
 have c:=h.cells.2.2.2.2.2.2.2.2.2.2.1
 have hl:=h.cl.look hs
 have HH:=hid h
 unfold Dm.claimOf
 clear h
 go_enter Tryz.func22,Tryz.ntmps22
 go_wp2_with fail
 go_ret
 exact ⟨rfl,rfl⟩
theorem ClAt.put {w:World} {ρ:Nat→Nat} {b:Nat} {m:List (Nm × Int)} (h:ClAt w ρ b m) {s:Nm} (hs:s.length≤maxLen) (hn:m.length < maxLen) (c:Int) (hc:(Lit.int .i64 c).wf=true) :
 ∃ w',(Instr.mapUpdate 50 (.map (some b)) (.string (bs s)) (.int .i64 c)).run Tryz.prog w=.ok () w'∧ClAt w' ρ b ((s,c) :: m)∧w.grownBy w' (some b):=by
 obtain ⟨D,hm,h4,h3⟩:=h
 have hT:=hm.tidy law9
 obtain ⟨w',hrun,h5,h6⟩:=hm.update law9 Tryz.underlying50 hn (key9 (lenBs hs)) (plainElem_int Tryz.underlying3 hc)
 refine ⟨w',hrun,⟨_,h5,h4,fun t=>?_⟩,h6⟩
 have ek:kL (bs s)=.string s:=by simp [kL,bs]
 rw [ek]
 by_cases e:t=s
 · subst e
   exact ⟨by simp [lk,atKey_put_same hT.isMap (show WideAt.IsKeyLit (.string t) from trivial)],by simp [lk,has_put_same hT.isMap (show WideAt.IsKeyLit (.string t) from trivial)]⟩
 · have hne:Lit.string t ≠ .string s:=fun h=>e (by simpa using h)
   simp only [lk,if_neg e]
   exact ⟨(atKey_put_other hne _ _).trans (h3 t).1,(has_put_other hne _).trans (h3 t).2⟩
theorem claim_any (w:World) (L:Lay) (gd:Nat) (d:Dm) (h:DAt w L gd d) (s:Nm) (hs:s.length≤maxLen) (hn:d.claims.length < maxLen) (hc:-4611686018427387904≤d.claimOf s∧d.claimOf s≤4611686018427387904) :
 Calls Tryz.prog 58 #[.pointer (some ⟨gd,0,none⟩),.string (bs s)] w fun e w'=>e=.returned (.int .i64 (d.claimOf s+1))∧DAt w' L gd (d.claim s)∧Upd L.ρ L.ρ w w':=by
 have c:=h.cells.2.2.2.2.2.2.2.2.2.2.1
 have hl:=h.cl.look hs
 obtain ⟨w1,hrun,hcl,hg⟩:=h.cl.put hs hn (d.claimOf s+1) (WalkArith.wf_i64 (by omega))
 have hl1:=hcl.look hs
 simp only [lk,if_true,Option.getD_some] at hl1
 have hw:IntKind.i64.wrap (d.claimOf s+1)=d.claimOf s+1:=IntWalk.i64_in _ (by omega)
 have hlt:=h.lt
 obtain ⟨D,-,h4,-⟩:=h.cl
 have hgd:L.ρ gd=1:=h.lg
 have c1:w1.cell? ⟨gd,10,none⟩=some (.map (some L.cb)):=(World.cell?_of_block (hg.block gd hlt (fun e=>by injection e with e;rw [e] at hgd;omega))).trans c
 have hf:∀ k,k < w.heap.size→k ≠ L.cb→w1.heap[k]?=w.heap[k]?:=fun k hk h=>hg.block k hk (fun e=>h (by injection e))
 have hD:DAt w1 L gd (d.claim s):=by
  have hk:∀ r,r ≠ 0→r ≠ 4→∀ k,L.ρ k=r→w1.heap[k]?=w.heap[k]?:=fun r hr r4 k e=>hf k (h.dom k (by omega)) (fun e2=>by subst e2;omega)
  refine ⟨(hk 1 (by omega) (by omega) gd h.lg).trans h.g,h.lg,fun k e=>Nat.lt_of_lt_of_le (h.dom k e) hg.size,h.nm.keep (hk 2 (by omega) (by omega)) (fun _ e=>e) (fun _ _ _=>rfl),h.sf.keep (hk 3 (by omega) (by omega)) (fun _ e=>e) (fun _ _ _=>rfl),
   hcl,h.ch.keep (hk 5 (by omega) (by omega)) (fun _ e=>e),h.pl.keep (hk 6 (by omega) (by omega)) (fun _ e=>e),fun i f hf=>?_⟩
  obtain ⟨vn,vs,vl,hx⟩:=h.fs i f hf
  exact ⟨vn,vs,vl,hx.keep (fun k e=>hk (L.ρ k) (by omega) (by omega) k rfl) (fun _ _=>rfl)⟩
 have hU:Upd L.ρ L.ρ w w1:=⟨hg.os,hg.tape,hg.output,hg.size,fun k hk h0=>hf k hk (fun e=>by subst e;omega),Ext.refl _ _⟩
 have HD:=hid hD
 have HU:=hid hU
 have hl':(Instr.lookup 50 (.map (some L.cb)) (.string (bs s)) false).run Tryz.prog w=.ok (.int .i64 (d.claimOf s)) w:=hl
 clear h hD hU hf hlt hgd hcl hg h4 hn hc hl
 generalize d.claimOf s=v at *
 go_enter Tryz.func58,Tryz.ntmps58
 go_wp2_with fail
 go_ret
 exact ⟨rfl,HD.out,HU.out⟩
end
section
open Go.Maps Go.WideMaps Go.ChangeMaps
theorem TS.stays {w w':World} {τ:Nat→Nat} {gt gd:Nat} {T:TT} {Y:TY} (h:TS w τ gt gd T Y) (hs:w.heap.size≤w'.heap.size) (hk:∀ k,τ k ≠ 0→w'.heap[k]?=w.heap[k]?):TS w' τ gt gd T Y:=by
 have hk':∀ r,r ≠ 0→∀ k,τ k=r→w'.heap[k]?=w.heap[k]?:=fun r hr k e=>hk k (by rw [e];exact hr)
 refine ⟨(hk' 1 (by decide) gt h.lg).trans h.box,h.lg,fun k e=>Nat.lt_of_lt_of_le (h.dom k e) hs,h.low,Nat.le_trans h.sz hs,h.wdb,h.mf.keep (hk' 2 (by decide) _ h.lf),h.lf,h.nf,h.mo.keep (hk' 3 (by decide) _ h.lo),h.lo,h.no,fun j hj=>?_,h.o0.keep (hk' _ (by omega)) (fun _ e=>e),h.none0,h.o1.keep (hk' 5 (by decide)) (fun _ e=>e),h.ord.keep (hk' 7 (by decide)) (fun _ e=>e),h.few,h.fno,h.f1⟩
 obtain ⟨g,c,q1,q2,q3⟩:=h.full j hj
 exact ⟨g,c,q1,q2.same (hk' _ (by omega) g q3),q3⟩
theorem TS.below {w w':World} {τ:Nat→Nat} {gt gd:Nat} {T:TT} {Y:TY} (h:TS w τ gt gd T Y) (hb:Below w.heap.size w w'):TS w' τ gt gd T Y:=h.stays hb.size (fun k e=>hb.block k (h.dom k e))
theorem TS.other {w w':World} {τ:Nat→Nat} {gt gd:Nat} {T:TT} {Y:TY} {ρ ρ':Nat→Nat} (h:TS w τ gt gd T Y) (hu:Upd ρ ρ' w w') (hs:∀ k,τ k ≠ 0→ρ k=0):TS w' τ gt gd T Y∧∀ k,τ k ≠ 0→ρ' k=0 :=
 ⟨h.stays hu.size (fun k e=>hu.block k (h.dom k e) (hs k e)),fun k e=>hu.ext.old k (h.dom k e) (hs k e)⟩
structure BT (w:World) (L:Lay) (τ:Nat→Nat) (gt gd:Nat) (d:Dm) (T:TT) (Y:TY):Prop where
 d:DAt w L gd d
 t:TS w τ gt gd T Y
 far:∀ k,τ k ≠ 0→L.ρ k=0
theorem BT.below {w w':World} {L:Lay} {τ:Nat→Nat} {gt gd:Nat} {d:Dm} {T:TT} {Y:TY} (h:BT w L τ gt gd d T Y) (hb:Below w.heap.size w w'):BT w' L τ gt gd d T Y:=⟨h.d.below hb,h.t.below hb,h.far⟩
theorem BT.disk {w w':World} {L L':Lay} {τ:Nat→Nat} {gt gd:Nat} {d d':Dm} {T:TT} {Y:TY} (h:BT w L τ gt gd d T Y) (hd:DAt w' L' gd d') (hu:Upd L.ρ L'.ρ w w'):BT w' L' τ gt gd d' T Y:=by
 obtain ⟨h1,h2⟩:=h.t.other hu h.far
 exact ⟨hd,h1,h2⟩
theorem BT.tiles {w w':World} {L:Lay} {τ τ':Nat→Nat} {gt gd:Nat} {d:Dm} {T T':TT} {Y Y':TY} (h:BT w L τ gt gd d T Y) (ht:TS w' τ' gt gd T' Y') (hu:Upd τ τ' w w'):BT w' L τ' gt gd d T' Y':=by
 have far':∀ k,L.ρ k ≠ 0→τ k=0:=fun k hk=>by
  rcases Nat.eq_zero_or_pos (τ k) with e | e
  · exact e
  · exact absurd (h.far k (by omega)) hk
 obtain ⟨h1,h2⟩:=h.d.other hu far'
 refine ⟨h1,ht,fun k hk=>?_⟩
 rcases Nat.eq_zero_or_pos (L.ρ k) with e | e
 · exact e
 · exact absurd (h2 k (by omega)) hk
theorem TS.cells {w:World} {τ:Nat→Nat} {gt gd:Nat} {T:TT} {Y:TY} (h:TS w τ gt gd T Y) :
 w.cell? ⟨gt,0,none⟩=some (.pointer (some ⟨gd,0,none⟩))∧w.cell? ⟨gt,1,none⟩=some (.int .i64 T.ep)∧w.cell? ⟨gt,2,none⟩=some (.int .i64 T.cl)∧w.cell? ⟨gt,3,none⟩=some (.int .i64 T.wd)∧w.cell? ⟨gt,4,none⟩=some (.int .i64 (T.L.length:Int))∧w.cell? ⟨gt,5,none⟩=some (.map (some Y.fb)) ∧
 w.cell? ⟨gt,7,none⟩=some Y.ordV∧w.cell? ⟨gt,8,none⟩=some (.int .i64 (T.held:Int))∧w.cell? ⟨gt,9,none⟩=some (.bool T.l0)∧w.cell? ⟨gt,10,none⟩=some (.bool T.l1)∧∀ o,w.frozen? ⟨gt,o,none⟩=false:=by
 have h:=h.box
 refine ⟨?_,?_,?_,?_,?_,?_,?_,?_,?_,?_,fun o=>frozen_of_row w gt o _ _ h⟩ <;> (rw [cell_of_row _ _ _ _ _ _ h];rfl)
theorem tsize_any (w:World) (τ:Nat→Nat) (gt gd:Nat) (T:TT) (Y:TY) (h:TS w τ gt gd T Y):Calls Tryz.prog 24 #[.pointer (some ⟨gt,0,none⟩)] w fun e w'=>e=.returned (.int .i64 (T.L.length:Int))∧w'=w:=by
 have c:=h.cells.2.2.2.2.1
 have HH:=hid h
 clear h
 go_enter Tryz.func24,Tryz.ntmps24
 go_wp2_with fail
 go_ret
 exact ⟨rfl,rfl⟩
def TT.live (T:TT) (d:Dm) (s:Nm):Int:=if d.power=false then 2 else if (d.epoch:Int)=T.ep∧d.claimOf s=T.cl then 0 else 3
def tlN:Nm:=[116,105,108,101,115]
set_option maxHeartbeats 4000000
theorem live_any (w:World) (L:Lay) (τ:Nat→Nat) (gt gd:Nat) (d:Dm) (T:TT) (Y:TY) (h:BT w L τ gt gd d T Y) (c:ByteArray) :
 Calls Tryz.prog 39 #[.pointer (some ⟨gt,0,none⟩),.string c] w fun e w'=>(∃ v,e=.returned v∧ToldV v w' L.ρ tlB c (T.live d tlN))∧Below w.heap.size w w':=by
 have c0:=h.t.cells.1
 have c1:=h.t.cells.2.1
 have c2:=h.t.cells.2.2.1
 have h0:∀ g,w.heap.size≤g→L.ρ g=0:=fun g hg=>by
  rcases Nat.eq_zero_or_pos (L.ρ g) with h9 | h9
  · exact h9
  · have:=h.d.dom g (by omega);omega
 have H0:=hid h0
 have HP:=hid (power_any w L gd d h.d)
 have HE:=hid (fun k=>epoch_any (w.drewN k) L gd d (h.d.below (below_drewN (Below.refl _ _) k)))
 have HC:=hid (fun k=>claims_any (w.drewN k) L gd d (h.d.below (below_drewN (Below.refl _ _) k)) tlN (by decide))
 clear h h0
 cases hp:d.power
 · rw [hp] at HP
   have el:T.live d tlN=2:=by unfold TT.live;rw [if_pos hp]
   rw [el]
   go_enter Tryz.func39,Tryz.ntmps39
   go_wp2_with (first | (go_at_call 15;refine HP.out.mono ?_;rintro e w' ⟨rfl,rfl⟩) | (go_at_call 48;refine (tfault_any _ _ _).mono ?_;rintro e w' ⟨⟨g,rfl,hg,hh⟩,hb⟩))
   go_ret
   exact ⟨⟨_,rfl,.inr ⟨by decide,g,rfl,hh,H0.out g hg⟩⟩,hb⟩
 · rw [hp] at HP
   by_cases he:(d.epoch:Int)=T.ep
   · by_cases hc:d.claimOf tlN=T.cl
     · have el:T.live d tlN=0:=by unfold TT.live;rw [if_neg (by simp [hp]),if_pos ⟨he,hc⟩]
       rw [el]
       rw [← he] at c1
       rw [← hc] at c2
       clear el he hc hp
       go_enter Tryz.func39,Tryz.ntmps39
       go_wp2_with (go_at_call 15;refine HP.out.mono ?_;rintro e w' ⟨rfl,rfl⟩)
       go_quiet ((first | (go_at_call 56;exact Calls.quiet_of_same ((HE.out _).mono fun _ _ ⟨p,q⟩=>⟨p,q⟩)) | (go_at_call 22;exact Calls.quiet_of_same ((HC.out _).mono fun _ _ ⟨p,q⟩=>⟨p,q⟩))))
       go_wp2
       go_ret
       exact ⟨⟨_,rfl,.inl ⟨rfl,rfl⟩⟩,below_drewN (Below.refl _ _) _⟩
     · have el:T.live d tlN=3:=by unfold TT.live;rw [if_neg (by simp [hp]),if_neg (fun h=>hc h.2)]
       rw [el]
       rw [← he] at c1
       have hc9:(d.claimOf tlN != T.cl)=true:=bne_iff_ne.2 hc
       clear el he hc hp
       go_enter Tryz.func39,Tryz.ntmps39
       go_wp2_with (go_at_call 15;refine HP.out.mono ?_;rintro e w' ⟨rfl,rfl⟩)
       go_quiet ((first | (go_at_call 56;exact Calls.quiet_of_same ((HE.out _).mono fun _ _ ⟨p,q⟩=>⟨p,q⟩)) | (go_at_call 22;exact Calls.quiet_of_same ((HC.out _).mono fun _ _ ⟨p,q⟩=>⟨p,q⟩))))
       go_wp2_with (go_at_call 48;refine (tfault_any _ _ _).mono ?_;rintro e w' ⟨⟨g,rfl,hg,hh⟩,hb⟩)
       go_ret
       exact ⟨⟨_,rfl,.inr ⟨by decide,g,rfl,hh,H0.out g hg⟩⟩,(below_drewN (Below.refl _ _) _).trans hb⟩
   · have el:T.live d tlN=3:=by unfold TT.live;rw [if_neg (by simp [hp]),if_neg (fun h=>he h.1)]
     rw [el]
     have he9:((d.epoch:Int) != T.ep)=true:=bne_iff_ne.2 he
     clear el he hp
     go_enter Tryz.func39,Tryz.ntmps39
     go_wp2_with (go_at_call 15;refine HP.out.mono ?_;rintro e w' ⟨rfl,rfl⟩)
     go_quiet ((first | (go_at_call 56;exact Calls.quiet_of_same ((HE.out _).mono fun _ _ ⟨p,q⟩=>⟨p,q⟩)) | (go_at_call 22;exact Calls.quiet_of_same ((HC.out _).mono fun _ _ ⟨p,q⟩=>⟨p,q⟩))))
     go_wp2_with (go_at_call 48;refine (tfault_any _ _ _).mono ?_;rintro e w' ⟨⟨g,rfl,hg,hh⟩,hb⟩)
     go_ret
     exact ⟨⟨_,rfl,.inr ⟨by decide,g,rfl,hh,H0.out g hg⟩⟩,(below_drewN (Below.refl _ _) _).trans hb⟩
end
section
open Go.Maps Go.WideMaps Go.ChangeMaps
structure UB (L:Lay) (τ:Nat→Nat) (L':Lay) (τ':Nat→Nat) (w w':World):Prop where
 os:w'.os=w.os
 tape:w'.tape=w.tape
 output:w'.output=w.output
 size:w.heap.size≤w'.heap.size
 block:∀ k,k < w.heap.size→L.ρ k=0→τ k=0→w'.heap[k]?=w.heap[k]?
 extL:Ext w.heap.size L.ρ L'.ρ
 extT:Ext w.heap.size τ τ'
theorem UB.trans {L L1 L2:Lay} {τ τ1 τ2:Nat→Nat} {w w1 w2:World} (h:UB L τ L1 τ1 w w1) (k:UB L1 τ1 L2 τ2 w1 w2):UB L τ L2 τ2 w w2 :=
 ⟨k.os.trans h.os,k.tape.trans h.tape,k.output.trans h.output,Nat.le_trans h.size k.size,fun i hi h0 h1=>(k.block i (Nat.lt_of_lt_of_le hi h.size) (h.extL.old i hi h0) (h.extT.old i hi h1)).trans (h.block i hi h0 h1),h.extL.trans k.extL h.size,h.extT.trans k.extT h.size⟩
theorem UB.of_disk {L L':Lay} {τ:Nat→Nat} {w w':World} (h:Upd L.ρ L'.ρ w w'):UB L τ L' τ w w':=⟨h.os,h.tape,h.output,h.size,fun k hk h0 _=>h.block k hk h0,h.ext,Ext.refl _ _⟩
theorem UB.of_tiles {L:Lay} {τ τ':Nat→Nat} {w w':World} (h:Upd τ τ' w w'):UB L τ L τ' w w':=⟨h.os,h.tape,h.output,h.size,fun k hk _ h0=>h.block k hk h0,Ext.refl _ _,h.ext⟩
theorem UB.of_below {L:Lay} {τ:Nat→Nat} {w w':World} (h:Below w.heap.size w w'):UB L τ L τ w w':=⟨h.os,h.tape,h.output,h.size,fun k hk _ _=>h.block k hk,Ext.refl _ _,Ext.refl _ _⟩
def TV (v:Value) (w:World) (y:Int):Prop:=(y=0∧v=.nilIface)∨(y ≠ 0∧∃ c n,IsFault w v c n y)
theorem ToldV.tv {v:Value} {w:World} {ρ:Nat→Nat} {c n:ByteArray} {y:Int} (h:ToldV v w ρ c n y):TV v w y:=by
 rcases h with h | ⟨h1,g,h2,h3,-⟩
 · exact .inl h
 · exact .inr ⟨h1,c,n,g,h2,h3⟩
def syncD (d:Dm) (T:TT):Dm × TT × Int :=
 let r1:=if T.l0=true then d.sync tlN else (d,0)
 if r1.2 ≠ 0 then (r1.1,T,r1.2) else
 let T1:={ T with l0:=false }
 let r2:=if T.l1=true then r1.1.syncNames else (r1.1,0)
 if r2.2 ≠ 0 then (r2.1,T1,r2.2) else (r2.1,{ T1 with l1:=false },0)
theorem TS.own1 {w w':World} {τ:Nat→Nat} {gt gd:Nat} {T T':TT} {Y:TY} (h:TS w τ gt gd T Y) (hg:w.grownBy w' (some gt)) (hb:w'.heap[gt]?=some (boxT gd T' Y)) (e1:T'.L=T.L) (e2:T'.wd=T.wd):TS w' τ gt gd T' Y∧Upd τ τ w w':=by
 have hk:∀ k,k < w.heap.size→k ≠ gt→w'.heap[k]?=w.heap[k]?:=fun k hk hn=>hg.block k hk (fun e=>hn (by injection e))
 have hl:=h.lg
 have hk':∀ r,r ≠ 0→r ≠ 1→∀ k,τ k=r→w'.heap[k]?=w.heap[k]?:=fun r hr h1 k e=>hk k (h.dom k (by omega)) (fun e2=>by subst e2;omega)
 refine ⟨⟨hb,h.lg,fun k e=>Nat.lt_of_lt_of_le (h.dom k e) hg.size,h.low,Nat.le_trans h.sz hg.size,by rw [e2];exact h.wdb,h.mf.keep (hk' 2 (by decide) (by decide) _ h.lf),h.lf,by rw [e1];exact h.nf,h.mo.keep (hk' 3 (by decide) (by decide) _ h.lo),h.lo,by rw [e1];exact h.no,fun j hj=>?_,?_,by rw [e1];exact h.none0,?_,?_,by rw [e1];exact h.few,by rw [e1];exact h.fno,h.f1⟩,
  ⟨hg.os,hg.tape,hg.output,hg.size,fun k q h0=>hk k q (fun e=>by subst e;omega),Ext.refl _ _⟩⟩
 · rw [e1] at hj ⊢
   obtain ⟨g,c,q1,q2,q3⟩:=h.full j hj
   exact ⟨g,c,q1,q2.same (hk' _ (by omega) (by omega) g q3),q3⟩
 · rw [e1];exact h.o0.keep (hk' _ (by omega) (by omega)) (fun _ e=>e)
 · rw [e1,e2];exact h.o1.keep (hk' 5 (by decide) (by decide)) (fun _ e=>e)
 · rw [e1];exact h.ord.keep (hk' 7 (by decide) (by decide)) (fun _ e=>e)
set_option maxHeartbeats 4000000
noncomputable def sy0:Code:=Tryz.f46.body.getD .skip
end
section
open Go.Maps Go.WideMaps Go.ChangeMaps
abbrev SyR (L:Lay) (τ:Nat→Nat) (gt gd:Nat) (Y:TY) (w:World) (r:Dm × TT × Int):Ending→World→Prop:=fun e w'=>∃ v,e=.returned v∧TV v w' r.2.2∧∃ L',BT w' L' τ gt gd r.1 r.2.1 Y∧UB L τ L' τ w w'
def syncD2 (d:Dm) (T:TT):Dm × TT × Int :=
 let r2:=if T.l1=true then d.syncNames else (d,0)
 if r2.2 ≠ 0 then (r2.1,T,r2.2) else (r2.1,{ T with l1:=false },0)
theorem bodyPost_mono' {P:Program} {fn:Func} {R R':Ending→World→Prop} (h:∀ e w,R e w→R' e w):∀ e a w,bodyPost P fn R e a w→bodyPost P fn R' e a w:=by
 intro e a w hq
 cases e with
 | normal=>obtain ⟨q1,v,q2,q3⟩:=hq;exact ⟨q1,v,q2,h _ _ q3⟩
 | ret=>obtain ⟨q1,v,q2,q3⟩:=hq;exact ⟨q1,v,q2,h _ _ q3⟩
 | panic c=>exact ⟨hq.1,h _ _ hq.2⟩
 | outgrown=>exact h _ _ hq
 | exit=>exact hq
 | goto=>exact hq
set_option maxHeartbeats 4000000
theorem sync_2 (w:World) (L:Lay) (τ:Nat→Nat) (gt gd:Nat) (d:Dm) (T:TT) (Y:TY) (h:BT w L τ gt gd d T Y) (hp:Pre d) (u1 u2 u3 u4 u5 u6 u7 u8 u9 u10 u11 u12 u13 u14 u15 u16 u17 u18 u19 u20 u21 u22 u23 u24 u25 u26 u27 u28 u29 u30 u31 u32 u33 u34 u35 u36 u37 u38:Value) :
 Code.wp Tryz.prog (dropSeq 2 sy0) (bodyPost Tryz.prog Tryz.f46 (SyR L τ gt gd Y w (syncD2 d T))) ⟨#[.pointer (some ⟨gt,0,none⟩),u1,u2,u3,u4,u5,u6,u7,u8,u9,u10,u11,u12,u13,u14,u15,u16,u17,u18,u19,u20,u21,u22,u23,u24,u25,u26,u27,u28,u29,u30,u31,u32,u33,u34,u35,u36,u37,u38],[]⟩ w:=by
 have c0:=h.t.cells.1
 have c10:=h.t.cells.2.2.2.2.2.2.2.2.2.1
 cases hl:T.l1
 · have e:syncD2 d T=(d,{ T with l1:=false },0):=by unfold syncD2;rw [hl];simp
   have e2:({ T with l1:=false }:TT)=T:=by cases T;simp_all
   rw [e,e2]
   rw [hl] at c10
   have HH:=hid h
   clear h e e2 hl hp
   conv=>arg 2;whnf
   go_wp2
   refine bodyPost_ret (v:=.nilIface) (by simp [results,Tryz.results46,go_sem]) rfl ⟨_,rfl,.inl ⟨rfl,rfl⟩,L,HH.out,UB.of_below (Below.refl _ _)⟩
 · rw [hl] at c10
   have HS:=hid (syncNames_any w L gd d h.d hp)
   have HH:=hid h
   by_cases hy:d.syncNames.2=0
   · have e:syncD2 d T=(d.syncNames.1,{ T with l1:=false },0):=by unfold syncD2;rw [hl];simp [hy]
     rw [e]
     have HY:=hid hy
     clear h e hl hp hy
     conv=>arg 2;whnf
     go_wp2_with (go_at_call 102;refine HS.out.mono ?_;rintro e w1 ⟨L1,hD1,hU1,v1,rfl,hv1⟩;rw [HY.out] at hv1;obtain rfl:v1=.nilIface:=(hv1.resolve_right fun q=>q.1 rfl).2;have hBT:=HH.out.disk hD1 hU1;have e10:=hBT.t.cells.2.2.2.2.2.2.2.2.2.1;have f10:=hBT.t.cells.2.2.2.2.2.2.2.2.2.2 10;have HU1:=hid hU1;have HB:=hid hBT;clear hv1 hD1 hU1 hBT c0 c10)
     obtain ⟨hb,hg⟩:=row_setCell (i:=10) HB.out.t.box (.bool false)
     obtain ⟨ht,hu⟩:=HB.out.t.own1 (T':={ T with l1:=false }) hg hb rfl rfl
     exact bodyPost_ret (v:=.nilIface) (by simp [results,Tryz.results46,go_sem]) rfl ⟨_,rfl,.inl ⟨rfl,rfl⟩,L1,HB.out.tiles ht hu,(UB.of_disk HU1.out).trans (UB.of_tiles hu)⟩
   · have e:syncD2 d T=(d.syncNames.1,T,d.syncNames.2):=by unfold syncD2;rw [hl];simp [hy]
     rw [e]
     have HY:=hid hy
     clear h e hl hp hy
     conv=>arg 2;whnf
     go_wp2_with (go_at_call 102;refine HS.out.mono ?_;rintro e w1 ⟨L1,hD1,hU1,v1,rfl,hv1⟩;obtain ⟨g,rfl,hg1,hg2⟩:=(hv1.resolve_left fun q=>HY.out q.1).2;have HU1:=hid hU1;have HB:=hid (HH.out.disk hD1 hU1);have HG:=hid hg1;clear hv1 hD1 hU1 hg1 hg2 c0 c10)
     exact bodyPost_ret (v:=.iface 90 (.pointer (some ⟨g,0,none⟩))) (by simp [results,Tryz.results46,go_sem]) rfl ⟨_,rfl,.inr ⟨HY.out,_,_,g,rfl,HG.out⟩,L1,HB.out,UB.of_disk HU1.out⟩
theorem syncD_eq (d:Dm) (T:TT):syncD d T=if T.l0=true then (if (d.sync tlN).2 ≠ 0 then ((d.sync tlN).1,T,(d.sync tlN).2) else syncD2 (d.sync tlN).1 { T with l0:=false }) else syncD2 d { T with l0:=false }:=by
 unfold syncD syncD2
 cases T.l0 <;> simp
theorem tsync_any (w:World) (L:Lay) (τ:Nat→Nat) (gt gd:Nat) (d:Dm) (T:TT) (Y:TY) (h:BT w L τ gt gd d T Y) (hp:Pre d) (hp2:T.l0=true→Pre (d.sync tlN).1) :
 Calls Tryz.prog 46 #[.pointer (some ⟨gt,0,none⟩)] w (SyR L τ gt gd Y w (syncD d T)):=by
 have c0:=h.t.cells.1
 have c9:=h.t.cells.2.2.2.2.2.2.2.2.1
 rw [syncD_eq]
 cases hl:T.l0
 · rw [hl] at c9
   have e2:({ T with l0:=false }:TT)=T:=by cases T;simp_all
   rw [if_neg (by simp),e2]
   have HH:=hid (fun u1 u2 u3 u4 u5 u6 u7 u8 u9 u10 u11 u12 u13 u14 u15 u16 u17 u18 u19 u20 u21 u22 u23 u24 u25 u26 u27 u28 u29 u30 u31 u32 u33 u34 u35 u36 u37 u38=>sync_2 w L τ gt gd d T Y h hp u1 u2 u3 u4 u5 u6 u7 u8 u9 u10 u11 u12 u13 u14 u15 u16 u17 u18 u19 u20 u21 u22 u23 u24 u25 u26 u27 u28 u29 u30 u31 u32 u33 u34 u35 u36 u37 u38)
   clear h hp hp2 hl e2
   go_enter Tryz.func46,Tryz.ntmps46
   refine wp_two_k (c:=sy0) ⟨_,_,rfl⟩ fun K hK=>?_
   have HK:=hid hK
   clear hK
   conv=>arg 2;whnf
   go_wp2_with fail
   refine HK.out _ _ ?_
   clear HK K
   refine wp_two_k (c:=dropSeq 1 sy0) ⟨_,_,rfl⟩ fun K hK=>?_
   have HK:=hid hK
   clear hK
   conv=>arg 2;whnf
   go_wp2_with fail
   refine HK.out _ _ ?_
   rw [dropSeq_succ]
   exact HH.out _ _ _ _ _ _ _ _ _ _ _ _ _ _ _ _ _ _ _ _ _ _ _ _ _ _ _ _ _ _ _ _ _ _ _ _ _ _ 
 · rw [hl] at c9
   rw [if_pos rfl]
   have HS:=hid (sync_any w L gd d h.d hp tlN (by decide))
   have HH:=hid h
   have HP2:=hid (hp2 hl)
   by_cases hy:(d.sync tlN).2=0
   · rw [if_neg (by simp [hy])]
     have HY:=hid hy
     clear h hl hp hp2 hy
     go_enter Tryz.func46,Tryz.ntmps46
     refine wp_two_k (c:=sy0) ⟨_,_,rfl⟩ fun K hK=>?_
     have HK:=hid hK
     clear hK
     conv=>arg 2;whnf
     go_wp2_with fail
     refine HK.out _ _ ?_
     clear HK K
     refine wp_two_k (c:=dropSeq 1 sy0) ⟨_,_,rfl⟩ fun K hK=>?_
     have HK:=hid hK
     clear hK
     conv=>arg 2;whnf
     go_wp2_with (go_at_call 101;refine HS.out.mono ?_;rintro e w1 ⟨L1,hD1,hU1,v1,rfl,hv1⟩;rw [HY.out] at hv1;obtain rfl:v1=.nilIface:=(hv1.resolve_right fun q=>q.1 rfl).2;have hBT:=HH.out.disk hD1 hU1;have e9:=hBT.t.cells.2.2.2.2.2.2.2.2.1;have f9:=hBT.t.cells.2.2.2.2.2.2.2.2.2.2 9;have HU1:=hid hU1;have HB:=hid hBT;clear hv1 hD1 hU1 hBT c0 c9)
     obtain ⟨hb,hg⟩:=row_setCell (i:=9) HB.out.t.box (.bool false)
     obtain ⟨ht,hu⟩:=HB.out.t.own1 (T':={ T with l0:=false }) hg hb rfl rfl
     have hBT2:=HB.out.tiles ht hu
     refine HK.out _ _ ?_
     rw [dropSeq_succ]
     refine wp_mono (sync_2 _ L1 τ gt gd _ _ Y hBT2 HP2.out _ _ _ _ _ _ _ _ _ _ _ _ _ _ _ _ _ _ _ _ _ _ _ _ _ _ _ _ _ _ _ _ _ _ _ _ _ _ ) ?_
     exact bodyPost_mono' (fun e w' ⟨v,q1,q2,L',q3,q4⟩=>⟨v,q1,q2,L',q3,((UB.of_disk HU1.out).trans (UB.of_tiles hu)).trans q4⟩)
   · rw [if_pos hy]
     have HY:=hid hy
     clear h hl hp hp2 hy
     go_enter Tryz.func46,Tryz.ntmps46
     go_wp2_with (go_at_call 101;refine HS.out.mono ?_;rintro e w1 ⟨L1,hD1,hU1,v1,rfl,hv1⟩;obtain ⟨g,rfl,hg1,hg2⟩:=(hv1.resolve_left fun q=>HY.out q.1).2;have HU1:=hid hU1;have HB:=hid (HH.out.disk hD1 hU1);have HG:=hid hg1;clear hv1 hD1 hU1 hg1 hg2 c0 c9)
     go_ret
     exact ⟨_,rfl,.inr ⟨HY.out,_,_,g,rfl,HG.out⟩,L1,HB.out,UB.of_disk HU1.out⟩
end
end Go.Proofs.YtgkehahklccacaaGreatDoor
