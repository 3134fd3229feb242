/-
  PROVED: the Go law docket/docketlaw7.TilesCache returns true for every input; its arguments read afterwards as they read before.
  Conditions: none beside the form's own.
-/
import Derived.Test.YtgkehahklccacaaGreatDoorC43
import Derived.Test.YtgkehahklccacaaGreatDoorCards
import Derived.Test.YtgkehahklccacaaGreatDoorTie
import Derived.ProofKit
import Derived.OpenShut
import Derived.Deep.DeepHandedRow
import Derived.Lib.LaidTab
import Derived.SizedLaws

namespace Go.Proofs.YtgkehahklccacaaGreatDoor.tilesCache
open Go.ChangeShapes Go.WideShapes Go.ChangeAt Go.RowKit
set_option linter.unusedVariables false

set_option maxRecDepth 100000 in
theorem contract (H:Type) (enc:TypeId × Value→H) (W:World) (base:Nat) (args:Array Value) (ds gs:List (DataW H)) (before:List MemPlace)
 (hval:∀ (j:Nat) t v,Tryz.f6.params[j]?=some t→args[j]?=some v→Value.okWide Tryz.prog W .any base t v)
 (hW:DataW.Whole enc Tryz.prog Tryz.f6.params.toList Rows.tilesCacheSpec.vars false W args.toList ds gs before)
 (hsz:(DataW.weightsEach Tryz.prog (Tryz.f6.params.toList++Rows.tilesCacheSpec.plain.varTypes Tryz.prog) (ds++gs)).all (·≤reachBytes)=true) (hL:laidMetH Tryz.prog Rows.tilesCacheRow.laid W) :
 Calls Tryz.prog 6 args W fun e W'=>∃ v,e=.returned v∧Rows.tilesCacheSpec.post enc Tryz.prog Tryz.f6 false true false false W args v W':=by
 have hW':=hW
 obtain ⟨p,q,hA0,hV,rfl,hfz,hnd⟩:=hW
 have hA:DataW.TrodAll enc Tryz.prog W 0 (fun _=>true) true Tryz.f6.params.toList args.toList ds p:=hA0
 rw [Tryz.params6] at hA hval hsz
 obtain ⟨v0,vs0,d0,ds0,p0,q0,hargs,rfl,rfl,h0,r0⟩:=trodAll_cons hA
 obtain ⟨v1,vs1,d1,ds1,p1,q1,rfl,rfl,rfl,h1,r1⟩:=trodAll_cons r0
 obtain ⟨v2,vs2,d2,ds2,p2,q2,rfl,rfl,rfl,h2,r2⟩:=trodAll_cons r1
 obtain ⟨v3,vs3,d3,ds3,p3,q3,rfl,rfl,rfl,h3,r3⟩:=trodAll_cons r2
 obtain ⟨v4,vs4,d4,ds4,p4,q4,rfl,rfl,rfl,h4,r4⟩:=trodAll_cons r3
 obtain ⟨v5,vs5,d5,ds5,p5,q5,rfl,rfl,rfl,h5,r5⟩:=trodAll_cons r4
 obtain ⟨v6,vs6,d6,ds6,p6,q6,rfl,rfl,rfl,h6,r6⟩:=trodAll_cons r5
 obtain ⟨v7,vs7,d7,ds7,p7,q7,rfl,rfl,rfl,h7,r7⟩:=trodAll_cons r6
 obtain ⟨v8,vs8,d8,ds8,p8,q8,rfl,rfl,rfl,h8,r8⟩:=trodAll_cons r7
 obtain ⟨v9,vs9,d9,ds9,p9,q9,rfl,rfl,rfl,h9,r9⟩:=trodAll_cons r8
 obtain ⟨rfl,rfl,rfl⟩:=trodAll_nil r9
 obtain rfl:args=#[v0,v1,v2,v3,v4,v5,v6,v7,v8,v9]:=by cases args;simp_all
 obtain ⟨rfl,rfl⟩:=trodVars_none hV
 obtain ⟨n0,rfl,rfl,rfl,w0⟩:=open_int Tryz.underlying3 (hval 0 3 v0 rfl rfl) h0
 have bd0:=bounds_i64 w0
 obtain ⟨n1,rfl,rfl,rfl,w1⟩:=open_int Tryz.underlying3 (hval 1 3 v1 rfl rfl) h1
 have bd1:=bounds_i64 w1
 obtain ⟨n2,rfl,rfl,rfl,w2⟩:=open_int Tryz.underlying3 (hval 2 3 v2 rfl rfl) h2
 have bd2:=bounds_i64 w2
 obtain ⟨n3,rfl,rfl,rfl,w3⟩:=open_int Tryz.underlying3 (hval 3 3 v3 rfl rfl) h3
 have bd3:=bounds_i64 w3
 obtain ⟨n4,rfl,rfl,rfl,w4⟩:=open_int Tryz.underlying3 (hval 4 3 v4 rfl rfl) h4
 have bd4:=bounds_i64 w4
 obtain ⟨n5,rfl,rfl,rfl,w5⟩:=open_int Tryz.underlying3 (hval 5 3 v5 rfl rfl) h5
 have bd5:=bounds_i64 w5
 obtain ⟨n6,rfl,rfl,rfl,w6⟩:=open_int Tryz.underlying3 (hval 6 3 v6 rfl rfl) h6
 have bd6:=bounds_i64 w6
 obtain ⟨n7,rfl,rfl,rfl,w7⟩:=open_int Tryz.underlying3 (hval 7 3 v7 rfl rfl) h7
 have bd7:=bounds_i64 w7
 obtain ⟨n8,rfl,rfl,rfl,w8⟩:=open_int Tryz.underlying3 (hval 8 3 v8 rfl rfl) h8
 have bd8:=bounds_i64 w8
 obtain ⟨n9,rfl,rfl,rfl,w9⟩:=open_int Tryz.underlying3 (hval 9 3 v9 rfl rfl) h9
 have bd9:=bounds_i64 w9
 clear hA0
 have walk:Calls Tryz.prog 6 #[.int .i64 n0,.int .i64 n1,.int .i64 n2,.int .i64 n3,.int .i64 n4,.int .i64 n5,.int .i64 n6,.int .i64 n7,.int .i64 n8,.int .i64 n9] W fun e w'=>e=.returned (.bool true)∧Below W.heap.size W w':=cache_goN W n0 bd0.1 bd0.2 n1 bd1.1 bd1.2 n2 bd2.1 bd2.2 n3 bd3.1 bd3.2 n4 bd4.1 bd4.2 n5 bd5.1 bd5.2 n6 bd6.1 bd6.2 n7 bd7.1 bd7.2 n8 bd8.1 bd8.2 n9 bd9.1 bd9.2 (tableN hL)
 refine walk.mono fun e W' ⟨he,bel⟩=>?_
 subst he
 exact ⟨_,rfl,_,_,_,[],_,[],hW',trodAll_mk1 (shut_bool Tryz.underlying4 _),(trodAll_cons_mk (shut_int Tryz.underlying3 w0) (trodAll_cons_mk (shut_int Tryz.underlying3 w1) (trodAll_cons_mk (shut_int Tryz.underlying3 w2) (trodAll_cons_mk (shut_int Tryz.underlying3 w3) (trodAll_cons_mk (shut_int Tryz.underlying3 w4) (trodAll_cons_mk (shut_int Tryz.underlying3 w5) (trodAll_cons_mk (shut_int Tryz.underlying3 w6) (trodAll_cons_mk (shut_int Tryz.underlying3 w7) (trodAll_cons_mk (shut_int Tryz.underlying3 w8) (trodAll_cons_mk (shut_int Tryz.underlying3 w9) trodAll_mk0)))))))))),rfl,bel.frame _,fun h=>by cases h⟩

noncomputable def laidWorld (os:Os):World:=laidStart4 os
theorem reads (os:Os) {H:Type} (enc:TypeId × Value→H):∃ places,DataW.whole enc Tryz.prog ((laidWorld os).forCall (fun _ _=>0) ⟨#[],#[.int .i64 0,.int .i64 0,.int .i64 0,.int .i64 0,.int .i64 0,.int .i64 0,.int .i64 0,.int .i64 0,.int .i64 0,.int .i64 0],[]⟩).memory Tryz.f6.params.toList Rows.tilesCacheSpec.vars false (#[.int .i64 0,.int .i64 0,.int .i64 0,.int .i64 0,.int .i64 0,.int .i64 0,.int .i64 0,.int .i64 0,.int .i64 0,.int .i64 0]:Array Value).toList 8=some ([.lit (.int .i64 0),.lit (.int .i64 0),.lit (.int .i64 0),.lit (.int .i64 0),.lit (.int .i64 0),.lit (.int .i64 0),.lit (.int .i64 0),.lit (.int .i64 0),.lit (.int .i64 0),.lit (.int .i64 0)],[],places) :=
 ⟨[],by kernel_rfl⟩
set_option maxRecDepth 100000 in
theorem lifted (os:Os) (started:os.Started) (H:Type) (enc:TypeId × Value→H) (F:Stop.Interp) :
 ReturnsInHanded {} Tryz.checked os 6 .any ((OpenSpec.ofChange Rows.tilesCacheSpec).preRow enc Tryz.prog Tryz.f6 Rows.tilesCacheRow.domain false Rows.tilesCacheRow.laid) (((OpenSpec.ofChange Rows.tilesCacheSpec).at F).post enc Tryz.prog Tryz.f6 false true false false):=by
 obtain ⟨places,hx⟩:=reads os enc
 refine returnsInHanded_of_row (C:=Tryz.checked) (s:=OpenSpec.ofChange Rows.tilesCacheSpec) own started (by kernel_rfl) Tryz.func6
  (witness_row_at (enc:=enc) (C:=Tryz.checked) false (laidWorld os) #[.int .i64 0,.int .i64 0,.int .i64 0,.int .i64 0,.int .i64 0,.int .i64 0,.int .i64 0,.int .i64 0,.int .i64 0,.int .i64 0] rfl (by kernel_rfl) (by kernel_rfl) (by kernel_rfl)
    (OpenSpec.preRow_of_cond 8 hx (by kernel_rfl) (fun k hk=>by cases hk) (by kernel_rfl) (laidMet_of_run' 8 (by kernel_rfl) (by kernel_rfl)))) ?_
 intro W base args ds gs before hval hW _ hk hsz hL _ _
 exact contract H enc W base args ds gs before hval hW hsz hL

theorem said:Rows.TilesCacheSaid :=
 OpenClaim.holds_of_cond 6 Tryz.f6 rfl rfl rfl rfl rfl rfl rfl ⟨rfl,rfl,rfl,rfl,rfl⟩ rfl rfl rfl rfl rfl (by kernel_rfl) Tryz.func6 (by kernel_rfl)
  (of_decide_eq_true (by kernel_rfl)) (by unfold Func.isWrapper;first | (rw [if_pos (by decide +kernel)];kernel_rfl) | (rw [if_neg (by decide +kernel)];exact ⟨rfl,rfl⟩))
  (fun os started H enc _ F=>by rw [OpenClaim.pre_eq_preRow];exact lifted os started H enc F)

/-- No parameter wants a stand-in; the program's own looks are off: what the card asks. -/
theorem plain (f:FuncId) (fn:Func) (hf:Tryz.pinned.checked.prog.funcNamed "docket/docketlaw7.TilesCache" = some f) (hfn:Tryz.pinned.checked.prog.funcs[f]?=some fn) :
 true=Tryz.pinned.checked.prog.looks []∧∀ (j:Nat) t,fn.params[j]?=some t→Tryz.pinned.checked.prog.wantsStandIn t=false:=by
 obtain rfl:f=6:=Option.some.inj ((show Tryz.prog.funcNamed "docket/docketlaw7.TilesCache" = some 6 by kernel_rfl).symm.trans hf) |>.symm
 obtain rfl:fn=Tryz.f6:=(Option.some.inj (Tryz.func6.symm.trans hfn)).symm
 refine ⟨by kernel_rfl,fun j t ht=>?_⟩
 rw [Tryz.params6] at ht
 have hm:t=3∨t=3∨t=3∨t=3∨t=3∨t=3∨t=3∨t=3∨t=3∨t=3:=by simpa using Array.mem_of_getElem? ht
 rcases hm with rfl | rfl | rfl | rfl | rfl | rfl | rfl | rfl | rfl | rfl
 · exact (show Tryz.prog.wantsStandIn 3=false by kernel_rfl)
 · exact (show Tryz.prog.wantsStandIn 3=false by kernel_rfl)
 · exact (show Tryz.prog.wantsStandIn 3=false by kernel_rfl)
 · exact (show Tryz.prog.wantsStandIn 3=false by kernel_rfl)
 · exact (show Tryz.prog.wantsStandIn 3=false by kernel_rfl)
 · exact (show Tryz.prog.wantsStandIn 3=false by kernel_rfl)
 · exact (show Tryz.prog.wantsStandIn 3=false by kernel_rfl)
 · exact (show Tryz.prog.wantsStandIn 3=false by kernel_rfl)
 · exact (show Tryz.prog.wantsStandIn 3=false by kernel_rfl)
 · exact (show Tryz.prog.wantsStandIn 3=false by kernel_rfl)

/-- THE CARD. -/
theorem proved:Rows.TilesCacheCardSaid :=
 Claim7.holds_tied_plain_at .later [] _ _ _ _ said (fun _ h=>by cases h) (by kernel_rfl) (fun _ h=>by cases h) tilesCache_row_tie rfl ⟨rfl,rfl⟩ (by kernel_rfl) rfl plain (by kernel_rfl)
#print axioms proved
end Go.Proofs.YtgkehahklccacaaGreatDoor.tilesCache
