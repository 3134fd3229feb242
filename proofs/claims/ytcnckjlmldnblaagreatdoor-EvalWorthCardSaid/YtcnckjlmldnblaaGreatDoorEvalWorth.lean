/-
  PROVED: the Go law docket/docketlaw11.EvalWorth returns true for every input; its arguments read afterwards as they read before.
  Conditions: none beside the form's own.
-/
import Derived.Test.YtcnckjlmldnblaaGreatDoorR19
import Derived.Test.YtcnckjlmldnblaaGreatDoorT1
import Derived.Test.YtcnckjlmldnblaaGreatDoorCards
import Derived.Test.YtcnckjlmldnblaaGreatDoorTie
import Derived.ProofKit
import Derived.OpenShut
import Derived.Deep.DeepHandedRow
import Derived.Lib.LaidTab
import Derived.SizedLaws

namespace Go.Proofs.YtcnckjlmldnblaaGreatDoor
open Go Go.RowKit Go.ChangeShapes Go.WideShapes
set_option linter.unusedVariables false
set_option linter.unusedSimpArgs false
/-- EvalWorth's walk, as the frame wants it. -/
theorem evalworth_go (w:World) (a:Option Addr) (n c:Nat) (ns:List Nd) (h0:RS 7 Nd.cs w a n c ns∧(a=none→c=0)∧(∀ nd ∈ ns,nd.okA w)∧n≤1353245080300) (root:Int) (hlo:-9223372036854775808≤root) (hhi:root≤9223372036854775807) (p:Pd) (hp:VwArg w p) (q:Pd) (hq:VwArg w q) (hT:(ResTab w 0∧ResTab w 1)∧1 < w.heap.size) :
 Calls Tryz.prog 3 #[.slice a n c,.int .i64 root,.agg p.cs,.agg q.cs] w fun e w'=>e=.returned (.bool true)∧Below w.heap.size w w':=evalworth_walk w a n c ns h0.1 h0.2.2.1 root ⟨by omega,by omega⟩ p q hp hq hT.1.1 hT.1.2 hT.2
end Go.Proofs.YtcnckjlmldnblaaGreatDoor
namespace Go.Proofs.YtcnckjlmldnblaaGreatDoor.evalWorth
open Go.ChangeShapes Go.WideShapes Go.ChangeAt Go.RowKit
set_option linter.unusedVariables false

set_option maxRecDepth 100000 in
theorem contract (H:Type) (enc:TypeId × Value→H) (W:World) (base:Nat) (args:Array Value) (ds gs:List (DataW H)) (before:List MemPlace)
 (hval:∀ (j:Nat) t v,Tryz.f3.params[j]?=some t→args[j]?=some v→Value.okWide Tryz.prog W .any base t v)
 (hW:DataW.Whole enc Tryz.prog Tryz.f3.params.toList Rows.evalWorthSpec.vars false W args.toList ds gs before)
 (hsz:(DataW.weightsEach Tryz.prog (Tryz.f3.params.toList++Rows.evalWorthSpec.plain.varTypes Tryz.prog) (ds++gs)).all (·≤reachBytes)=true) (hL:laidMetH Tryz.prog Rows.evalWorthRow.laid W) :
 Calls Tryz.prog 3 args W fun e W'=>∃ v,e=.returned v∧Rows.evalWorthSpec.post enc Tryz.prog Tryz.f3 false true false false W args v W':=by
 have hW':=hW
 obtain ⟨p,q,hA0,hV,rfl,hfz,hnd⟩:=hW
 have hA:DataW.TrodAll enc Tryz.prog W 0 (fun _=>true) true Tryz.f3.params.toList args.toList ds p:=hA0
 rw [Tryz.params3] at hA hval hsz
 obtain ⟨v0,vs0,d0,ds0,p0,q0,hargs,rfl,rfl,h0,r0⟩:=trodAll_cons hA
 obtain ⟨v1,vs1,d1,ds1,p1,q1,rfl,rfl,rfl,h1,r1⟩:=trodAll_cons r0
 obtain ⟨v2,vs2,d2,ds2,p2,q2,rfl,rfl,rfl,h2,r2⟩:=trodAll_cons r1
 obtain ⟨v3,vs3,d3,ds3,p3,q3,rfl,rfl,rfl,h3,r3⟩:=trodAll_cons r2
 obtain ⟨rfl,rfl,rfl⟩:=trodAll_nil r3
 obtain rfl:args=#[v0,v1,v2,v3]:=by cases args;simp_all
 obtain ⟨rfl,rfl⟩:=trodVars_none hV
 obtain ⟨a0,len0,cap0,rfl⟩:=okWide_slice Tryz.underlying22 (hval 0 22 v0 rfl rfl)
 have k0:=h0
 have lt0:∀ x ∈ p0,x.block < W.heap.size:=by obtain ⟨m,hm⟩:=k0;exact DataW.trod_lt m _ _ _ hm
 obtain ⟨l0,b0⟩:∃ ns,RS 7 Nd.cs W a0 len0 cap0 ns∧(a0=none→cap0=0)∧(∀ nd ∈ ns,nd.okA W)∧len0≤1353245080300:=by
  obtain ⟨fuel,hf⟩:=h0
  obtain ⟨a,n,c,ns,hc,h1⟩:=open_nodesZ hf (fun q hq=>of_decide_eq_true (List.all_eq_true.1 hsz _ (DataW.weights_mem_each (j:=0) rfl (by simp) q hq)))
  simp [Value.cells] at hc
  obtain ⟨rfl,rfl,rfl⟩:=hc
  exact ⟨ns,h1⟩
 obtain ⟨n1,rfl,rfl,rfl,w1⟩:=open_int Tryz.underlying3 (hval 1 3 v1 rfl rfl) h1
 have bd1:=bounds_i64 w1
 have k2:=h2
 have lt2:∀ x ∈ p2,x.block < W.heap.size:=by obtain ⟨m,hm⟩:=k2;exact DataW.trod_lt m _ _ _ hm
 obtain ⟨y2,rfl,b2⟩:∃ q:Pd,v2=.agg q.cs∧VwArg W q:=open_view (hval 2 26 v2 rfl rfl) h2 (fun q hq=>of_decide_eq_true (List.all_eq_true.1 hsz _ (DataW.weights_mem_each (j:=2) rfl (by simp) q hq)))
 have k3:=h3
 have lt3:∀ x ∈ p3,x.block < W.heap.size:=by obtain ⟨m,hm⟩:=k3;exact DataW.trod_lt m _ _ _ hm
 obtain ⟨y3,rfl,b3⟩:∃ q:Pd,v3=.agg q.cs∧VwArg W q:=open_view (hval 3 26 v3 rfl rfl) h3 (fun q hq=>of_decide_eq_true (List.all_eq_true.1 hsz _ (DataW.weights_mem_each (j:=3) rfl (by simp) q hq)))
 clear hA0
 have walk:Calls Tryz.prog 3 #[.slice a0 len0 cap0,.int .i64 n1,.agg y2.cs,.agg y3.cs] W fun e w'=>e=.returned (.bool true)∧Below W.heap.size W w':=evalworth_go W a0 len0 cap0 l0 b0 n1 bd1.1 bd1.2 y2 b2 y3 b3 (table2 hL)
 refine walk.mono fun e W' ⟨he,bel⟩=>?_
 subst he
 exact ⟨_,rfl,_,_,_,[],_,[],hW',trodAll_mk1 (shut_bool Tryz.underlying4 _),(trodAll_cons_mk (Below.trod laidOut (by kernel_rfl) (of_decide_eq_true (by kernel_rfl)) k0 bel lt0) (trodAll_cons_mk (shut_int Tryz.underlying3 w1) (trodAll_cons_mk (Below.trod laidOut (by kernel_rfl) (of_decide_eq_true (by kernel_rfl)) k2 bel lt2) (trodAll_cons_mk (Below.trod laidOut (by kernel_rfl) (of_decide_eq_true (by kernel_rfl)) k3 bel lt3) trodAll_mk0)))),rfl,bel.frame _,fun h=>by cases h⟩

noncomputable def laidWorld (os:Os):World:=laidStart os
theorem reads (os:Os) {H:Type} (enc:TypeId × Value→H):∃ places,DataW.whole enc Tryz.prog ((laidWorld os).forCall (fun _ _=>0) ⟨#[],#[.slice none 0 0,.int .i64 0,.agg #[.slice none 0 0,.slice none 0 0,.slice none 0 0,.int .i64 0,.int .i64 0],.agg #[.slice none 0 0,.slice none 0 0,.slice none 0 0,.int .i64 0,.int .i64 0]],[]⟩).memory Tryz.f3.params.toList Rows.evalWorthSpec.vars false (#[.slice none 0 0,.int .i64 0,.agg #[.slice none 0 0,.slice none 0 0,.slice none 0 0,.int .i64 0,.int .i64 0],.agg #[.slice none 0 0,.slice none 0 0,.slice none 0 0,.int .i64 0,.int .i64 0]]:Array Value).toList 8=some ([.nil,.lit (.int .i64 0),.agg [.nil,.nil,.nil,.lit (.int .i64 0),.lit (.int .i64 0)],.agg [.nil,.nil,.nil,.lit (.int .i64 0),.lit (.int .i64 0)]],[],places) :=
 ⟨[],by kernel_rfl⟩
set_option maxRecDepth 100000 in
theorem lifted (os:Os) (started:os.Started) (H:Type) (enc:TypeId × Value→H) (F:Stop.Interp) :
 ReturnsInHanded {} Tryz.checked os 3 .any ((OpenSpec.ofChange Rows.evalWorthSpec).preRow enc Tryz.prog Tryz.f3 Rows.evalWorthRow.domain false Rows.evalWorthRow.laid) (((OpenSpec.ofChange Rows.evalWorthSpec).at F).post enc Tryz.prog Tryz.f3 false true false false):=by
 obtain ⟨places,hx⟩:=reads os enc
 refine returnsInHanded_of_row (C:=Tryz.checked) (s:=OpenSpec.ofChange Rows.evalWorthSpec) own started (by kernel_rfl) Tryz.func3
  (witness_row_at (enc:=enc) (C:=Tryz.checked) false (laidWorld os) #[.slice none 0 0,.int .i64 0,.agg #[.slice none 0 0,.slice none 0 0,.slice none 0 0,.int .i64 0,.int .i64 0],.agg #[.slice none 0 0,.slice none 0 0,.slice none 0 0,.int .i64 0,.int .i64 0]] rfl (by kernel_rfl) (by kernel_rfl) (by kernel_rfl)
    (OpenSpec.preRow_of_cond 8 hx (by kernel_rfl) (fun k hk=>by cases hk) (by kernel_rfl) (laidMet_of_run' 8 (by kernel_rfl) (by kernel_rfl)))) ?_
 intro W base args ds gs before hval hW _ hk hsz hL _ _
 exact contract H enc W base args ds gs before hval hW hsz hL

theorem said:Rows.EvalWorthSaid :=
 OpenClaim.holds_of_cond 3 Tryz.f3 rfl rfl rfl rfl rfl rfl rfl ⟨rfl,rfl,rfl,rfl,rfl⟩ rfl rfl rfl rfl rfl (by kernel_rfl) Tryz.func3 (by kernel_rfl)
  (of_decide_eq_true (by kernel_rfl)) (by unfold Func.isWrapper;first | (rw [if_pos (by decide +kernel)];kernel_rfl) | (rw [if_neg (by decide +kernel)];exact ⟨rfl,rfl⟩))
  (fun os started H enc _ F=>by rw [OpenClaim.pre_eq_preRow];exact lifted os started H enc F)

/-- No parameter wants a stand-in; the program's own looks are off: what the card asks. -/
theorem plain (f:FuncId) (fn:Func) (hf:Tryz.pinned.checked.prog.funcNamed "docket/docketlaw11.EvalWorth" = some f) (hfn:Tryz.pinned.checked.prog.funcs[f]?=some fn) :
 true=Tryz.pinned.checked.prog.looks []∧∀ (j:Nat) t,fn.params[j]?=some t→Tryz.pinned.checked.prog.wantsStandIn t=false:=by
 obtain rfl:f=3:=Option.some.inj ((show Tryz.prog.funcNamed "docket/docketlaw11.EvalWorth" = some 3 by kernel_rfl).symm.trans hf) |>.symm
 obtain rfl:fn=Tryz.f3:=(Option.some.inj (Tryz.func3.symm.trans hfn)).symm
 refine ⟨by kernel_rfl,fun j t ht=>?_⟩
 rw [Tryz.params3] at ht
 have hm:t=22∨t=3∨t=26∨t=26:=by simpa using Array.mem_of_getElem? ht
 rcases hm with rfl | rfl | rfl | rfl
 · exact (show Tryz.prog.wantsStandIn 22=false by kernel_rfl)
 · exact (show Tryz.prog.wantsStandIn 3=false by kernel_rfl)
 · exact (show Tryz.prog.wantsStandIn 26=false by kernel_rfl)
 · exact (show Tryz.prog.wantsStandIn 26=false by kernel_rfl)

/-- THE CARD. -/
theorem proved:Rows.EvalWorthCardSaid :=
 Claim7.holds_tied_plain_at .later [] _ _ _ _ said (fun _ h=>by cases h) (by kernel_rfl) (fun _ h=>by cases h) evalWorth_row_tie rfl ⟨rfl,rfl⟩ (by kernel_rfl) rfl plain (by kernel_rfl)
#print axioms proved
end Go.Proofs.YtcnckjlmldnblaaGreatDoor.evalWorth
