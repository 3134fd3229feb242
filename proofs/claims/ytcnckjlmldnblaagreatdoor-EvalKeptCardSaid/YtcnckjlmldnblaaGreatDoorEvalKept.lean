/-
  PROVED: the Go law docket/docketlaw11.EvalKept returns true for every input; its arguments read afterwards as they read before.
  Conditions: none beside the form's own.
-/
import Derived.Test.YtcnckjlmldnblaaGreatDoorZ7
import Derived.Test.YtcnckjlmldnblaaGreatDoorT1
import Derived.Test.YtcnckjlmldnblaaGreatDoorCards
import Derived.Test.YtcnckjlmldnblaaGreatDoorTie
import Derived.ProofKit
import Derived.OpenShut
import Derived.Deep.DeepHandedRow
import Derived.Lib.LaidTab
import Derived.SizedLaws

namespace Go.Proofs.YtcnckjlmldnblaaGreatDoor
open Go Go.RowKit Go.ChangeShapes Go.WideShapes
set_option linter.unusedVariables false
set_option linter.unusedSimpArgs false
/-- EvalKept's walk, as the frame wants it. -/
theorem evalkept_go (w:World) (a:Option Addr) (n c:Nat) (ks:List Ek) (hr:RS 7 Ek.cs w a n c ks) (hok:∀ k ∈ ks,EkOk w k) (hT:(ResTab w 0∧ResTab w 1)∧1 < w.heap.size) :
 Calls Tryz.prog 4 #[.slice a n c] w fun e w'=>e=.returned (.bool true)∧Below w.heap.size w w':=evalkept_walk w a n c ks hr hok hT.1.1 hT.1.2 hT.2
end Go.Proofs.YtcnckjlmldnblaaGreatDoor
namespace Go.Proofs.YtcnckjlmldnblaaGreatDoor.evalKept
open Go.ChangeShapes Go.WideShapes Go.ChangeAt Go.RowKit
set_option linter.unusedVariables false

set_option maxRecDepth 100000 in
theorem contract (H:Type) (enc:TypeId × Value→H) (W:World) (base:Nat) (args:Array Value) (ds gs:List (DataW H)) (before:List MemPlace)
 (hval:∀ (j:Nat) t v,Tryz.f4.params[j]?=some t→args[j]?=some v→Value.okWide Tryz.prog W .any base t v)
 (hW:DataW.Whole enc Tryz.prog Tryz.f4.params.toList Rows.evalKeptSpec.vars false W args.toList ds gs before)
 (hsz:(DataW.weightsEach Tryz.prog (Tryz.f4.params.toList++Rows.evalKeptSpec.plain.varTypes Tryz.prog) (ds++gs)).all (·≤reachBytes)=true) (hL:laidMetH Tryz.prog Rows.evalKeptRow.laid W) :
 Calls Tryz.prog 4 args W fun e W'=>∃ v,e=.returned v∧Rows.evalKeptSpec.post enc Tryz.prog Tryz.f4 false true false false W args v W':=by
 have hW':=hW
 obtain ⟨p,q,hA0,hV,rfl,hfz,hnd⟩:=hW
 have hA:DataW.TrodAll enc Tryz.prog W 0 (fun _=>true) true Tryz.f4.params.toList args.toList ds p:=hA0
 rw [Tryz.params4] at hA hval hsz
 obtain ⟨v0,vs0,d0,ds0,p0,q0,hargs,rfl,rfl,h0,r0⟩:=trodAll_cons hA
 obtain ⟨rfl,rfl,rfl⟩:=trodAll_nil r0
 obtain rfl:args=#[v0]:=by cases args;simp_all
 obtain ⟨rfl,rfl⟩:=trodVars_none hV
 obtain ⟨a0,len0,cap0,rfl⟩:=okWide_slice Tryz.underlying31 (hval 0 31 v0 rfl rfl)
 have k0:=h0
 have lt0:∀ x ∈ p0,x.block < W.heap.size:=by obtain ⟨m,hm⟩:=k0;exact DataW.trod_lt m _ _ _ hm
 obtain ⟨l0,b0⟩:∃ ks,RS 7 Ek.cs W a0 len0 cap0 ks∧∀ k ∈ ks,EkOk W k:=by
  obtain ⟨fuel,hf⟩:=h0
  obtain ⟨a,n,c,ks,hc,h1,h2⟩:=open_asks hf (fun q hq=>of_decide_eq_true (List.all_eq_true.1 hsz _ (DataW.weights_mem_each (j:=0) rfl (by simp) q hq)))
  simp [Value.cells] at hc
  obtain ⟨rfl,rfl,rfl⟩:=hc
  exact ⟨ks,h1,h2⟩
 clear hA0
 have walk:Calls Tryz.prog 4 #[.slice a0 len0 cap0] W fun e w'=>e=.returned (.bool true)∧Below W.heap.size W w':=evalkept_go W a0 len0 cap0 l0 b0.1 b0.2 (table2 hL)
 refine walk.mono fun e W' ⟨he,bel⟩=>?_
 subst he
 exact ⟨_,rfl,_,_,_,[],_,[],hW',trodAll_mk1 (shut_bool Tryz.underlying4 _),(trodAll_cons_mk (Below.trod laidOut (by kernel_rfl) (of_decide_eq_true (by kernel_rfl)) k0 bel lt0) trodAll_mk0),rfl,bel.frame _,fun h=>by cases h⟩

noncomputable def laidWorld (os:Os):World:=laidStart os
theorem reads (os:Os) {H:Type} (enc:TypeId × Value→H):∃ places,DataW.whole enc Tryz.prog ((laidWorld os).forCall (fun _ _=>0) ⟨#[],#[.slice none 0 0],[]⟩).memory Tryz.f4.params.toList Rows.evalKeptSpec.vars false (#[.slice none 0 0]:Array Value).toList 8=some ([.nil],[],places) :=
 ⟨[],by kernel_rfl⟩
set_option maxRecDepth 100000 in
theorem lifted (os:Os) (started:os.Started) (H:Type) (enc:TypeId × Value→H) (F:Stop.Interp) :
 ReturnsInHanded {} Tryz.checked os 4 .any ((OpenSpec.ofChange Rows.evalKeptSpec).preRow enc Tryz.prog Tryz.f4 Rows.evalKeptRow.domain false Rows.evalKeptRow.laid) (((OpenSpec.ofChange Rows.evalKeptSpec).at F).post enc Tryz.prog Tryz.f4 false true false false):=by
 obtain ⟨places,hx⟩:=reads os enc
 refine returnsInHanded_of_row (C:=Tryz.checked) (s:=OpenSpec.ofChange Rows.evalKeptSpec) own started (by kernel_rfl) Tryz.func4
  (witness_row_at (enc:=enc) (C:=Tryz.checked) false (laidWorld os) #[.slice none 0 0] rfl (by kernel_rfl) (by kernel_rfl) (by kernel_rfl)
    (OpenSpec.preRow_of_cond 8 hx (by kernel_rfl) (fun k hk=>by cases hk) (by kernel_rfl) (laidMet_of_run' 8 (by kernel_rfl) (by kernel_rfl)))) ?_
 intro W base args ds gs before hval hW _ hk hsz hL _ _
 exact contract H enc W base args ds gs before hval hW hsz hL

theorem said:Rows.EvalKeptSaid :=
 OpenClaim.holds_of_cond 4 Tryz.f4 rfl rfl rfl rfl rfl rfl rfl ⟨rfl,rfl,rfl,rfl,rfl⟩ rfl rfl rfl rfl rfl (by kernel_rfl) Tryz.func4 (by kernel_rfl)
  (of_decide_eq_true (by kernel_rfl)) (by unfold Func.isWrapper;first | (rw [if_pos (by decide +kernel)];kernel_rfl) | (rw [if_neg (by decide +kernel)];exact ⟨rfl,rfl⟩))
  (fun os started H enc _ F=>by rw [OpenClaim.pre_eq_preRow];exact lifted os started H enc F)

/-- No parameter wants a stand-in; the program's own looks are off: what the card asks. -/
theorem plain (f:FuncId) (fn:Func) (hf:Tryz.pinned.checked.prog.funcNamed "docket/docketlaw11.EvalKept" = some f) (hfn:Tryz.pinned.checked.prog.funcs[f]?=some fn) :
 true=Tryz.pinned.checked.prog.looks []∧∀ (j:Nat) t,fn.params[j]?=some t→Tryz.pinned.checked.prog.wantsStandIn t=false:=by
 obtain rfl:f=4:=Option.some.inj ((show Tryz.prog.funcNamed "docket/docketlaw11.EvalKept" = some 4 by kernel_rfl).symm.trans hf) |>.symm
 obtain rfl:fn=Tryz.f4:=(Option.some.inj (Tryz.func4.symm.trans hfn)).symm
 refine ⟨by kernel_rfl,fun j t ht=>?_⟩
 rw [Tryz.params4] at ht
 have hm:t=31:=by simpa using Array.mem_of_getElem? ht
 rcases hm with rfl
 · exact (show Tryz.prog.wantsStandIn 31=false by kernel_rfl)

/-- THE CARD. -/
theorem proved:Rows.EvalKeptCardSaid :=
 Claim7.holds_tied_plain_at .later [] _ _ _ _ said (fun _ h=>by cases h) (by kernel_rfl) (fun _ h=>by cases h) evalKept_row_tie rfl ⟨rfl,rfl⟩ (by kernel_rfl) rfl plain (by kernel_rfl)
#print axioms proved
end Go.Proofs.YtcnckjlmldnblaaGreatDoor.evalKept
