import Derived.Test.YtcnckjlmldnblaaGreatDoorE30
import Derived.Handy
import Derived.Recover
import Derived.Defers
import Derived.Test.YtcnckjlmldnblaaGreatDoorE32
namespace Go.Proofs.YtcnckjlmldnblaaGreatDoor
open Go Go.RowKit
set_option maxRecDepth 100000
set_option maxHeartbeats 4000000
set_option linter.unusedVariables false
set_option linter.unusedSimpArgs false
/-- No refusal is 0. -/
def NzW (r:Wr):Prop:=∀ er,r=.error er→er ≠ 0
theorem NzW.ok (x:Vl):NzW (.ok x):=fun er h=>by cases h
theorem NzW.err {e:Int} (h:e ≠ 0):NzW (.error e):=fun er h'=>by cases h';exact h
theorem nz_num (n:Int):NzW (numW n):=by unfold numW;split <;> first | exact .ok _ | exact .err (by decide)
theorem nz_members (l:List ByteArray):NzW (membersW l):=by unfold membersW;split <;> first | exact .ok _ | exact .err (by decide)
theorem nz_ordered (op:Int) (a b c d:Bool):NzW (orderedW op a b c d):=by unfold orderedW;repeat' split
                                                                         all_goals first | exact .ok _ | exact .err (by decide)
theorem nz_numbers (op a b:Int):NzW (numbersW op a b):=by
 unfold numbersW quotW
 repeat' split
 all_goals first | exact nz_num _ | exact .err (by decide) | exact nz_ordered _ _ _ _ _ | exact .ok _
theorem nz_time {r:Wr} (h:NzW r):NzW (asTime r):=by
 cases r with
 | ok x=>exact .ok _
 | error e=>exact .err (h e rfl)
theorem nz_sets (op:Int) (a b:List ByteArray):NzW (setsW op a b):=by
 unfold setsW
 repeat' split
 all_goals first | exact nz_members _ | exact .err (by decide)
theorem nz_moved (t b:Int):NzW (movedW t b):=by unfold movedW;split <;> first | exact .ok _ | exact .err (by decide)
theorem nz_short (s:ByteArray):NzW (shortW s):=by unfold shortW;split <;> first | exact .ok _ | exact .err (by decide)
theorem nz_double (op:Int) (a b:Vl):NzW (doubleW op a b):=by
 unfold doubleW
 repeat' split
 all_goals first | exact nz_numbers _ _ _ | exact nz_moved _ _ | exact .err (by decide) | exact nz_short _ | exact nz_ordered _ _ _ _ _ | exact .ok _ | exact nz_sets _ _ _ | exact nz_time (nz_numbers _ _ _)
theorem nz_single (op:Int) (a:Vl):NzW (singleW op a):=by
 unfold singleW
 repeat' split
 all_goals first | exact nz_num _ | exact .ok _ | exact .err (by decide)
theorem nz_op (op:Int) (l:List Vl):NzW (opW op l):=by
 unfold opW
 repeat' split
 · exact .err (by decide)
 · unfold gatheredW;split <;> first | exact nz_members _ | exact .err (by decide)
 · exact nz_single _ _
 · exact nz_double _ _ _
 · exact .err (by decide)
theorem nz_told (v:Vl):NzW (toldW v):=by unfold toldW;split <;> first | exact .ok _ | exact .err (by decide)
theorem nz_sure {r:Wr} (h:NzW r):∀ er,sureW r=.error er→er ≠ 0:=by
 intro er he
 cases r with
 | error e=>cases he;exact h er rfl
 | ok v =>
   unfold sureW at he
   simp only at he
   split at he
   · cases he;decide
   · split at he
     · cases he
     · cases he;decide
theorem nz_seq:∀ (l:List Wr),(∀ r ∈ l,NzW r)→∀ er,seqW l=.error er→er ≠ 0
 | [],_,er,h=>by cases h
 | .error e :: t,hl,er,h=>by cases h;exact hl _ List.mem_cons_self e rfl
 | .ok v :: t,hl,er,h=>by
   simp only [seqW] at h
   cases ht:seqW t with
   | error e=>rw [ht] at h;cases h;exact nz_seq t (fun r hr=>hl r (List.mem_cons_of_mem _ hr)) er ht
   | ok m=>rw [ht] at h;cases h
theorem nz_leaf {nd:Nd} {v:Vw} {r:Wr} (h:leafW nd v=some r):NzW r:=by
 unfold leafW at h
 repeat' split at h
 all_goals (try cases h)
 all_goals first | exact .ok _ | exact nz_short _ | exact nz_told _ | skip
 · exact .err (nz_told _ _ (by assumption))
theorem nz_nodeW {f:Int→Wr} (hf:∀ k,NzW (f k)) (nd:Nd) (v:Vw):NzW (nodeW f nd v):=by
 unfold nodeW
 split
 · rename_i r hl;exact nz_leaf hl
 · repeat' split
   all_goals first | exact .ok _ | exact .err (nz_sure (hf _) _ (by assumption)) | exact hf _ | exact .err (hf _ _ (by assumption)) | skip
   · unfold equalW;split <;> first | exact .ok _ | exact .err (by decide)
   · exact .err (nz_seq _ (fun r hr=>by obtain ⟨k,-,rfl⟩:=List.mem_map.1 hr;exact hf k) _ (by assumption))
   · exact nz_op _ _
theorem nz_wK (ns:List Nd) (v:Vw):∀ (d:Nat) (r:Int),NzW (wK ns v d r)
 | 0,r=>.err (by decide)
 | d+1,r=>by
   unfold wK
   split
   · exact .err (by decide)
   · exact nz_nodeW (nz_wK ns v d) _ _
theorem worth_nz {ns:List Nd} {r:Int} {v:Vw} {er:Int} (h:worthR ns r v=.error er):er ≠ 0:=by
 unfold worthR at h
 repeat' split at h
 · cases h;decide
 · exact nz_wK _ _ _ _ _ h
 · cases h;decide
def holdsB (r:Wr):Bool:=match r with
 | .ok x=>x.k == 2 && x.n == 1
 | .error _=>false
theorem worth_nil (w:World) (na:Option Addr) (nl nc:Nat) (root:Int) :
 Calls Tryz.prog 10 #[.slice na nl nc,.int .i64 root,.nilIface] w fun e w'=>e=.returned (.tuple #[VA v0 none 0 0,.int .i64 1])∧Below w.heap.size w w':=by
 obtain ⟨w2,hw2⟩:∃ w2,w2=(w.alloc boxZ).alloc boxE:=⟨_,rfl⟩
 have g0:w2.heap[w.heap.size]?=some boxZ:=by rw [hw2];exact heap_alloc2_old w _ _
 have g1:w2.heap[w.heap.size+1]?=some boxE:=by rw [hw2];exact heap_alloc2_new w _ _
 have hb2:Below w.heap.size w w2:=by rw [hw2];exact bel2 _ _ _
 have HB2:=Lib.hid hb2
 have G0:=Lib.hid g0
 have G1:=Lib.hid g1
 obtain ⟨c0,c1,c2,c3,f0,f1,f2,f3⟩:=box4 g0
 have d0:=cell_of_row w2 _ 0 _ _ _ g1
 have e0:=frozen_of_row w2 _ 0 _ _ g1
 simp only [List.getElem?_toArray,List.getElem?_cons_zero] at d0
 clear g0 g1 hb2
 go_enter_defers Tryz.func10,Tryz.ntmps10
 go_upto_region 1 with (fail)
 rw [← hw2]
 clear hw2
 go_wp2_with fail
 refine ⟨_,res23 _ _ w.heap.size (w.heap.size+1) _ _ _ _ _ (heap5 G0.out G1.out (by omega) _ _ _ _ _).1 (heap5 G0.out G1.out (by omega) _ _ _ _ _).2 rfl rfl,?_⟩
 exact ⟨rfl,below_box5 (by omega) (by omega) HB2.out _ _ _ _ _⟩
theorem holds_none (w:World) (na:Option Addr) (nl nc:Nat) (v:Value):Calls Tryz.prog 14 #[.slice na nl nc,.int .i64 (-1),v] w fun e w'=>e=.returned (.bool true)∧w'=w:=by
 go_enter Tryz.func14,Tryz.ntmps14
 go_wp2_with fail
 go_ret
 exact ⟨rfl,rfl⟩
theorem holds_any (w:World) (na:Option Addr) (nl nc:Nat) (ns:List Nd) (p:Pd) (hE:EnvW w na nl nc ns p) (hv:VwOk p.vw) (hn:∀ x ∈ ns,x.ks.length=x.kl∧I64 x.vn) (ht:ResTab w 1) (h2:1 < w.heap.size) (root:Int) (hroot:I64 root) (h1:root ≠ -1) (hsm:∀ (i:Nat) (nd:Nd),(i:Int)≤root→ns[i]?=some nd→nd.kl≤1000000) :
 Calls Tryz.prog 14 #[.slice na nl nc,.int .i64 root,.iface 72 (.agg p.cs)] w fun e w'=>e=.returned (.bool (holdsB (worthR ns root p.vw)))∧Below w.heap.size w w':=by
 have hr1:(root == -1)=false:=by simp [h1]
 have HC:=Lib.hid (worthf_any w na nl nc ns p hE hv hn ht h2 root hroot hsm)
 clear hE hv hn ht hroot
 go_enter Tryz.func14,Tryz.ntmps14
 go_wp2_with fail
 with_reducible refine HC.out.mono ?_
 rintro e w3 ⟨hm,hb3⟩
 have HB3:=Lib.hid hb3
 clear hb3 HC
 rcases hm.cases with ⟨x,ra,rl,rc,hr,rfl,hs⟩ | ⟨er,hr,rfl⟩
 · have HR:=Lib.hid (show holdsB (worthR ns root p.vw)=(x.k == 2 && x.n == 1) by rw [hr];rfl)
   clear hm hr hs
   cases h2':(x.k == 2)
   · have HK:=Lib.hid h2'
     go_wp2_with fail
     go_ret
     exact ⟨ret_bool (by rw [HR.out,HK.out];rfl),HB3.out.alloc (HB3.out.size) _⟩
   · have HK:=Lib.hid h2'
     go_wp2_with fail
     go_ret
     exact ⟨ret_bool (by rw [HR.out,HK.out];rfl),HB3.out.alloc (HB3.out.size) _⟩
 · have HE:=Lib.hid (show holdsB (worthR ns root p.vw)=false by rw [hr];rfl)
   have her:er ≠ 0:=worth_nz hr
   have hz:(er == 0)=false:=by simp [her]
   clear hm hr
   go_wp2_with fail
   go_ret
   exact ⟨ret_bool HE.out.symm,HB3.out.alloc (HB3.out.size) _⟩
def xS:ByteArray:={ data:=#[120] }
def eS:ByteArray:={ data:=#[] }
/-- The nodes of the small worths, their kids' lists from block g on. -/
def kn (g:Nat):List Nd :=
 [⟨5,xS,0,0,eS,none,0,0,none,0,0,[]⟩,⟨1,eS,1,1,eS,none,0,0,none,0,0,[]⟩,⟨1,eS,1,0,eS,none,0,0,none,0,0,[]⟩,
   ⟨21,eS,0,0,eS,none,0,0,some ⟨g,0,none⟩,2,2,[1,2]⟩,⟨18,eS,0,0,eS,none,0,0,some ⟨g+1,0,none⟩,2,2,[0,3]⟩,⟨2,eS,2,1,eS,none,0,0,none,0,0,[]⟩,
   ⟨1,eS,1,1,eS,none,0,0,none,0,0,[]⟩,⟨18,eS,0,0,eS,none,0,0,some ⟨g+2,0,none⟩,2,2,[5,6]⟩]
def kv:Vw:=⟨[],[],[],0,0⟩
theorem kv_ok:VwOk kv:=⟨fun p h=>(by cases h),⟨by decide,by decide⟩,⟨by decide,by decide⟩⟩
theorem kn_kids (g:Nat):∀ x ∈ kn g,x.ks.length=x.kl∧I64 x.vn:=by
 intro x hx
 simp only [kn,List.mem_cons,List.not_mem_nil,or_false] at hx
 rcases hx with rfl | rfl | rfl | rfl | rfl | rfl | rfl | rfl <;> exact ⟨rfl,by unfold I64;simp⟩
theorem kn_tree4 (g:Nat):treeR (kn g) 4=true:=by kernel_rfl
theorem kn_tree7 (g:Nat):treeR (kn g) 7=true:=by kernel_rfl
theorem kn_tree6 (g:Nat):treeR (kn g) 6=true:=by kernel_rfl
theorem kn_tree5 (g:Nat):treeR (kn g) 5=true:=by kernel_rfl
theorem right_v0:rightV v0=0:=by unfold rightV;simp [formedV,longB,v0,ByteArray.toList_eq]
theorem kn_w1 (g d:Nat):wK (kn g) kv (d+1) 1=.ok (intV 1):=by rw [wK_at (nd:=⟨1,eS,1,1,eS,none,0,0,none,0,0,[]⟩) rfl];rfl
theorem kn_w6 (g d:Nat):wK (kn g) kv (d+1) 6=.ok (intV 1):=by rw [wK_at (nd:=⟨1,eS,1,1,eS,none,0,0,none,0,0,[]⟩) rfl];rfl
theorem kn_w2 (g d:Nat):wK (kn g) kv (d+1) 2=.ok (intV 0):=by rw [wK_at (nd:=⟨1,eS,1,0,eS,none,0,0,none,0,0,[]⟩) rfl];rfl
theorem kn_w5 (g d:Nat):wK (kn g) kv (d+1) 5=.ok (truthV true):=by rw [wK_at (nd:=⟨2,eS,2,1,eS,none,0,0,none,0,0,[]⟩) rfl];rfl
theorem kn_w0 (g d:Nat):wK (kn g) kv (d+1) 0=.ok v0:=by
 rw [wK_at (nd:=⟨5,xS,0,0,eS,none,0,0,none,0,0,[]⟩) rfl]
 show toldW v0=_
 unfold toldW
 rw [if_pos right_v0]
def tellW (op:Int) (r:Except Int (List Vl)):Wr:=match r with
 | .error e=>.error e
 | .ok l=>opW op l
theorem kn_w3 (g d:Nat):wK (kn g) kv (d+2) 3=.error 112:=by
 rw [wK_at (nd:=⟨21,eS,0,0,eS,none,0,0,some ⟨g,0,none⟩,2,2,[1,2]⟩) rfl]
 show tellW 21 (seqW [wK (kn g) kv (d+1) 1,wK (kn g) kv (d+1) 2])=_
 rw [kn_w1,kn_w2]
 rfl
theorem kn_r4 (g:Nat):worthR (kn g) 4 kv=.error 112:=by
 unfold worthR
 rw [if_neg (by simp [kn]),show (4:Int).toNat=4 from rfl,kn_tree4,if_pos rfl]
 rw [wK_at (nd:=⟨18,eS,0,0,eS,none,0,0,some ⟨g+1,0,none⟩,2,2,[0,3]⟩) rfl]
 show tellW 18 (seqW [wK (kn g) kv 4 0,wK (kn g) kv 4 3])=_
 rw [kn_w0,kn_w3]
 rfl
theorem kn_r7 (g:Nat):worthR (kn g) 7 kv=.error 100:=by
 unfold worthR
 rw [if_neg (by simp [kn]),show (7:Int).toNat=7 from rfl,kn_tree7,if_pos rfl]
 rw [wK_at (nd:=⟨18,eS,0,0,eS,none,0,0,some ⟨g+2,0,none⟩,2,2,[5,6]⟩) rfl]
 show tellW 18 (seqW [wK (kn g) kv 7 5,wK (kn g) kv 7 6])=_
 rw [kn_w5,kn_w6]
 rfl
theorem kn_r6 (g:Nat):worthR (kn g) 6 kv=.ok (intV 1):=by
 unfold worthR
 rw [if_neg (by simp [kn]),show (6:Int).toNat=6 from rfl,kn_tree6,if_pos rfl,kn_w6]
theorem kn_r5 (g:Nat):worthR (kn g) 5 kv=.ok (truthV true):=by
 unfold worthR
 rw [if_neg (by simp [kn]),show (5:Int).toNat=5 from rfl,kn_tree5,if_pos rfl,kn_w5]
theorem kn_r8 (g:Nat):worthR (kn g) 8 kv=.error 1:=by
 unfold worthR
 rw [if_pos (by simp [kn])]
theorem right_4:rightV ⟨4,-1,eS,[]⟩=111:=by unfold rightV;simp [formedV,longB,timelyB,eS,ByteArray.toList_eq]
theorem eq_00:eqV v0 v0=true:=(eqV_iff _ _).2 rfl
/-- What stands where the small worths are asked. -/
structure KnE (w:World) (N g:Nat) (p:Pd):Prop where
 e:EnvW w (some ⟨N,0,none⟩) 8 8 (kn g) p
 v:p.vw=kv
 t:ResTab w 1
 h:1 < w.heap.size
theorem KnE.below {w w':World} {N g:Nat} {p:Pd} (h:KnE w N g p) (hb:Below w.heap.size w w'):KnE w' N g p:=⟨h.e.below hb,h.v,h.t.below hb h.h h.h,by have:=h.h;have:=hb.size;omega⟩
abbrev zV:Value:=.agg #[.int .i64 0,.int .i64 0,.string { data:=#[] },.slice none 0 0]
theorem kn_small (g:Nat) (root:Int):∀ (i:Nat) (nd:Nd),(i:Int)≤root→(kn g)[i]?=some nd→nd.kl≤1000000:=fun i nd _ h=>by
 have hm:=List.mem_of_getElem? h
 simp only [kn,List.mem_cons,List.not_mem_nil,or_false] at hm
 rcases hm with rfl | rfl | rfl | rfl | rfl | rfl | rfl | rfl <;> simp
theorem kn_err {w:World} {N g:Nat} {p:Pd} (h:KnE w N g p) (root er:Int) (hr:I64 root) (he:worthR (kn g) root kv=.error er) :
 Calls Tryz.prog 10 #[.slice (some ⟨N,0,none⟩) 8 8,.int .i64 root,.iface 72 (.agg p.cs)] w fun e w'=>e=.returned (.tuple #[zV,.int .i64 er])∧Below w.heap.size w w' :=
 (worthf_any w _ _ _ _ p h.e (by rw [h.v];exact kv_ok) (kn_kids g) h.t h.h root hr (kn_small g root)).mono fun e w' ⟨hm,hb⟩=>⟨by rw [h.v,he] at hm;exact hm,hb⟩
theorem kn_ok {w:World} {N g:Nat} {p:Pd} (h:KnE w N g p) (root:Int) (x:Vl) (hr:I64 root) (he:worthR (kn g) root kv=.ok x) :
 Calls Tryz.prog 10 #[.slice (some ⟨N,0,none⟩) 8 8,.int .i64 root,.iface 72 (.agg p.cs)] w fun e w'=>(∃ a l c,e=.returned (.tuple #[VA x a l c,.int .i64 0]))∧Below w.heap.size w w' :=
 (worthf_any w _ _ _ _ p h.e (by rw [h.v];exact kv_ok) (kn_kids g) h.t h.h root hr (kn_small g root)).mono fun e w' ⟨hm,hb⟩=>⟨by rw [h.v,he] at hm;obtain ⟨v,rfl,a,l,c,rfl,-⟩:=hm;exact ⟨a,l,c,rfl⟩,hb⟩
theorem kn_holds {w:World} {N g:Nat} {p:Pd} (h:KnE w N g p) (root:Int) (b:Bool) (hr:I64 root) (h1:root ≠ -1) (he:holdsB (worthR (kn g) root kv)=b) :
 Calls Tryz.prog 14 #[.slice (some ⟨N,0,none⟩) 8 8,.int .i64 root,.iface 72 (.agg p.cs)] w fun e w'=>e=.returned (.bool b)∧Below w.heap.size w w' :=
 (holds_any w _ _ _ _ p h.e (by rw [h.v];exact kv_ok) (kn_kids g) h.t h.h root hr h1 (kn_small g root)).mono fun e w' ⟨hm,hb⟩=>⟨by rw [h.v,he] at hm;exact hm,hb⟩
theorem kn_nodes {w:World} {g:Nat} (h3:w.heap[g]?=some (.cells #[.int .i64 1,.int .i64 2] 3 (0,0))) (h4:w.heap[g+1]?=some (.cells #[.int .i64 0,.int .i64 3] 3 (0,0))) (h5:w.heap[g+2]?=some (.cells #[.int .i64 5,.int .i64 6] 3 (0,0))):∀ nd ∈ kn g,NdW w nd:=by
 intro nd hnd
 have hz:∃ ss,RZ w none 0 0 ss:=⟨[],rs_nil1 w,fun _=>rfl⟩
 have hk:RS 1 Iv w none 0 0 []:=⟨rfl,Nat.le_refl _,by omega,fun i x h=>by simp at h⟩
 simp only [kn,List.mem_cons,List.not_mem_nil,or_false] at hnd
 rcases hnd with rfl | rfl | rfl | rfl | rfl | rfl | rfl | rfl
 · exact ⟨⟨hk,(show xS.size≤maxLen by unfold maxLen;decide),by simp⟩,hz⟩
 · exact ⟨⟨hk,(show eS.size≤maxLen by unfold maxLen;decide),by simp⟩,hz⟩
 · exact ⟨⟨hk,(show eS.size≤maxLen by unfold maxLen;decide),by simp⟩,hz⟩
 · exact ⟨⟨RS.of_row Iv Iv_len [1,2] h3 2 2 rfl (by omega) (by omega),(show eS.size≤maxLen by unfold maxLen;decide),by simp⟩,hz⟩
 · exact ⟨⟨RS.of_row Iv Iv_len [0,3] h4 2 2 rfl (by omega) (by omega),(show eS.size≤maxLen by unfold maxLen;decide),by simp⟩,hz⟩
 · exact ⟨⟨hk,(show eS.size≤maxLen by unfold maxLen;decide),by simp⟩,hz⟩
 · exact ⟨⟨hk,(show eS.size≤maxLen by unfold maxLen;decide),by simp⟩,hz⟩
 · exact ⟨⟨RS.of_row Iv Iv_len [5,6] h5 2 2 rfl (by omega) (by omega),(show eS.size≤maxLen by unfold maxLen;decide),by simp⟩,hz⟩
theorem nil_z (w:World) (na:Option Addr) (nl nc:Nat) (root:Int):Calls Tryz.prog 10 #[.slice na nl nc,.int .i64 root,.nilIface] w fun e w'=>e=.returned (.tuple #[zV,.int .i64 1])∧Below w.heap.size w w' :=
 (worth_nil w na nl nc root).mono fun e w' ⟨h,hb⟩=>⟨h,hb⟩
theorem kn_6 {w:World} {N g:Nat} {p:Pd} (h:KnE w N g p) :
 Calls Tryz.prog 10 #[.slice (some ⟨N,0,none⟩) 8 8,.int .i64 6,.iface 72 (.agg p.cs)] w fun e w'=>(∃ a l c,e=.returned (.tuple #[.agg #[.int .i64 1,.int .i64 1,.string { data:=#[] },.slice a l c],.int .i64 0]))∧Below w.heap.size w w' :=
 kn_ok h 6 (intV 1) ⟨by decide,by decide⟩ (kn_r6 g)
theorem right4_any (w:World):Calls Tryz.prog 15 #[.agg #[.int .i64 4,.int .i64 (-1),.string { data:=#[] },.slice none 0 0]] w fun e w'=>e=.returned (.int .i64 111)∧Below w.heap.size w w' :=
 (evright_any w ⟨4,-1,eS,[]⟩ none 0 0 (rs_nil1 w)).mono fun e w' ⟨h,hb⟩=>⟨by rw [right_4] at h;exact h,hb⟩
theorem right0_any (w:World):Calls Tryz.prog 15 #[zV] w fun e w'=>e=.returned (.int .i64 0)∧Below w.heap.size w w' :=
 (evright_any w v0 none 0 0 (rs_nil1 w)).mono fun e w' ⟨h,hb⟩=>⟨by rw [right_v0] at h;exact h,hb⟩
theorem equal00_any (w:World) (ad:Addr):Calls Tryz.prog 16 #[zV,.agg #[.int .i64 0,.int .i64 0,.string { data:=#[] },.slice (some ad) 0 0]] w fun e w'=>e=.returned (.bool true)∧Below w.heap.size w w' :=
 (equal_any w v0 none 0 0 (rs_nil1 w) v0 (some ad) 0 0 ⟨rfl,Nat.le_refl _,by omega,fun i x h=>by simp [v0] at h⟩).mono fun e w' ⟨h,hb⟩=>⟨by rw [eq_00] at h;exact h,hb⟩
theorem known_any (w:World) (ht:ResTab w 1) (h1:1 < w.heap.size):Calls Tryz.prog 6 #[] w fun e w'=>e=.returned (.bool true)∧Below w.heap.size w w':=by
 have HT:=Lib.hid ht
 have H1:=Lib.hid h1
 clear ht h1
 go_enter Tryz.func6,Tryz.ntmps6
 go_upto_region 5 with (fail)
 obtain ⟨w1,hw1⟩:∃ w1,w1=w.alloc (.cells #[.int .i64 5,.string { data:=#[120] },.int .i64 0,.int .i64 0,.string { data:=#[] },.slice none 0 0,.slice none 0 0] 56):=⟨_,rfl⟩
 rw [← hw1]
 have z1:w1.heap.size=w.heap.size+1:=by rw [hw1];simp
 have b1:Below w.heap.size w w1:=by rw [hw1];exact bel1 _ _
 obtain ⟨w2,hw2⟩:∃ w2,w2=w1.alloc (.cells #[.int .i64 1,.string { data:=#[] },.int .i64 1,.int .i64 1,.string { data:=#[] },.slice none 0 0,.slice none 0 0] 56):=⟨_,rfl⟩
 rw [← hw2]
 have z2:w2.heap.size=w.heap.size+2:=by rw [hw2];simp [z1]
 have b2:Below w1.heap.size w1 w2:=by rw [hw2];exact bel1 _ _
 obtain ⟨w3,hw3⟩:∃ w3,w3=w2.alloc (.cells #[.int .i64 1,.string { data:=#[] },.int .i64 1,.int .i64 0,.string { data:=#[] },.slice none 0 0,.slice none 0 0] 56):=⟨_,rfl⟩
 rw [← hw3]
 have z3:w3.heap.size=w.heap.size+3:=by rw [hw3];simp [z2]
 have b3:Below w2.heap.size w2 w3:=by rw [hw3];exact bel1 _ _
 obtain ⟨w4,hw4⟩:∃ w4,w4=w3.alloc (.cells #[.int .i64 1,.int .i64 2] 3):=⟨_,rfl⟩
 rw [← hw4]
 have z4:w4.heap.size=w.heap.size+4:=by rw [hw4];simp [z3]
 have b4:Below w3.heap.size w3 w4:=by rw [hw4];exact bel1 _ _
 have g4:w4.heap[w3.heap.size]?=some (.cells #[.int .i64 1,.int .i64 2] 3 (0,0)):=by rw [hw4];exact heap_alloc_new _ _
 obtain ⟨w5,hw5⟩:∃ w5,w5=w4.alloc (.cells #[.int .i64 0,.int .i64 3] 3):=⟨_,rfl⟩
 rw [← hw5]
 have z5:w5.heap.size=w.heap.size+5:=by rw [hw5];simp [z4]
 have b5:Below w4.heap.size w4 w5:=by rw [hw5];exact bel1 _ _
 have g5:w5.heap[w4.heap.size]?=some (.cells #[.int .i64 0,.int .i64 3] 3 (0,0)):=by rw [hw5];exact heap_alloc_new _ _
 obtain ⟨w6,hw6⟩:∃ w6,w6=w5.alloc (.cells #[.int .i64 5,.int .i64 6] 3):=⟨_,rfl⟩
 rw [← hw6]
 have z6:w6.heap.size=w.heap.size+6:=by rw [hw6];simp [z5]
 have b6:Below w5.heap.size w5 w6:=by rw [hw6];exact bel1 _ _
 have g6:w6.heap[w5.heap.size]?=some (.cells #[.int .i64 5,.int .i64 6] 3 (0,0)):=by rw [hw6];exact heap_alloc_new _ _
 obtain ⟨w7,hw7⟩:∃ w7,w7=w6.alloc (.cells #[.int .i64 5,.string { data:=#[120] },.int .i64 0,.int .i64 0,.string { data:=#[] },.slice none 0 0,.slice none 0 0,.int .i64 1,.string { data:=#[] },.int .i64 1,.int .i64 1,.string { data:=#[] },.slice none 0 0,.slice none 0 0,.int .i64 1,.string { data:=#[] },.int .i64 1,.int .i64 0,.string { data:=#[] },.slice none 0 0,.slice none 0 0,.int .i64 21,.string { data:=#[] },.int .i64 0,.int .i64 0,.string { data:=#[] },.slice none 0 0,.slice (some ⟨w.heap.size+1+1+1,0,none⟩) 2 2,.int .i64 18,.string { data:=#[] },.int .i64 0,.int .i64 0,.string { data:=#[] },.slice none 0 0,.slice (some ⟨w.heap.size+1+1+1+1,0,none⟩) 2 2,.int .i64 2,.string { data:=#[] },.int .i64 2,.int .i64 1,.string { data:=#[] },.slice none 0 0,.slice none 0 0,.int .i64 1,.string { data:=#[] },.int .i64 1,.int .i64 1,.string { data:=#[] },.slice none 0 0,.slice none 0 0,.int .i64 18,.string { data:=#[] },.int .i64 0,.int .i64 0,.string { data:=#[] },.slice none 0 0,.slice (some ⟨w.heap.size+1+1+1+1+1,0,none⟩) 2 2] 56):=⟨_,rfl⟩
 rw [← hw7]
 have z7:w7.heap.size=w.heap.size+7:=by rw [hw7];simp [z6]
 have b7:Below w6.heap.size w6 w7:=by rw [hw7];exact bel1 _ _
 have g7:w7.heap[w6.heap.size]?=some (.cells #[.int .i64 5,.string { data:=#[120] },.int .i64 0,.int .i64 0,.string { data:=#[] },.slice none 0 0,.slice none 0 0,.int .i64 1,.string { data:=#[] },.int .i64 1,.int .i64 1,.string { data:=#[] },.slice none 0 0,.slice none 0 0,.int .i64 1,.string { data:=#[] },.int .i64 1,.int .i64 0,.string { data:=#[] },.slice none 0 0,.slice none 0 0,.int .i64 21,.string { data:=#[] },.int .i64 0,.int .i64 0,.string { data:=#[] },.slice none 0 0,.slice (some ⟨w.heap.size+1+1+1,0,none⟩) 2 2,.int .i64 18,.string { data:=#[] },.int .i64 0,.int .i64 0,.string { data:=#[] },.slice none 0 0,.slice (some ⟨w.heap.size+1+1+1+1,0,none⟩) 2 2,.int .i64 2,.string { data:=#[] },.int .i64 2,.int .i64 1,.string { data:=#[] },.slice none 0 0,.slice none 0 0,.int .i64 1,.string { data:=#[] },.int .i64 1,.int .i64 1,.string { data:=#[] },.slice none 0 0,.slice none 0 0,.int .i64 18,.string { data:=#[] },.int .i64 0,.int .i64 0,.string { data:=#[] },.slice none 0 0,.slice (some ⟨w.heap.size+1+1+1+1+1,0,none⟩) 2 2] 56 (0,0)):=by rw [hw7];exact heap_alloc_new _ _
 have hb7:Below w.heap.size w w7:=b1.trans ((b2.trans ((b3.trans ((b4.trans ((b5.trans ((b6.trans (b7.mono (by omega))).mono (by omega))).mono (by omega))).mono (by omega))).mono (by omega))).mono (by omega))
 have k4:w7.heap[w.heap.size+3]?=some (.cells #[.int .i64 1,.int .i64 2] 3 (0,0)):=by
  rw [b7.block _ (by omega),b6.block _ (by omega),b5.block _ (by omega),← z3];exact g4
 have k5:w7.heap[w.heap.size+3+1]?=some (.cells #[.int .i64 0,.int .i64 3] 3 (0,0)):=by
  rw [b7.block _ (by omega),b6.block _ (by omega),show w.heap.size+3+1=w4.heap.size by omega];exact g5
 have k6:w7.heap[w.heap.size+3+2]?=some (.cells #[.int .i64 5,.int .i64 6] 3 (0,0)):=by
  rw [b7.block _ (by omega),show w.heap.size+3+2=w5.heap.size by omega];exact g6
 have k7:w7.heap[w.heap.size+6]?=some (.cells (((kn (w.heap.size+3)).flatMap Nd.cs).toArray) 56 (0,0)):=by
  rw [show w.heap.size+6=w6.heap.size by omega];exact g7
 have HR7:=Lib.hid (RS.of_row Nd.cs Nd_len2 (kn (w.heap.size+3)) k7 8 8 rfl (by omega) (by omega))
 have HN7:=Lib.hid (kn_nodes k4 k5 k6)
 have HB7:=Lib.hid hb7
 have HNB:=Lib.hid (show RS 5 Bc.cs w7 none 0 0 [] from ⟨rfl,Nat.le_refl _,by omega,fun i x h=>by simp at h⟩)
 have HNBS:=Lib.hid (show ∀ b ∈ ([]:List Bc),RZ w7 b.v.a b.v.l b.v.c b.v.x.ss∧I64 b.v.x.n∧b.v.l≤1000000 from fun b h=>by cases h)
 have HNZ:=Lib.hid (show RZ w7 none 0 0 [] from ⟨rs_nil1 w7,fun _=>rfl⟩)
 have hz7:w.heap.size≤w7.heap.size:=by omega
 clear z1 z2 z3 z4 z5 z6 z7 b1 b2 b3 b4 b5 b6 b7 g4 g5 g6 g7 k4 k5 k6 k7 hb7 hw1 hw2 hw3 hw4 hw5 hw6 hw7
 go_wp2_with fail
 with_reducible refine (plain_any w7 none 0 0 [] HNB.out (fun _=>rfl) HNBS.out none 0 0 [] HNZ.out none 0 0 [] HNZ.out (by omega) (by omega) (by omega) 0 0).mono ?_
 rintro e w8 ⟨⟨p,rfl,hp,hvw⟩,hb8⟩
 have HK8:=Lib.hid (show KnE w8 (w.heap.size+1+1+1+1+1+1) (w.heap.size+3) p from ⟨⟨HR7.out.below hb8,fun nd hm=>(HN7.out nd hm).below hb8,hp.ok⟩,hvw,(HT.out.below HB7.out H1.out H1.out).below hb8 (by have:=H1.out;omega) (by have:=H1.out;omega),by have:=H1.out;have:=hb8.size;omega⟩)
 have HB8:=Lib.hid (HB7.out.trans (hb8.mono hz7))
 clear hp hvw hb8 hz7 HR7 HN7 HB7
 go_wp2_with fail
 with_reducible refine (kn_err HK8.out 4 112 ⟨by decide,by decide⟩ (kn_r4 _)).mono ?_
 rintro e w9 ⟨rfl,hb9⟩
 have HK9:=Lib.hid (HK8.out.below hb9)
 have z8:=HB8.out.size
 have H89:=Lib.hid hb9
 have z89:w8.heap.size≤w9.heap.size:=hb9.size
 clear hb9 z8
 go_upto_region 7 with (fail)
 obtain ⟨wa,hwa⟩:∃ wa,wa=w9.alloc boxZ:=⟨_,rfl⟩
 have gwa:wa.heap[w9.heap.size]?=some boxZ:=by rw [hwa];exact heap_alloc_new w9 _
 have hba:Below w9.heap.size w9 wa:=by rw [hwa];exact bel1 _ _
 have zwa:w9.heap.size < wa.heap.size:=by rw [hwa];simp
 rw [← hwa]
 have Hwa:=Lib.hid (H89.out.trans (hba.mono z89))
 have Kwa:=Lib.hid (HK9.out.below hba)
 have z8wa:w8.heap.size≤wa.heap.size:=by omega
 clear hwa hba
 obtain ⟨c0,c1,c2,c3,f0,f1,f2,f3⟩:=box4 gwa
 go_wp2_with fail
 with_reducible refine (kn_err Kwa.out 7 100 ⟨by decide,by decide⟩ (kn_r7 _)).mono ?_
 rintro e wb ⟨rfl,hb⟩
 have gwb:=(hb.block w9.heap.size zwa).trans gwa
 have Hwb:=Lib.hid (Hwa.out.trans (hb.mono z8wa))
 have Kwb:=Lib.hid (Kwa.out.below hb)
 have zwb:w9.heap.size < wb.heap.size:=by have:=hb.size;omega
 have z8wb:w8.heap.size≤wb.heap.size:=by omega
 clear hb c0 c1 c2 c3 f0 f1 f2 f3
 obtain ⟨c0,c1,c2,c3,f0,f1,f2,f3⟩:=box4 gwb
 go_upto_region 10 with (fail)
 obtain ⟨wc,hwc⟩:∃ wc,wc=((((wb.setCell ⟨w9.heap.size,0,none⟩ (.int .i64 0)).setCell ⟨w9.heap.size,1,none⟩ (.int .i64 0)).setCell ⟨w9.heap.size,2,none⟩ (.string { data:=#[] })).setCell ⟨w9.heap.size,3,none⟩ (.slice none 0 0)):=⟨_,rfl⟩
 have gwc:=heap_box gwb (.int .i64 0) (.int .i64 0) (.string { data:=#[] }) (.slice none 0 0)
 have hbwc:=below_box z89 Hwb.out (.int .i64 0) (.int .i64 0) (.string { data:=#[] }) (.slice none 0 0)
 rw [← hwc] at gwc hbwc
 rw [← hwc]
 clear hwc c0 c1 c2 c3 f0 f1 f2 f3
 have Hwc:=Lib.hid hbwc
 have Kwc:=Lib.hid (HK8.out.below hbwc)
 have zwc:w9.heap.size < wc.heap.size:=(Array.getElem?_eq_some_iff.1 gwc).1
 have z8wc:w8.heap.size≤wc.heap.size:=by omega
 obtain ⟨c0,c1,c2,c3,f0,f1,f2,f3⟩:=box4 gwc
 clear hbwc
 go_wp2_with fail
 with_reducible refine (kn_6 Kwc.out).mono ?_
 rintro e wd ⟨⟨a6,l6,k6,rfl⟩,hb⟩
 have gwd:=(hb.block w9.heap.size zwc).trans gwc
 have Hwd:=Lib.hid (Hwc.out.trans (hb.mono z8wc))
 have Kwd:=Lib.hid (Kwc.out.below hb)
 have zwd:w9.heap.size < wd.heap.size:=by have:=hb.size;omega
 have z8wd:w8.heap.size≤wd.heap.size:=by omega
 clear hb c0 c1 c2 c3 f0 f1 f2 f3
 obtain ⟨c0,c1,c2,c3,f0,f1,f2,f3⟩:=box4 gwd
 go_upto_region 13 with (fail)
 obtain ⟨we,hwe⟩:∃ we,we=((((wd.setCell ⟨w9.heap.size,0,none⟩ (.int .i64 1)).setCell ⟨w9.heap.size,1,none⟩ (.int .i64 1)).setCell ⟨w9.heap.size,2,none⟩ (.string { data:=#[] })).setCell ⟨w9.heap.size,3,none⟩ (.slice a6 l6 k6)):=⟨_,rfl⟩
 have gwe:=heap_box gwd (.int .i64 1) (.int .i64 1) (.string { data:=#[] }) (.slice a6 l6 k6)
 have hbwe:=below_box z89 Hwd.out (.int .i64 1) (.int .i64 1) (.string { data:=#[] }) (.slice a6 l6 k6)
 rw [← hwe] at gwe hbwe
 rw [← hwe]
 clear hwe c0 c1 c2 c3 f0 f1 f2 f3
 have Hwe:=Lib.hid hbwe
 have Kwe:=Lib.hid (HK8.out.below hbwe)
 have zwe:w9.heap.size < we.heap.size:=(Array.getElem?_eq_some_iff.1 gwe).1
 have z8we:w8.heap.size≤we.heap.size:=by omega
 obtain ⟨c0,c1,c2,c3,f0,f1,f2,f3⟩:=box4 gwe
 clear hbwe
 go_wp2_with fail
 with_reducible refine (holds_none _ _ _ _ _).mono ?_
 rintro e w' ⟨rfl,rfl⟩
 go_wp2_with fail
 with_reducible refine (kn_holds Kwe.out 6 false ⟨by decide,by decide⟩ (by decide) (by rw [kn_r6];simp [holdsB,intV])).mono ?_
 rintro e wf ⟨rfl,hb⟩
 have gwf:=(hb.block w9.heap.size zwe).trans gwe
 have Hwf:=Lib.hid (Hwe.out.trans (hb.mono z8we))
 have Kwf:=Lib.hid (Kwe.out.below hb)
 have zwf:w9.heap.size < wf.heap.size:=by have:=hb.size;omega
 have z8wf:w8.heap.size≤wf.heap.size:=by omega
 clear hb c0 c1 c2 c3 f0 f1 f2 f3
 obtain ⟨c0,c1,c2,c3,f0,f1,f2,f3⟩:=box4 gwf
 go_wp2_with fail
 with_reducible refine (kn_holds Kwf.out 5 true ⟨by decide,by decide⟩ (by decide) (by rw [kn_r5];simp [holdsB,truthV])).mono ?_
 rintro e wg ⟨rfl,hb⟩
 have gwg:=(hb.block w9.heap.size zwf).trans gwf
 have Hwg:=Lib.hid (Hwf.out.trans (hb.mono z8wf))
 have Kwg:=Lib.hid (Kwf.out.below hb)
 have zwg:w9.heap.size < wg.heap.size:=by have:=hb.size;omega
 have z8wg:w8.heap.size≤wg.heap.size:=by omega
 clear hb c0 c1 c2 c3 f0 f1 f2 f3
 obtain ⟨c0,c1,c2,c3,f0,f1,f2,f3⟩:=box4 gwg
 go_wp2_with fail
 with_reducible refine (kn_err Kwg.out 8 1 ⟨by decide,by decide⟩ (kn_r8 _)).mono ?_
 rintro e wh ⟨rfl,hb⟩
 have gwh:=(hb.block w9.heap.size zwg).trans gwg
 have Hwh:=Lib.hid (Hwg.out.trans (hb.mono z8wg))
 have Kwh:=Lib.hid (Kwg.out.below hb)
 have zwh:w9.heap.size < wh.heap.size:=by have:=hb.size;omega
 have z8wh:w8.heap.size≤wh.heap.size:=by omega
 clear hb c0 c1 c2 c3 f0 f1 f2 f3
 obtain ⟨c0,c1,c2,c3,f0,f1,f2,f3⟩:=box4 gwh
 go_upto_region 16 with (fail)
 obtain ⟨wi,hwi⟩:∃ wi,wi=((((wh.setCell ⟨w9.heap.size,0,none⟩ (.int .i64 0)).setCell ⟨w9.heap.size,1,none⟩ (.int .i64 0)).setCell ⟨w9.heap.size,2,none⟩ (.string { data:=#[] })).setCell ⟨w9.heap.size,3,none⟩ (.slice none 0 0)):=⟨_,rfl⟩
 have gwi:=heap_box gwh (.int .i64 0) (.int .i64 0) (.string { data:=#[] }) (.slice none 0 0)
 have hbwi:=below_box z89 Hwh.out (.int .i64 0) (.int .i64 0) (.string { data:=#[] }) (.slice none 0 0)
 rw [← hwi] at gwi hbwi
 rw [← hwi]
 clear hwi c0 c1 c2 c3 f0 f1 f2 f3
 have Hwi:=Lib.hid hbwi
 have Kwi:=Lib.hid (HK8.out.below hbwi)
 have zwi:w9.heap.size < wi.heap.size:=(Array.getElem?_eq_some_iff.1 gwi).1
 have z8wi:w8.heap.size≤wi.heap.size:=by omega
 obtain ⟨c0,c1,c2,c3,f0,f1,f2,f3⟩:=box4 gwi
 clear hbwi
 go_wp2_with fail
 with_reducible refine (nil_z _ _ _ _ _).mono ?_
 rintro e wj ⟨rfl,hb⟩
 have gwj:=(hb.block w9.heap.size zwi).trans gwi
 have Hwj:=Lib.hid (Hwi.out.trans (hb.mono z8wi))
 have Kwj:=Lib.hid (Kwi.out.below hb)
 have zwj:w9.heap.size < wj.heap.size:=by have:=hb.size;omega
 have z8wj:w8.heap.size≤wj.heap.size:=by omega
 clear hb c0 c1 c2 c3 f0 f1 f2 f3
 obtain ⟨c0,c1,c2,c3,f0,f1,f2,f3⟩:=box4 gwj
 go_upto_region 17 with (fail)
 obtain ⟨wk,hwk⟩:∃ wk,wk=wj.alloc boxZ:=⟨_,rfl⟩
 have hbk:Below wj.heap.size wj wk:=by rw [hwk];exact bel1 _ _
 rw [← hwk]
 have gwk:=(hbk.block w9.heap.size zwj).trans gwj
 have Hwk:=Lib.hid (Hwj.out.trans (hbk.mono z8wj))
 have Kwk:=Lib.hid (Kwj.out.below hbk)
 have zwk:w9.heap.size < wk.heap.size:=by have:=hbk.size;omega
 have z8wk:w8.heap.size≤wk.heap.size:=by omega
 clear hwk hbk c0 c1 c2 c3 f0 f1 f2 f3
 obtain ⟨c0,c1,c2,c3,f0,f1,f2,f3⟩:=box4 gwk
 go_wp2_with fail
 with_reducible refine (right4_any _).mono ?_
 rintro e wl ⟨rfl,hb⟩
 have gwl:=(hb.block w9.heap.size zwk).trans gwk
 have Hwl:=Lib.hid (Hwk.out.trans (hb.mono z8wk))
 have Kwl:=Lib.hid (Kwk.out.below hb)
 have zwl:w9.heap.size < wl.heap.size:=by have:=hb.size;omega
 have z8wl:w8.heap.size≤wl.heap.size:=by omega
 clear hb c0 c1 c2 c3 f0 f1 f2 f3
 obtain ⟨c0,c1,c2,c3,f0,f1,f2,f3⟩:=box4 gwl
 go_wp2_with fail
 with_reducible refine (right0_any _).mono ?_
 rintro e wm ⟨rfl,hb⟩
 have gwm:=(hb.block w9.heap.size zwl).trans gwl
 have Hwm:=Lib.hid (Hwl.out.trans (hb.mono z8wl))
 have Kwm:=Lib.hid (Kwl.out.below hb)
 have zwm:w9.heap.size < wm.heap.size:=by have:=hb.size;omega
 have z8wm:w8.heap.size≤wm.heap.size:=by omega
 clear hb c0 c1 c2 c3 f0 f1 f2 f3
 obtain ⟨c0,c1,c2,c3,f0,f1,f2,f3⟩:=box4 gwm
 go_wp2_with fail
 with_reducible refine (equal00_any _ _).mono ?_
 rintro e wn ⟨rfl,hb⟩
 go_wp2_with fail
 go_ret
 exact ⟨rfl,HB8.out.trans ((Hwm.out.alloc z8wm _).trans (hb.mono (by simp;omega)) |>.mono HB8.out.size)⟩
end Go.Proofs.YtcnckjlmldnblaaGreatDoor
