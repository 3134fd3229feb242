import Derived.Test.YtcnckjlmldnblaaGreatDoorR10
import Derived.BigGuardPart
import Derived.IntWalk
import Derived.Handy
import Derived.OrdersHeld
import Derived.Deep.RegionHeld3
import Derived.WalkLawsBesides
namespace Go.Proofs.YtcnckjlmldnblaaGreatDoor
open Go Go.RowKit
set_option maxRecDepth 100000
set_option maxHeartbeats 16000000
set_option linter.unusedVariables false
set_option linter.unusedSimpArgs false
open List renaming setIfInBounds_toArray → pa, set_cons_zero → pb, set_cons_succ → pc, getElem_toArray → pd, getElem_cons_succ → pe, getElem_cons_zero → pf
/-- A code without so many first statements. -/
def dropSeq:Nat→Code→Code
 | 0,c=>c
 | n+1,.seq _ c=>dropSeq n c
 | _,c=>c
def headSeq:Code→Code
 | .seq c _=>c
 | c=>c
noncomputable def op5a:Code:=headSeq (headSeq (dropSeq 5 (Tryz.f63.body.getD .skip)))
noncomputable def op5b:Code:=dropSeq 1 (headSeq (dropSeq 5 (Tryz.f63.body.getD .skip)))
noncomputable def op5c:Code:=dropSeq 6 (Tryz.f63.body.getD .skip)
noncomputable def op6a:Code:=headSeq (headSeq (dropSeq 6 (Tryz.f63.body.getD .skip)))
noncomputable def op6b:Code:=dropSeq 1 (headSeq (dropSeq 6 (Tryz.f63.body.getD .skip)))
noncomputable def op6c:Code:=dropSeq 7 (Tryz.f63.body.getD .skip)
/-- An operator that wants all of its kids, = and unlike among them. -/
def opE (op:Int) (l:List Vl):Wr:=if op=11∨op=12 then (match l with | [a,b]=>equalW op a b | _=>.error 1) else opW op l
def OtherE (op:Int):Prop:=op ≠ 1∧op ≠ 2∧op ≠ 4∧op ≠ 3∧op ≠ 5∧op ≠ 24∧op ≠ 25∧op ≠ 26∧op ≠ 30∧op ≠ 29∧op ≠ 9∧op ≠ 10∧op ≠ 23∧op ≠ 33
theorem otherE_kids {nd:Nd} (hr:nd.right=true) (h:OtherE nd.op):nd.op=6∨((nd.op=7∨nd.op=8∨nd.op=27)∧nd.kl=1)∨((nd.op=11∨nd.op=12∨Two2 nd.op)∧nd.kl=2):=by
 obtain ⟨h1,h2,-,-⟩:=right_cases hr
 unfold OtherE at h
 unfold kidsN at h1 h2
 by_cases h6:nd.op=6
 · exact .inl h6
 · right
   by_cases a:nd.op < 1∨34≤nd.op
   · rw [if_pos a] at h2;exact absurd rfl h2
   · rw [if_neg a,if_neg h6,if_neg (by omega)] at h1 h2
     by_cases b:nd.op=7∨nd.op=8∨nd.op=27
     · rw [if_pos b] at h1;left;exact ⟨b,by omega⟩
     · rw [if_neg b] at h1
       rw [if_neg (by omega)] at h1
       right;exact ⟨by unfold Two2;omega,by omega⟩
theorem node_E {f:Int→Wr} {nd:Nd} {v:Vw} (h:OtherE nd.op) (h2:(nd.op=11∨nd.op=12)→nd.ks.length=2):nodeW f nd v=(match seqW (nd.ks.map f) with | .error e=>.error e | .ok l=>opE nd.op l):=by
 have hl:leafW nd v=none:=by
  unfold OtherE at h
  unfold leafW
  simp [h]
 unfold OtherE at h
 unfold nodeW opE
 rw [hl]
 simp only [h,if_false]
 by_cases he:nd.op=11∨nd.op=12
 · have hk:=h2 he
   match hks:nd.ks,hk with
   | [a,b],_ =>
     simp only [he,if_true,wkid,hks,List.map_cons,List.map_nil]
     show (match f a with | .error e=>Except.error e | .ok x=>match f b with | .error e=>Except.error e | .ok y=>equalW nd.op x y)=_
     cases ha:f a with
     | error e=>simp [seqW]
     | ok x =>
       cases hb:f b with
       | error e=>simp [seqW]
       | ok y=>simp [seqW]
 · simp only [he,if_false]
   cases seqW (nd.ks.map f) <;> rfl
/-- Where all kids have been worked out. -/
structure OpSt (w W:World) (B:Nat) (nd:Nd) (n:Nat) (la ba:Option Addr) (lc bc:Nat) (vs:List Vc):Prop where
 b:Below w.heap.size w W
 g0:W.heap[w.heap.size]?=some (.cells nd.v 56)
 g2:W.heap[w.heap.size+2]?=some boxZ
 l:W.ownsRow B 43 4 (.slice la n lc) n (vs.flatMap Vc.cs)
 s:RS 1 Iv W ba n bc (vs.map fun v=>v.x.k)
 v:∀ v ∈ vs,RZ W v.a v.l v.c v.x.ss
 f:∀ v ∈ vs,Fit v.x
theorem own_some {W:World} {B e s n:Nat} {a:Option Addr} {c:Nat} {xs:List Value} (h:W.ownsRow B e s (.slice a n c) n xs) (hn:0 < n):∃ g,a=some ⟨g,0,none⟩:=by
 rcases h.2 with ⟨hv,h0⟩ | ⟨g,cap,cur,hv,-⟩
 · obtain ⟨-,hn0,-⟩:=Value.slice.inj hv
   omega
 · obtain ⟨rfl,-,-⟩:=Value.slice.inj hv
   exact ⟨g,rfl⟩
theorem row_no {op:Int} (hop:Two2 op) {x y:Vl} (hx:(x.k == 0)=false) (hy:(y.k == 0)=false) (h:rowB op [x.k,y.k]=false):doubleW op x y=.error 100:=by
 have hb:¬ 0 < binK op x.k y.k:=by
  have h':=h
  unfold Two2 at hop
  unfold rowB at h'
  rw [if_neg (by omega),if_neg (by omega),if_neg (by omega),if_neg (by omega)] at h'
  simpa using h'
 clear h
 rcases hop with rfl | rfl | rfl | rfl | rfl | rfl | rfl | rfl | rfl | rfl | rfl | rfl | rfl
 all_goals
  unfold doubleW
  repeat' split
 all_goals first
  | rfl
  | (exfalso;unfold binK at hb;simp at hb;omega)
  | (simp [numbersW,orderedI,orderedW,asTime,setsW,orderedS,quotW];done)
  | (exfalso;omega)
theorem one_no7 {x:Vl} (h:rowB 7 [x.k]=false):singleW 7 x=.error 100:=by
 have h1:¬ x.k=1:=by simpa [rowB] using h
 simp [singleW,h1]
theorem one_no8 {x:Vl} (h:rowB 8 [x.k]=false):singleW 8 x=.error 100:=by
 have h1:¬ x.k=2:=by simpa [rowB] using h
 simp [singleW,h1]
theorem one_no27 {x:Vl} (h:rowB 27 [x.k]=false):singleW 27 x=.error 100:=by
 have h1:¬ x.k=3∧¬ x.k=5:=by simpa [rowB] using h
 simp [singleW,h1.1,h1.2]
theorem one_room {w:World} {x:Vl} {a:Option Addr} {l c:Nat} (h:TwoArg w x a l c):x.t.size+l≤281474976710656:=by
 have h1:=(right_parts h.f.r).2.2
 have h2:=h.r.1
 omega
theorem num_to {e:Ending} {r:Wr} (h:NumRet e r) (hs:∀ z,r=.ok z→z.ss=[]) (he:∀ er,r=.error er→er ≠ 0):∃ z er,e=.returned (.tuple #[VA z none 0 0,.int .i64 er])∧z.ss=[]∧RWu r z er:=by
 cases r with
 | ok z=>exact ⟨z,0,h,hs z rfl,.inl ⟨rfl,rfl⟩⟩
 | error er=>exact ⟨v0,er,h,rfl,.inr ⟨rfl,he er rfl⟩⟩
theorem numW_ss {n:Int} {z:Vl} (h:numW n=.ok z):z.ss=[]:=by
 unfold numW at h
 split at h
 · cases h;rfl
 · cases h
theorem numW_er {n er:Int} (h:numW n=.error er):er ≠ 0:=by
 unfold numW at h
 split at h
 · cases h
 · cases h;decide
theorem num_to7 {e:Ending} {x:Vl} (h:NumRet e (aloneW 7 x)):∃ z er,e=.returned (.tuple #[VA z none 0 0,.int .i64 er])∧z.ss=[]∧RWu (aloneW 7 x) z er :=
 num_to h (fun z hz=>numW_ss (n:=0 - x.n) (by simpa [aloneW] using hz)) (fun er hz=>numW_er (n:=0 - x.n) (by simpa [aloneW] using hz))
theorem num_to8 {e:Ending} {x:Vl} (h:NumRet e (aloneW 8 x)):∃ z er,e=.returned (.tuple #[VA z none 0 0,.int .i64 er])∧z.ss=[]∧RWu (aloneW 8 x) z er :=
 num_to h (fun z hz=>by simp [aloneW] at hz;subst hz;rfl) (fun er hz=>by simp [aloneW] at hz)
theorem num_to27 {e:Ending} {x:Vl} (h:NumRet e (aloneW 27 x)):∃ z er,e=.returned (.tuple #[VA z none 0 0,.int .i64 er])∧z.ss=[]∧RWu (aloneW 27 x) z er :=
 num_to h (fun z hz=>by simp [aloneW] at hz;subst hz;rfl) (fun er hz=>by simp [aloneW] at hz)
theorem alone_is7 {x:Vl} (hf:Fit x) (h:rowB 7 [x.k]=true):aloneW 7 x=singleW 7 x:=by
 have h1:x.k=1:=by simpa [rowB] using h
 simp [aloneW,singleW,h1]
theorem alone_is8 {x:Vl} (hf:Fit x) (h:rowB 8 [x.k]=true):aloneW 8 x=singleW 8 x:=by
 have h1:x.k=2:=by simpa [rowB] using h
 simp [aloneW,singleW,h1]
theorem alone_is27 {x:Vl} (hf:Fit x) (h:rowB 27 [x.k]=true):aloneW 27 x=singleW 27 x:=by
 have h1:x.k=3∨x.k=5:=by simpa [rowB] using h
 rcases h1 with h1 | h1
 · have hs:=(shape3 hf h1).1
   rw [hs]
   simp [aloneW,singleW]
 · have hs:=(shape5 hf h1).1
   rw [hs]
   simp [aloneW,singleW,ByteArray.size]
theorem one_no {op:Int} (hop:op=7∨op=8∨op=27) {x:Vl} (h:rowB op [x.k]=false):singleW op x=.error 100:=by
 rcases hop with rfl | rfl | rfl
 · exact one_no7 h
 · exact one_no8 h
 · exact one_no27 h
theorem num_toA {op:Int} (hop:op=7∨op=8∨op=27) {e:Ending} {x:Vl} (h:NumRet e (aloneW op x)):∃ z er,e=.returned (.tuple #[VA z none 0 0,.int .i64 er])∧z.ss=[]∧RWu (aloneW op x) z er:=by
 rcases hop with rfl | rfl | rfl
 · exact num_to7 h
 · exact num_to8 h
 · exact num_to27 h
theorem alone_isA {op:Int} (hop:op=7∨op=8∨op=27) {x:Vl} (hf:Fit x) (h:rowB op [x.k]=true):aloneW op x=singleW op x:=by
 rcases hop with rfl | rfl | rfl
 · exact alone_is7 hf h
 · exact alone_is8 hf h
 · exact alone_is27 hf h
theorem alone_any (op:Int) (hop:op=7∨op=8∨op=27) (w:World) (x:Vl) (a:Option Addr) (l c:Nat) (hx:RS 1 Sv w a l c x.ss) (hn:I64 x.n) (hts:x.t.size+l≤281474976710656) :
 Calls Tryz.prog 75 #[.int .i64 op,VA x a l c] w fun e w'=>NumRet e (aloneW op x)∧Below w.heap.size w w':=by
 rcases hop with rfl | rfl | rfl
 · exact alone7_any w x a l c hx hn hts
 · exact alone8_any w x a l c hx hn hts
 · exact alone27_any w x a l c hx hn hts
theorem set_no {vs:List Vc} (h:rowB 6 (vs.map fun v=>v.x.k)=false):gatheredW (vs.map Vc.x)=.error 100:=by
 have h1:((vs.map fun v=>v.x.k).all (· == 3))=false:=by simpa [rowB] using h
 unfold gatheredW
 refine if_pos ?_
 rw [List.all_eq_false] at h1
 obtain ⟨k,hk,hk3⟩:=h1
 obtain ⟨v,hv,rfl⟩:=List.mem_map.1 hk
 exact List.any_eq_true.2 ⟨v.x,List.mem_map.2 ⟨v,hv,rfl⟩,by simp at hk3;simp [hk3]⟩
theorem set_yes {vs:List Vc} (h:rowB 6 (vs.map fun v=>v.x.k)=true):gatheredW (vs.map Vc.x)=membersW (vs.map fun v=>v.x.t):=by
 have h1:((vs.map fun v=>v.x.k).all (· == 3))=true:=by simpa [rowB] using h
 rw [List.all_eq_true] at h1
 unfold gatheredW
 rw [if_neg,List.map_map]
 · rfl
 · rw [Bool.not_eq_true,List.any_eq_false]
   intro x hx
   obtain ⟨v,hv,rfl⟩:=List.mem_map.1 hx
   have:=h1 v.x.k (List.mem_map.2 ⟨v,hv,rfl⟩)
   simp at this
   simp [this]
theorem set_rightE {l:List ByteArray} (hl:∀ m ∈ l,m.size≤1024):rightV ⟨5,0,ByteArray.empty,setOf l⟩=if 64 < (setOf l).length then 114 else 0:=by
 have h1:upB (setOf l)=true:=(upB_iff _).2 (setOf_rise l)
 have h2:((setOf l).any fun m=>decide (1024 < m.size))=false:=by
  rw [List.any_eq_false]
  intro m hm
  have:=hl m ((setOf_mem l m).1 hm)
  simp
  omega
 unfold rightV
 simp [formedV,longB,h1,h2]
theorem op_none (w0 w W:World) (B:Nat) (nd:Nd) (la ba:Option Addr) (lc bc:Nat) (n:Nat) (vs:List Vc) (hs:OpSt w W B nd n la ba lc bc vs) (hw0:w0.heap.size≤w.heap.size) (hBw:w.heap.size+3≤B) (ho:¬ (nd.op=11∨nd.op=12)) (h0:(vs.any fun v=>v.x.k == 0)=true) (R:Wr) (hR:R=opE nd.op (vs.map Vc.x)) (u0 u1 u2 u3 u5 u11 u12 u13 u14 u15 u16 u17 u18 u19 u20 u21 u22 u23 u24 u25 u26 u27 u28 u29 u30 u31 u32 u33 u34 u35 u36 u37 u38 u39 u40 u41 u42 u43 u44 u45 u46 u47 u48 u49 u50 u51 u52 u53 u54 u55 u56 u57 u58 u59 u60 u61 u62 u63 u64 u65 u66 u67 u68 u69 u70 u71 u72 u73 u74 u75 u76 u77 u78 u79 u80 u81 u82 u83 u84 u85 u86 u87 u88 u89 u90 u91 u92 u93 u94 u95 u96 u97 u98 u99 u100 u101 u102 u103 u104 u105 u106 u107 u108 u109 u110 u111 u112 u113 u114 u115 u116 u117 u118 u119 u120 u121 u122 u123 u124 u125 u126 u127 u128 u129 u130 u131 u132 u133 u134 u135 u136 u137:Value) (KK K2:Act→World→Prop) (hKK:∀ a' w',Code.wp Tryz.prog op6b (Exit.then K2 (bodyPost Tryz.prog Tryz.f63 fun e w'=>TogOut w0 w e w' R∧Below w.heap.size w w')) a' w'→KK a' w') (hK2:∀ a' w',Code.wp Tryz.prog op6c (bodyPost Tryz.prog Tryz.f63 fun e w'=>TogOut w0 w e w' R∧Below w.heap.size w w') a' w'→K2 a' w') :
 Code.wp Tryz.prog op6a (Exit.then KK (Exit.then K2 (bodyPost Tryz.prog Tryz.f63 fun e w'=>TogOut w0 w e w' R∧Below w.heap.size w w'))) ⟨#[u0,u1,u2,u3,.pointer (some ⟨w.heap.size,0,none⟩),u5,.pointer (some ⟨w.heap.size+2,0,none⟩),.int .i64 0,.slice la n lc,.bool true,.slice ba n bc,u11,u12,u13,u14,u15,u16,u17,u18,u19,u20,u21,u22,u23,u24,u25,u26,u27,u28,u29,u30,u31,u32,u33,u34,u35,u36,u37,u38,u39,u40,u41,u42,u43,u44,u45,u46,u47,u48,u49,u50,u51,u52,u53,u54,u55,u56,u57,u58,u59,u60,u61,u62,u63,u64,u65,u66,u67,u68,u69,u70,u71,u72,u73,u74,u75,u76,u77,u78,u79,u80,u81,u82,u83,u84,u85,u86,u87,u88,u89,u90,u91,u92,u93,u94,u95,u96,u97,u98,u99,u100,u101,u102,u103,u104,u105,u106,u107,u108,u109,u110,u111,u112,u113,u114,u115,u116,u117,u118,u119,u120,u121,u122,u123,u124,u125,u126,u127,u128,u129,u130,u131,u132,u133,u134,u135,u136,u137],[]⟩ W:=by
 subst hR
 have HS:=Lib.hid hs
 have G2:=Lib.hid hs.g2
 have HB4:=Lib.hid hs.b
 have HRW:=Lib.hid (show opE nd.op (vs.map Vc.x)=.error 110 by
  unfold opE opW
  rw [if_neg ho,List.any_map]
  exact if_pos h0)
 obtain ⟨d0,d1,d2,d3,f0,f1,f2,f3⟩:=box4 hs.g2
 clear hs ho h0
 conv=>arg 2;whnf
 go_wp2_with fail
 conv=>arg 2;whnf
 go_wp2_with fail
 refine bodyPost_ret (res2c Tryz.results63 _ _ (w.heap.size+2) _ _ _ _ _ (heap_box G2.out _ _ _ _) rfl rfl) rfl ?_
 exact ⟨.err (z:=v0) (er:=110) rfl ⟨none,0,0,rfl,.inl (rz_nil1 w0)⟩ HRW.out (by decide),below_box (by omega) HB4.out _ _ _ _⟩
theorem op_two (w0 w W:World) (B:Nat) (nd:Nd) (la ba:Option Addr) (lc bc:Nat) (v u:Vc) (hs:OpSt w W B nd 2 la ba lc bc [v,u]) (hw0:w0.heap.size≤w.heap.size) (hBw:w.heap.size+3≤B) (hop:Two2 nd.op) (h0:(v.x.k == 0)=false∧(u.x.k == 0)=false) (R:Wr) (hR:R=opE nd.op ([v,u].map Vc.x)) (u0 u1 u2 u3 u5 u11 u12 u13 u14 u15 u16 u17 u18 u19 u20 u21 u22 u23 u24 u25 u26 u27 u28 u29 u30 u31 u32 u33 u34 u35 u36 u37 u38 u39 u40 u41 u42 u43 u44 u45 u46 u47 u48 u49 u50 u51 u52 u53 u54 u55 u56 u57 u58 u59 u60 u61 u62 u63 u64 u65 u66 u67 u68 u69 u70 u71 u72 u73 u74 u75 u76 u77 u78 u79 u80 u81 u82 u83 u84 u85 u86 u87 u88 u89 u90 u91 u92 u93 u94 u95 u96 u97 u98 u99 u100 u101 u102 u103 u104 u105 u106 u107 u108 u109 u110 u111 u112 u113 u114 u115 u116 u117 u118 u119 u120 u121 u122 u123 u124 u125 u126 u127 u128 u129 u130 u131 u132 u133 u134 u135 u136 u137:Value) (KK K2:Act→World→Prop) (hKK:∀ a' w',Code.wp Tryz.prog op6b (Exit.then K2 (bodyPost Tryz.prog Tryz.f63 fun e w'=>TogOut w0 w e w' R∧Below w.heap.size w w')) a' w'→KK a' w') (hK2:∀ a' w',Code.wp Tryz.prog op6c (bodyPost Tryz.prog Tryz.f63 fun e w'=>TogOut w0 w e w' R∧Below w.heap.size w w') a' w'→K2 a' w') :
 Code.wp Tryz.prog op6a (Exit.then KK (Exit.then K2 (bodyPost Tryz.prog Tryz.f63 fun e w'=>TogOut w0 w e w' R∧Below w.heap.size w w'))) ⟨#[u0,u1,u2,u3,.pointer (some ⟨w.heap.size,0,none⟩),u5,.pointer (some ⟨w.heap.size+2,0,none⟩),.int .i64 0,.slice la 2 lc,.bool false,.slice ba 2 bc,u11,u12,u13,u14,u15,u16,u17,u18,u19,u20,u21,u22,u23,u24,u25,u26,u27,u28,u29,u30,u31,u32,u33,u34,u35,u36,u37,u38,u39,u40,u41,u42,u43,u44,u45,u46,u47,u48,u49,u50,u51,u52,u53,u54,u55,u56,u57,u58,u59,u60,u61,u62,u63,u64,u65,u66,u67,u68,u69,u70,u71,u72,u73,u74,u75,u76,u77,u78,u79,u80,u81,u82,u83,u84,u85,u86,u87,u88,u89,u90,u91,u92,u93,u94,u95,u96,u97,u98,u99,u100,u101,u102,u103,u104,u105,u106,u107,u108,u109,u110,u111,u112,u113,u114,u115,u116,u117,u118,u119,u120,u121,u122,u123,u124,u125,u126,u127,u128,u129,u130,u131,u132,u133,u134,u135,u136,u137],[]⟩ W:=by
 subst hR
 have HS:=Lib.hid hs
 have q0:=cell_of_row _ _ 0 _ _ _ hs.g0
 simp only [nodeV,List.getElem?_toArray,List.getElem?_cons_zero,List.getElem?_cons_succ] at q0
 have zW:=hs.b.size
 have zg:w.heap.size+2 < W.heap.size:=(Array.getElem?_eq_some_iff.1 hs.g2).1
 obtain ⟨lb,rfl⟩:=own_some hs.l (by omega)
 have q1:=own_at Vc_len hs.l (k:=0) (x:=v) rfl 0 _ rfl
 have q2:=own_at Vc_len hs.l (k:=0) (x:=v) rfl 1 _ rfl
 have q3:=own_at Vc_len hs.l (k:=0) (x:=v) rfl 2 _ rfl
 have q4:=own_at Vc_len hs.l (k:=0) (x:=v) rfl 3 _ rfl
 have q5:=own_at Vc_len hs.l (k:=1) (x:=u) rfl 0 _ rfl
 have q6:=own_at Vc_len hs.l (k:=1) (x:=u) rfl 1 _ rfl
 have q7:=own_at Vc_len hs.l (k:=1) (x:=u) rfl 2 _ rfl
 have q8:=own_at Vc_len hs.l (k:=1) (x:=u) rfl 3 _ rfl
 have hlb:lb < W.heap.size:=block_lt_of_cell q1
 simp only [Nat.zero_mul,Nat.one_mul,Nat.add_zero,Nat.zero_add,Nat.reduceAdd] at q1 q2 q3 q4 q5 q6 q7 q8
 have HLB:=Lib.hid (show lb ≠ w.heap.size+2 by
  have h:=(hs.l.lt lb rfl).1
  omega)
 have HOP:=Lib.hid hop
 have H00:=Lib.hid h0
 have HROW:=Lib.hid (row_two_any W nd.op hop ba bc v.x.k u.x.k hs.s)
 have h6:(nd.op == 6)=false:=by unfold Two2 at hop;simp;omega
 have HA:=Lib.hid (show opE nd.op ([v,u].map Vc.x)=doubleW nd.op v.x u.x by
  have ho:¬ (nd.op=11∨nd.op=12):=by unfold Two2 at hop;omega
  have h6':nd.op ≠ 6:=by simpa using h6
  unfold opE opW
  rw [if_neg ho,if_neg h6']
  simp [h0.1,h0.2])
 have hvx:=hs.v v (by simp)
 have hvu:=hs.v u (by simp)
 have hfx:=hs.f v (by simp)
 have hfu:=hs.f u (by simp)
 have HX:=Lib.hid (show TwoArg W v.x v.a v.l v.c from ⟨hvx.rs,hvx.2,hfx⟩)
 have HY:=Lib.hid (show TwoArg W u.x u.a u.l u.c from ⟨hvu.rs,hvu.2,hfu⟩)
 clear hs hop h0 hvx hvu hfx hfu
 conv=>arg 2;whnf
 go_wp2_with fail
 conv=>arg 2;whnf
 go_wp2_with fail
 conv=>arg 2;whnf
 cases hrow:rowB nd.op [v.x.k,u.x.k]
 · have HRW:=Lib.hid (show opE nd.op ([v,u].map Vc.x)=.error 100 by rw [HA.out];exact row_no HOP.out H00.out.1 H00.out.2 hrow)
   clear HA
   go_wp2_with (go_at_call 73;refine (HROW.out).mono ?_;rintro e w4 ⟨rfl,hb4⟩;rw [hrow];have r0:=keepb hb4 q0;have r1:=keepb hb4 q1;have r2:=keepb hb4 q2;have r3:=keepb hb4 q3;have r4:=keepb hb4 q4;have r5:=keepb hb4 q5;have r6:=keepb hb4 q6;have r7:=keepb hb4 q7;have r8:=keepb hb4 q8;have G2:=Lib.hid ((hb4.block _ zg).trans HS.out.g2);have HB4:=Lib.hid (HS.out.b.trans (hb4.mono zW));have HB44:=Lib.hid hb4;have z4:=hb4.size;clear hb4 q0 q1 q2 q3 q4 q5 q6 q7 q8;obtain ⟨d0,d1,d2,d3,f0,f1,f2,f3⟩:=box4 G2.out)
   refine bodyPost_ret (res2c Tryz.results63 _ _ (w.heap.size+2) _ _ _ _ _ (heap_box G2.out _ _ _ _) rfl rfl) rfl ?_
   exact ⟨.err (z:=v0) (er:=100) rfl ⟨none,0,0,rfl,.inl (rz_nil1 w0)⟩ HRW.out (by decide),below_box (by omega) HB4.out _ _ _ _⟩
 · have HBK:=Lib.hid (show 0 < binK nd.op v.x.k u.x.k by
    have h':=hrow
    have hop:=HOP.out
    unfold Two2 at hop
    unfold rowB at h'
    rw [if_neg (by omega),if_neg (by omega),if_neg (by omega),if_neg (by omega)] at h'
    simpa using h')
   go_wp2_with (go_at_call 73;refine (HROW.out).mono ?_;rintro e w4 ⟨rfl,hb4⟩;rw [hrow];have r0:=keepb hb4 q0;have r1:=keepb hb4 q1;have r2:=keepb hb4 q2;have r3:=keepb hb4 q3;have r4:=keepb hb4 q4;have r5:=keepb hb4 q5;have r6:=keepb hb4 q6;have r7:=keepb hb4 q7;have r8:=keepb hb4 q8;have G2:=Lib.hid ((hb4.block _ zg).trans HS.out.g2);have HB4:=Lib.hid (HS.out.b.trans (hb4.mono zW));have HB44:=Lib.hid hb4;have z4:=hb4.size;clear hb4 q0 q1 q2 q3 q4 q5 q6 q7 q8)
   have q0:=r0
   have q1:=r1
   have q2:=r2
   have q3:=r3
   have q4:=r4
   have q5:=r5
   have q6:=r6
   have q7:=r7
   have q8:=r8
   clear r0 r1 r2 r3 r4 r5 r6 r7 r8
   have HXT:∀ W':World,Below W.heap.size W W'→TwoArg W' v.x v.a v.l v.c:=fun W' hb=>⟨HX.out.r.below hb,HX.out.z,HX.out.f⟩
   have HYT:∀ W':World,Below W.heap.size W W'→TwoArg W' u.x u.a u.l u.c:=fun W' hb=>⟨HY.out.r.below hb,HY.out.z,HY.out.f⟩
   refine wp_region_held_drew (S:=(fun w'=>Below w.heap.size w w'∧w'.cell? ⟨w.heap.size,0,none⟩=some (.int .i64 nd.op)∧w'.cell? ⟨lb,0,none⟩=some (.int .i64 v.x.k)∧w'.cell? ⟨lb,1,none⟩=some (.int .i64 v.x.n)∧w'.cell? ⟨lb,2,none⟩=some (.string v.x.t)∧w'.cell? ⟨lb,3,none⟩=some (.slice v.a v.l v.c)∧w'.cell? ⟨lb,4,none⟩=some (.int .i64 u.x.k)∧w'.cell? ⟨lb,5,none⟩=some (.int .i64 u.x.n)∧w'.cell? ⟨lb,6,none⟩=some (.string u.x.t)∧w'.cell? ⟨lb,7,none⟩=some (.slice u.a u.l u.c))) (by kernel_rfl) ⟨HB4.out.trans ((Below.refl w4.heap.size w4).drew.mono HB4.out.size),q0,q1,q2,q3,q4,q5,q6,q7,q8⟩ (fun hHeld=>?_)
   clear q0 q1 q2 q3 q4 q5 q6 q7 q8
   obtain ⟨wd,hwd⟩:∃ wd,wd=w4.drew:=⟨_,rfl⟩
   have G2D:=Lib.hid (show wd.heap[w.heap.size+2]?=some boxZ by rw [hwd];exact G2.out)
   have HBD:=Lib.hid (show Below w4.heap.size w4 wd by rw [hwd];exact (Below.refl _ _).drew)
   rw [← hwd] at hHeld ⊢
   clear hwd
   refine tkI (i:=0) (v:=?_) rfl ?_ ?_
   rotate_left
   · intro w hSw;(try dsimp only at hSw);go_simp;try with_reducible rfl
   (try simp only [Act.put,pa,pb,pc,pd,pe,pf])
   refine tkI (i:=1) (v:=?_) rfl ?_ ?_
   rotate_left
   · intro w hSw;(try dsimp only at hSw);go_simp;try with_reducible rfl
   (try simp only [Act.put,pa,pb,pc,pd,pe,pf])
   refine tkI (i:=2) (v:=?_) rfl ?_ ?_
   rotate_left
   · intro w hSw;(try dsimp only at hSw);go_simp;try with_reducible rfl
   (try simp only [Act.put,pa,pb,pc,pd,pe,pf])
   refine tkI (i:=3) (v:=?_) rfl ?_ ?_
   rotate_left
   · intro w hSw;(try dsimp only at hSw);go_simp;try with_reducible rfl
   (try simp only [Act.put,pa,pb,pc,pd,pe,pf])
   refine tkI (i:=4) (v:=?_) rfl ?_ ?_
   rotate_left
   · intro w hSw;(try dsimp only at hSw);go_simp;try with_reducible rfl
   (try simp only [Act.put,pa,pb,pc,pd,pe,pf])
   refine tkI (i:=5) (v:=?_) rfl ?_ ?_
   rotate_left
   · intro w hSw;(try dsimp only at hSw);go_simp;try with_reducible rfl
   (try simp only [Act.put,pa,pb,pc,pd,pe,pf])
   refine tkI (i:=6) (v:=?_) rfl ?_ ?_
   rotate_left
   · intro w hSw;(try dsimp only at hSw);go_simp;try with_reducible rfl
   (try simp only [Act.put,pa,pb,pc,pd,pe,pf])
   refine tkI (i:=7) (v:=?_) rfl ?_ ?_
   rotate_left
   · intro w hSw;(try dsimp only at hSw);go_simp;try with_reducible rfl
   (try simp only [Act.put,pa,pb,pc,pd,pe,pf])
   refine wpAnyH_ready (rs:=[8]) (by kernel_rfl) (by simp) ?_
   refine AllReadyH.cons (o:=_) rfl (fun K hK=>?_) AllReadyH.nil
   go_simp
   refine (together_any (w0:=w0) nd.op HOP.out (x:=v.x) (y:=u.x) (HXT wd (HB44.out.trans (HBD.out.mono z4))) (HYT wd (HB44.out.trans (HBD.out.mono z4))) HBK.out).mono ?_
   rintro e y1 ⟨⟨vv,z,er,rfl,⟨za,zl,zc,rfl,hrv⟩,hr⟩,hb⟩
   have HRR:=Lib.hid hr
   have HRV:=Lib.hid hrv
   have HWD:=Lib.hid (show w.heap.size≤wd.heap.size from hHeld.1.size)
   clear hr hrv
   have G24:=Lib.hid ((hb.block _ (Array.getElem?_eq_some_iff.1 G2D.out).1).trans G2D.out)
   refine hK.out _ _ ⟨hHeld.1.trans (hb.mono hHeld.1.size),keepb hb hHeld.2.1,keepb hb hHeld.2.2.1,keepb hb hHeld.2.2.2.1,keepb hb hHeld.2.2.2.2.1,keepb hb hHeld.2.2.2.2.2.1,keepb hb hHeld.2.2.2.2.2.2.1,keepb hb hHeld.2.2.2.2.2.2.2.1,keepb hb hHeld.2.2.2.2.2.2.2.2.1,keepb hb hHeld.2.2.2.2.2.2.2.2.2⟩ (fun hHeld=>?_)
   clear hK K hb
   (try simp only [Act.put,pa,pb,pc,pd,pe,pf])
   refine tkI (i:=9) (v:=?_) rfl ?_ ?_
   rotate_left
   · intro w hSw;(try dsimp only at hSw);go_simp;try with_reducible rfl
   (try simp only [Act.put,pa,pb,pc,pd,pe,pf])
   refine tkI (i:=10) (v:=?_) rfl ?_ ?_
   rotate_left
   · intro w hSw;(try dsimp only at hSw);go_simp;try with_reducible rfl
   (try simp only [Act.put,pa,pb,pc,pd,pe,pf])
   obtain ⟨d0,d1,d2,d3,f0,f1,f2,f3⟩:=box4 G24.out
   have hne0:w.heap.size ≠ w.heap.size+2:=by omega
   have hnel:lb ≠ w.heap.size+2:=HLB.out
   refine wpAnyH_ready (rs:=[11]) (by kernel_rfl) (by simp) ?_
   refine AllReadyH.cons (o:=_) rfl (fun K hK=>?_) AllReadyH.nil
   go_simp
   refine hK.out _ _ ⟨below_box (by omega) hHeld.1 _ _ _ _,keepo hHeld.2.1 hne0,keepo hHeld.2.2.1 hnel,keepo hHeld.2.2.2.1 hnel,keepo hHeld.2.2.2.2.1 hnel,keepo hHeld.2.2.2.2.2.1 hnel,keepo hHeld.2.2.2.2.2.2.1 hnel,keepo hHeld.2.2.2.2.2.2.2.1 hnel,keepo hHeld.2.2.2.2.2.2.2.2.1 hnel,keepo hHeld.2.2.2.2.2.2.2.2.2 hnel⟩ (fun hHeld=>?_)
   clear hK K d0 d1 d2 d3 f0 f1 f2 f3
   (try simp only [Act.put,pa,pb,pc,pd,pe,pf])
   refine tkI (i:=12) (v:=?_) rfl ?_ ?_
   rotate_left
   · intro w hSw;(try dsimp only at hSw);go_simp;try with_reducible rfl
   (try simp only [Act.put,pa,pb,pc,pd,pe,pf])
   refine wpAnyH_done (by kernel_rfl) ?_ _
   go_wp2_with fail
   refine bodyPost_ret (res2c Tryz.results63 _ _ (w.heap.size+2) _ _ _ _ _ (heap_box G24.out _ _ _ _) rfl rfl) rfl ?_
   have hrv2:RV w0 _ w.heap.size (VA z za zl zc) z:=⟨za,zl,zc,rfl,HRV.out.imp id (fun h=>(SV.setbox h G24.out (by decide) (.int .i64 z.k) (.int .i64 z.n) (.string z.t) (.slice za zl zc)).mono HWD.out)⟩
   rcases HRR.out with ⟨h,h0⟩ | ⟨h,h0⟩
   · subst h0
     exact ⟨.ok (z:=z) rfl hrv2 (by rw [HA.out,h]),hHeld.1⟩
   · exact ⟨.err (z:=z) rfl hrv2 (by rw [HA.out,h]) h0,hHeld.1⟩
theorem op_one (w0 w W:World) (B:Nat) (nd:Nd) (la ba:Option Addr) (lc bc:Nat) (v:Vc) (hs:OpSt w W B nd 1 la ba lc bc [v]) (hw0:w0.heap.size≤w.heap.size) (hBw:w.heap.size+3≤B) (hop:nd.op=7∨nd.op=8∨nd.op=27) (h0:(v.x.k == 0)=false) (R:Wr) (hR:R=opE nd.op ([v].map Vc.x)) (u0 u1 u2 u3 u5 u11 u12 u13 u14 u15 u16 u17 u18 u19 u20 u21 u22 u23 u24 u25 u26 u27 u28 u29 u30 u31 u32 u33 u34 u35 u36 u37 u38 u39 u40 u41 u42 u43 u44 u45 u46 u47 u48 u49 u50 u51 u52 u53 u54 u55 u56 u57 u58 u59 u60 u61 u62 u63 u64 u65 u66 u67 u68 u69 u70 u71 u72 u73 u74 u75 u76 u77 u78 u79 u80 u81 u82 u83 u84 u85 u86 u87 u88 u89 u90 u91 u92 u93 u94 u95 u96 u97 u98 u99 u100 u101 u102 u103 u104 u105 u106 u107 u108 u109 u110 u111 u112 u113 u114 u115 u116 u117 u118 u119 u120 u121 u122 u123 u124 u125 u126 u127 u128 u129 u130 u131 u132 u133 u134 u135 u136 u137:Value) (KK K2:Act→World→Prop) (hKK:∀ a' w',Code.wp Tryz.prog op6b (Exit.then K2 (bodyPost Tryz.prog Tryz.f63 fun e w'=>TogOut w0 w e w' R∧Below w.heap.size w w')) a' w'→KK a' w') (hK2:∀ a' w',Code.wp Tryz.prog op6c (bodyPost Tryz.prog Tryz.f63 fun e w'=>TogOut w0 w e w' R∧Below w.heap.size w w') a' w'→K2 a' w') :
 Code.wp Tryz.prog op6a (Exit.then KK (Exit.then K2 (bodyPost Tryz.prog Tryz.f63 fun e w'=>TogOut w0 w e w' R∧Below w.heap.size w w'))) ⟨#[u0,u1,u2,u3,.pointer (some ⟨w.heap.size,0,none⟩),u5,.pointer (some ⟨w.heap.size+2,0,none⟩),.int .i64 0,.slice la 1 lc,.bool false,.slice ba 1 bc,u11,u12,u13,u14,u15,u16,u17,u18,u19,u20,u21,u22,u23,u24,u25,u26,u27,u28,u29,u30,u31,u32,u33,u34,u35,u36,u37,u38,u39,u40,u41,u42,u43,u44,u45,u46,u47,u48,u49,u50,u51,u52,u53,u54,u55,u56,u57,u58,u59,u60,u61,u62,u63,u64,u65,u66,u67,u68,u69,u70,u71,u72,u73,u74,u75,u76,u77,u78,u79,u80,u81,u82,u83,u84,u85,u86,u87,u88,u89,u90,u91,u92,u93,u94,u95,u96,u97,u98,u99,u100,u101,u102,u103,u104,u105,u106,u107,u108,u109,u110,u111,u112,u113,u114,u115,u116,u117,u118,u119,u120,u121,u122,u123,u124,u125,u126,u127,u128,u129,u130,u131,u132,u133,u134,u135,u136,u137],[]⟩ W:=by
 subst hR
 have HS:=Lib.hid hs
 have q0:=cell_of_row _ _ 0 _ _ _ hs.g0
 simp only [nodeV,List.getElem?_toArray,List.getElem?_cons_zero,List.getElem?_cons_succ] at q0
 have zW:=hs.b.size
 have zg:w.heap.size+2 < W.heap.size:=(Array.getElem?_eq_some_iff.1 hs.g2).1
 obtain ⟨lb,rfl⟩:=own_some hs.l (by omega)
 have q1:=own_at Vc_len hs.l (k:=0) (x:=v) rfl 0 _ rfl
 have q2:=own_at Vc_len hs.l (k:=0) (x:=v) rfl 1 _ rfl
 have q3:=own_at Vc_len hs.l (k:=0) (x:=v) rfl 2 _ rfl
 have q4:=own_at Vc_len hs.l (k:=0) (x:=v) rfl 3 _ rfl
 have hlb:lb < W.heap.size:=block_lt_of_cell q1
 simp only [Nat.zero_mul,Nat.one_mul,Nat.add_zero,Nat.zero_add,Nat.reduceAdd] at q1 q2 q3 q4
 have HLB:=Lib.hid (show lb ≠ w.heap.size+2 by
  have h:=(hs.l.lt lb rfl).1
  omega)
 have HOP:=Lib.hid hop
 have h6:(nd.op == 6)=false:=by simp;omega
 have HROW:=Lib.hid (row_one_any W nd.op hop ba bc v.x.k hs.s)
 have HA:=Lib.hid (show opE nd.op ([v].map Vc.x)=singleW nd.op v.x by
  have ho:¬ (nd.op=11∨nd.op=12):=by omega
  have h6':nd.op ≠ 6:=by simpa using h6
  unfold opE opW
  rw [if_neg ho,if_neg h6']
  simp [h0])
 have hvx:=hs.v v (by simp)
 have hfx:=hs.f v (by simp)
 have HX:=Lib.hid (show TwoArg W v.x v.a v.l v.c from ⟨hvx.rs,hvx.2,hfx⟩)
 clear hs hop h0 hvx hfx
 conv=>arg 2;whnf
 go_wp2_with fail
 conv=>arg 2;whnf
 go_wp2_with fail
 conv=>arg 2;whnf
 cases hrow:rowB nd.op [v.x.k]
 · have HRW:=Lib.hid (show opE nd.op ([v].map Vc.x)=.error 100 by rw [HA.out];exact one_no HOP.out hrow)
   clear HA
   go_wp2_with (go_at_call 73;refine (HROW.out).mono ?_;rintro e w4 ⟨rfl,hb4⟩;rw [hrow];have r0:=keepb hb4 q0;have r1:=keepb hb4 q1;have r2:=keepb hb4 q2;have r3:=keepb hb4 q3;have r4:=keepb hb4 q4;have G2:=Lib.hid ((hb4.block _ zg).trans HS.out.g2);have HB4:=Lib.hid (HS.out.b.trans (hb4.mono zW));have HB44:=Lib.hid hb4;have z4:=hb4.size;clear hb4 q0 q1 q2 q3 q4;obtain ⟨d0,d1,d2,d3,f0,f1,f2,f3⟩:=box4 G2.out)
   refine bodyPost_ret (res2c Tryz.results63 _ _ (w.heap.size+2) _ _ _ _ _ (heap_box G2.out _ _ _ _) rfl rfl) rfl ?_
   exact ⟨.err (z:=v0) (er:=100) rfl ⟨none,0,0,rfl,.inl (rz_nil1 w0)⟩ HRW.out (by decide),below_box (by omega) HB4.out _ _ _ _⟩
 · have HRT:=Lib.hid hrow
   go_wp2_with (go_at_call 73;refine (HROW.out).mono ?_;rintro e w4 ⟨rfl,hb4⟩;rw [hrow];have r0:=keepb hb4 q0;have r1:=keepb hb4 q1;have r2:=keepb hb4 q2;have r3:=keepb hb4 q3;have r4:=keepb hb4 q4;have G2:=Lib.hid ((hb4.block _ zg).trans HS.out.g2);have HB4:=Lib.hid (HS.out.b.trans (hb4.mono zW));have HB44:=Lib.hid hb4;have z4:=hb4.size;clear hb4 q0 q1 q2 q3 q4)
   have q0:=r0
   have q1:=r1
   have q2:=r2
   have q3:=r3
   have q4:=r4
   clear r0 r1 r2 r3 r4
   refine wp_region_held_drew (S:=(fun w'=>Below w.heap.size w w'∧w'.cell? ⟨w.heap.size,0,none⟩=some (.int .i64 nd.op)∧w'.cell? ⟨lb,0,none⟩=some (.int .i64 v.x.k)∧w'.cell? ⟨lb,1,none⟩=some (.int .i64 v.x.n)∧w'.cell? ⟨lb,2,none⟩=some (.string v.x.t)∧w'.cell? ⟨lb,3,none⟩=some (.slice v.a v.l v.c))) (by kernel_rfl) ⟨HB4.out.trans ((Below.refl w4.heap.size w4).drew.mono HB4.out.size),q0,q1,q2,q3,q4⟩ (fun hHeld=>?_)
   clear q0 q1 q2 q3 q4
   obtain ⟨wd,hwd⟩:∃ wd,wd=w4.drew:=⟨_,rfl⟩
   have G2D:=Lib.hid (show wd.heap[w.heap.size+2]?=some boxZ by rw [hwd];exact G2.out)
   have HBD:=Lib.hid (show Below w4.heap.size w4 wd by rw [hwd];exact (Below.refl _ _).drew)
   rw [← hwd] at hHeld ⊢
   clear hwd
   refine tkI (i:=0) (v:=?_) rfl ?_ ?_
   rotate_left
   · intro w hSw;(try dsimp only at hSw);go_simp;try with_reducible rfl
   (try simp only [Act.put,pa,pb,pc,pd,pe,pf])
   refine tkI (i:=1) (v:=?_) rfl ?_ ?_
   rotate_left
   · intro w hSw;(try dsimp only at hSw);go_simp;try with_reducible rfl
   (try simp only [Act.put,pa,pb,pc,pd,pe,pf])
   refine tkI (i:=2) (v:=?_) rfl ?_ ?_
   rotate_left
   · intro w hSw;(try dsimp only at hSw);go_simp;try with_reducible rfl
   (try simp only [Act.put,pa,pb,pc,pd,pe,pf])
   refine tkI (i:=3) (v:=?_) rfl ?_ ?_
   rotate_left
   · intro w hSw;(try dsimp only at hSw);go_simp;try with_reducible rfl
   (try simp only [Act.put,pa,pb,pc,pd,pe,pf])
   refine tkI (i:=4) (v:=?_) rfl ?_ ?_
   rotate_left
   · intro w hSw;(try dsimp only at hSw);go_simp;try with_reducible rfl
   (try simp only [Act.put,pa,pb,pc,pd,pe,pf])
   refine wpAnyH_ready (rs:=[5]) (by kernel_rfl) (by simp) ?_
   refine AllReadyH.cons (o:=_) rfl (fun K hK=>?_) AllReadyH.nil
   go_simp
   refine (alone_any nd.op HOP.out wd v.x v.a v.l v.c (HX.out.r.below (HB44.out.trans (HBD.out.mono z4))) HX.out.f.n (one_room HX.out)).mono ?_
   rintro e y1 ⟨hnr,hb⟩
   obtain ⟨z,er,rfl,hzs,hr⟩:=num_toA HOP.out hnr
   have HRR:=Lib.hid hr
   have HZS:=Lib.hid hzs
   clear hr hzs hnr
   have G24:=Lib.hid ((hb.block _ (Array.getElem?_eq_some_iff.1 G2D.out).1).trans G2D.out)
   refine hK.out _ _ ⟨hHeld.1.trans (hb.mono hHeld.1.size),keepb hb hHeld.2.1,keepb hb hHeld.2.2.1,keepb hb hHeld.2.2.2.1,keepb hb hHeld.2.2.2.2.1,keepb hb hHeld.2.2.2.2.2⟩ (fun hHeld=>?_)
   clear hK K hb
   (try simp only [Act.put,pa,pb,pc,pd,pe,pf])
   refine tkI (i:=6) (v:=?_) rfl ?_ ?_
   rotate_left
   · intro w hSw;(try dsimp only at hSw);go_simp;try with_reducible rfl
   (try simp only [Act.put,pa,pb,pc,pd,pe,pf])
   refine tkI (i:=7) (v:=?_) rfl ?_ ?_
   rotate_left
   · intro w hSw;(try dsimp only at hSw);go_simp;try with_reducible rfl
   (try simp only [Act.put,pa,pb,pc,pd,pe,pf])
   obtain ⟨d0,d1,d2,d3,f0,f1,f2,f3⟩:=box4 G24.out
   have hne0:w.heap.size ≠ w.heap.size+2:=by omega
   have hnel:lb ≠ w.heap.size+2:=HLB.out
   refine wpAnyH_ready (rs:=[8]) (by kernel_rfl) (by simp) ?_
   refine AllReadyH.cons (o:=_) rfl (fun K hK=>?_) AllReadyH.nil
   go_simp
   refine hK.out _ _ ⟨below_box (by omega) hHeld.1 _ _ _ _,keepo hHeld.2.1 hne0,keepo hHeld.2.2.1 hnel,keepo hHeld.2.2.2.1 hnel,keepo hHeld.2.2.2.2.1 hnel,keepo hHeld.2.2.2.2.2 hnel⟩ (fun hHeld=>?_)
   clear hK K d0 d1 d2 d3 f0 f1 f2 f3
   (try simp only [Act.put,pa,pb,pc,pd,pe,pf])
   refine tkI (i:=9) (v:=?_) rfl ?_ ?_
   rotate_left
   · intro w hSw;(try dsimp only at hSw);go_simp;try with_reducible rfl
   (try simp only [Act.put,pa,pb,pc,pd,pe,pf])
   refine wpAnyH_done (by kernel_rfl) ?_ _
   go_wp2_with fail
   refine bodyPost_ret (res2c Tryz.results63 _ _ (w.heap.size+2) _ _ _ _ _ (heap_box G24.out _ _ _ _) rfl rfl) rfl ?_
   have hrv2:∀ W':World,RV w0 W' w.heap.size (VA z none 0 0) z:=fun W'=>⟨none,0,0,rfl,.inl (by rw [HZS.out];exact rz_nil1 w0)⟩
   have hal:=alone_isA HOP.out HX.out.f HRT.out
   rcases HRR.out with ⟨h,h0⟩ | ⟨h,h0⟩
   · subst h0
     exact ⟨.ok (z:=z) rfl (hrv2 _) (by rw [HA.out,← hal,h]),hHeld.1⟩
   · exact ⟨.err (z:=z) rfl (hrv2 _) (by rw [HA.out,← hal,h]) h0,hHeld.1⟩
theorem op_set (w0 w W:World) (B:Nat) (nd:Nd) (la ba:Option Addr) (lc bc:Nat) (n:Nat) (hn:n≤1000000) (vs:List Vc) (hs:OpSt w W B nd n la ba lc bc vs) (hw0:w0.heap.size≤w.heap.size) (hBw:w.heap.size+3≤B) (hop:nd.op=6) (h0:(vs.any fun v=>v.x.k == 0)=false) (R:Wr) (hR:R=opE nd.op (vs.map Vc.x)) (u0 u1 u2 u3 u5 u11 u12 u13 u14 u15 u16 u17 u18 u19 u20 u21 u22 u23 u24 u25 u26 u27 u28 u29 u30 u31 u32 u33 u34 u35 u36 u37 u38 u39 u40 u41 u42 u43 u44 u45 u46 u47 u48 u49 u50 u51 u52 u53 u54 u55 u56 u57 u58 u59 u60 u61 u62 u63 u64 u65 u66 u67 u68 u69 u70 u71 u72 u73 u74 u75 u76 u77 u78 u79 u80 u81 u82 u83 u84 u85 u86 u87 u88 u89 u90 u91 u92 u93 u94 u95 u96 u97 u98 u99 u100 u101 u102 u103 u104 u105 u106 u107 u108 u109 u110 u111 u112 u113 u114 u115 u116 u117 u118 u119 u120 u121 u122 u123 u124 u125 u126 u127 u128 u129 u130 u131 u132 u133 u134 u135 u136 u137:Value) (KK K2:Act→World→Prop) (hKK:∀ a' w',Code.wp Tryz.prog op6b (Exit.then K2 (bodyPost Tryz.prog Tryz.f63 fun e w'=>TogOut w0 w e w' R∧Below w.heap.size w w')) a' w'→KK a' w') (hK2:∀ a' w',Code.wp Tryz.prog op6c (bodyPost Tryz.prog Tryz.f63 fun e w'=>TogOut w0 w e w' R∧Below w.heap.size w w') a' w'→K2 a' w') :
 Code.wp Tryz.prog op6a (Exit.then KK (Exit.then K2 (bodyPost Tryz.prog Tryz.f63 fun e w'=>TogOut w0 w e w' R∧Below w.heap.size w w'))) ⟨#[u0,u1,u2,u3,.pointer (some ⟨w.heap.size,0,none⟩),u5,.pointer (some ⟨w.heap.size+2,0,none⟩),.int .i64 0,.slice la n lc,.bool false,.slice ba n bc,u11,u12,u13,u14,u15,u16,u17,u18,u19,u20,u21,u22,u23,u24,u25,u26,u27,u28,u29,u30,u31,u32,u33,u34,u35,u36,u37,u38,u39,u40,u41,u42,u43,u44,u45,u46,u47,u48,u49,u50,u51,u52,u53,u54,u55,u56,u57,u58,u59,u60,u61,u62,u63,u64,u65,u66,u67,u68,u69,u70,u71,u72,u73,u74,u75,u76,u77,u78,u79,u80,u81,u82,u83,u84,u85,u86,u87,u88,u89,u90,u91,u92,u93,u94,u95,u96,u97,u98,u99,u100,u101,u102,u103,u104,u105,u106,u107,u108,u109,u110,u111,u112,u113,u114,u115,u116,u117,u118,u119,u120,u121,u122,u123,u124,u125,u126,u127,u128,u129,u130,u131,u132,u133,u134,u135,u136,u137],[]⟩ W:=by
 subst hR
 have HS:=Lib.hid hs
 have q0:=cell_of_row _ _ 0 _ _ _ hs.g0
 simp only [nodeV,List.getElem?_toArray,List.getElem?_cons_zero,List.getElem?_cons_succ] at q0
 have zW:=hs.b.size
 have zg:w.heap.size+2 < W.heap.size:=(Array.getElem?_eq_some_iff.1 hs.g2).1
 rw [hop] at q0
 have HROW:=Lib.hid (row_set_any W ba n bc _ hs.s hn)
 have HA:=Lib.hid (show opE nd.op (vs.map Vc.x)=gatheredW (vs.map Vc.x) by
  unfold opE opW
  rw [hop,if_neg (by decide),List.any_map,if_neg (by
   rw [Bool.not_eq_true]
   exact h0),if_pos rfl])
 have HR:=Lib.hid (RS.of_owns hs.l (by decide) Vc_len (by omega))
 have hlen:=HR.out.1
 have HF:=Lib.hid hs.f
 clear hs hop h0
 conv=>arg 2;whnf
 go_wp2_with fail
 conv=>arg 2;whnf
 go_wp2_with fail
 conv=>arg 2;whnf
 cases hrow:rowB 6 (vs.map fun v=>v.x.k)
 · have HRW:=Lib.hid (show opE nd.op (vs.map Vc.x)=.error 100 by rw [HA.out];exact set_no hrow)
   clear HA
   go_wp2_with (go_at_call 73;refine (HROW.out).mono ?_;rintro e w4 ⟨rfl,hb4⟩;rw [hrow];have r0:=keepb hb4 q0;have G2:=Lib.hid ((hb4.block _ zg).trans HS.out.g2);have HB4:=Lib.hid (HS.out.b.trans (hb4.mono zW));have HB44:=Lib.hid hb4;have z4:=hb4.size;clear hb4 q0;obtain ⟨d0,d1,d2,d3,f0,f1,f2,f3⟩:=box4 G2.out)
   refine bodyPost_ret (res2c Tryz.results63 _ _ (w.heap.size+2) _ _ _ _ _ (heap_box G2.out _ _ _ _) rfl rfl) rfl ?_
   exact ⟨.err (z:=v0) (er:=100) rfl ⟨none,0,0,rfl,.inl (rz_nil1 w0)⟩ HRW.out (by decide),below_box (by omega) HB4.out _ _ _ _⟩
 · have HG:=Lib.hid (set_yes hrow)
   go_wp2_with (go_at_call 73;refine (HROW.out).mono ?_;rintro e w4 ⟨rfl,hb4⟩;rw [hrow];have r0:=keepb hb4 q0;have G2:=Lib.hid ((hb4.block _ zg).trans HS.out.g2);have HB4:=Lib.hid (HS.out.b.trans (hb4.mono zW));have HB44:=Lib.hid hb4;have z4:=hb4.size;clear hb4 q0)
   have HR4:=Lib.hid (HR.out.below HB44.out)
   clear r0 hrow
   go_loopw [14,15] (fun v i wr=>∃ (k:Nat) (sa:Option Addr) (sc:Nat),k≤n∧i=.int .i64 k∧v=.slice sa k sc∧wr.ownsRow w4.heap.size 9 1 (.slice sa k sc) k (((vs.take k).map fun v=>v.x.t).flatMap Sv)∧Below w4.heap.size w4 wr) (fun _ i _=>n - (intOf i).toNat)
   case atStart=>exact ⟨0,none,0,by omega,rfl,rfl,by simpa using World.ownsRow_nil _ _ _ _,Below.refl _ _⟩
   case round =>
    obtain ⟨k,sa,sc,hk,rfl,rfl,ho,hb⟩:=hrel
    have HO:=Lib.hid ho
    have HB:=Lib.hid hb
    have zr:=hb.size
    clear ho hb
    by_cases hlt:k < n
    · obtain ⟨nb,no,nd',rfl,hnd,hcl0⟩:=HR4.out.at hlt
      have n2:=(HB.out.cell (p:=⟨nb,no+k * 4+2,none⟩) (block_lt_of_cell (hcl0 2 _ rfl))).trans (hcl0 2 _ rfl)
      have hltI:(k:Int) < (n:Int):=by omega
      have HND:=Lib.hid (show ((vs.take (k+1)).map fun v=>v.x.t).flatMap Sv=((vs.take k).map fun v=>v.x.t).flatMap Sv++Sv nd'.x.t by rw [List.take_add_one,hnd];simp [List.flatMap_append])
      clear hcl0 hnd
      go_wp2_with (at_builtin;(refine L_appendN rfl _ _ _ rfl sl45 w4.heap.size (.slice sa k sc) k (((vs.take k).map fun v=>v.x.t).flatMap Sv) rfl (own_below HO.out (bel1 _ (.cells #[.string nd'.x.t] 9))) _ 1 1 (Sv nd'.x.t) rfl rfl (new_str _ _) (by simp [Sv,Value.oneCell']) (by omega) (by unfold maxLen;omega) (by simp;omega) (fun a6 c6 w6 ho6 hg6 hat6=>?_)
                               rw [← HND.out] at ho6
                               have HO6:=Lib.hid ho6
                               have HB6:=Lib.hid (show Below w4.heap.size w4 w6 from (HB.out.alloc zr _).grown hg6 (by simp;omega) (fun q hq=>(HO.out.lt q hq).1))
                               clear ho6 hg6 hat6))
      go_roundw
      case rel=>exact ⟨k+1,a6,c6,by omega,by go_num,rfl,HO6.out,HB6.out⟩
      case measure=>simp [intOf];omega
    · have hltI:¬ (k:Int) < (n:Int):=by omega
      obtain rfl:k=n:=by omega
      have HT:=Lib.hid (List.take_of_length_le (l:=vs) (i:=k) (by omega))
      have HRS:=Lib.hid (show RS 1 Sv wr sa k sc (vs.map fun v=>v.x.t) from RS.of_owns (by have:=HO.out;rwa [HT.out] at this) (by decide) Sv_len (by omega))
      have HBR:=Lib.hid (HB4.out.trans (HB.out.mono (show w.heap.size≤w4.heap.size by omega)))
      have G2R:=Lib.hid ((HB.out.block _ (by omega)).trans G2.out)
      have zg2:w.heap.size+2 < wr.heap.size:=by omega
      go_wp2_with (go_at_call 74;refine (refset_any wr sa k sc _ HRS.out (by omega)).mono ?_;rintro e w6 ⟨⟨v6,rfl,hs6⟩,hb6⟩;have HS6:=Lib.hid (hs6.mono (show w.heap.size≤wr.heap.size from HBR.out.size));have HB6:=Lib.hid (HBR.out.trans (hb6.mono HBR.out.size));obtain ⟨a6,n6,c6,rfl,-⟩:=id hs6;have G26:=Lib.hid ((hb6.block _ zg2).trans G2R.out);clear hb6 hs6;obtain ⟨d0,d1,d2,d3,f0,f1,f2,f3⟩:=box4 G26.out)
      refine bodyPost_ret (res2c Tryz.results63 _ _ (w.heap.size+2) _ _ _ _ _ (heap_box G26.out _ _ _ _) rfl rfl) rfl ?_
      have hrv2:RV w0 _ w.heap.size (VA ⟨5,0,ByteArray.empty,setOf (vs.map fun v=>v.x.t)⟩ a6 n6 c6) ⟨5,0,ByteArray.empty,setOf (vs.map fun v=>v.x.t)⟩:=⟨a6,n6,c6,rfl,.inr (SV.setbox HS6.out G26.out (by decide) (.int .i64 5) (.int .i64 0) (.string ByteArray.empty) (.slice a6 n6 c6))⟩
      have hBX:=below_box (show w.heap.size≤w.heap.size+2 by omega) HB6.out (.int .i64 5) (.int .i64 0) (.string ByteArray.empty) (.slice a6 n6 c6)
      have hrt:=set_rightE (l:=vs.map fun v=>v.x.t) (fun m hm=>by
       obtain ⟨v,hv,rfl⟩:=List.mem_map.1 hm
       exact (right_parts (HF.out v hv).r).2.2.1)
      by_cases hj:64 < (setOf (vs.map fun v=>v.x.t)).length
      · exact ⟨.err (z:=⟨5,0,ByteArray.empty,setOf (vs.map fun v=>v.x.t)⟩) (er:=114) (by rw [hrt,if_pos hj];rfl) hrv2 (by rw [HA.out,HG.out,membersW,if_pos hj]) (by decide),hBX⟩
      · exact ⟨.ok (z:=⟨5,0,ByteArray.empty,setOf (vs.map fun v=>v.x.t)⟩) (by rw [hrt,if_neg hj];rfl) hrv2 (by rw [HA.out,HG.out,membersW,if_neg hj]),hBX⟩
end Go.Proofs.YtcnckjlmldnblaaGreatDoor
