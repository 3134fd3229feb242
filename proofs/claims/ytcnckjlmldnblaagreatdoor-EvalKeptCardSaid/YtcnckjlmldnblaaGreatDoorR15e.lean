import Derived.Test.YtcnckjlmldnblaaGreatDoorR15a
import Derived.BigGuardPart
import Derived.IntWalk
import Derived.Handy
import Derived.OrdersHeld
import Derived.Deep.RegionHeld3
import Derived.WalkLawsBesides
namespace Go.Proofs.YtcnckjlmldnblaaGreatDoor
open Go Go.RowKit
open List renaming setIfInBounds_toArray → pa, set_cons_zero → pb, set_cons_succ → pc, getElem_toArray → pd, getElem_cons_succ → pe, getElem_cons_zero → pf
set_option maxRecDepth 100000
set_option maxHeartbeats 16000000
set_option linter.unusedVariables false
set_option linter.unusedSimpArgs false
theorem op_eq11true (w0 w W:World) (B:Nat) (nd:Nd) (la ba:Option Addr) (lc bc:Nat) (v u:Vc) (hs:OpSt w W B nd 2 la ba lc bc [v,u]) (hw0:w0.heap.size≤w.heap.size) (hBw:w.heap.size+3≤B) (hop:nd.op=11) (h0:((v.x.k == 0) || (u.x.k == 0))=true) (R:Wr) (hR:R=opE nd.op ([v,u].map Vc.x)) (u0 u1 u2 u3 u5 u11 u12 u13 u14 u15 u16 u17 u18 u19 u20 u21 u22 u23 u24 u25 u26 u27 u28 u29 u30 u31 u32 u33 u34 u35 u36 u37 u38 u39 u40 u41 u42 u43 u44 u45 u46 u47 u48 u49 u50 u51 u52 u53 u54 u55 u56 u57 u58 u59 u60 u61 u62 u63 u64 u65 u66 u67 u68 u69 u70 u71 u72 u73 u74 u75 u76 u77 u78 u79 u80 u81 u82 u83 u84 u85 u86 u87 u88 u89 u90 u91 u92 u93 u94 u95 u96 u97 u98 u99 u100 u101 u102 u103 u104 u105 u106 u107 u108 u109 u110 u111 u112 u113 u114 u115 u116 u117 u118 u119 u120 u121 u122 u123 u124 u125 u126 u127 u128 u129 u130 u131 u132 u133 u134 u135 u136 u137:Value) (KK K2:Act→World→Prop) (hKK:∀ a' w',Code.wp Tryz.prog op5b (Exit.then K2 (bodyPost Tryz.prog Tryz.f63 fun e w'=>TogOut w0 w e w' R∧Below w.heap.size w w')) a' w'→KK a' w') (hK2:∀ a' w',Code.wp Tryz.prog op5c (bodyPost Tryz.prog Tryz.f63 fun e w'=>TogOut w0 w e w' R∧Below w.heap.size w w') a' w'→K2 a' w') :
 Code.wp Tryz.prog op5a (Exit.then KK (Exit.then K2 (bodyPost Tryz.prog Tryz.f63 fun e w'=>TogOut w0 w e w' R∧Below w.heap.size w w'))) ⟨#[u0,u1,u2,u3,.pointer (some ⟨w.heap.size,0,none⟩),u5,.pointer (some ⟨w.heap.size+2,0,none⟩),.int .i64 0,.slice la 2 lc,.bool true,.slice ba 2 bc,u11,u12,u13,u14,u15,u16,u17,u18,u19,u20,u21,u22,u23,u24,u25,u26,u27,u28,u29,u30,u31,u32,u33,u34,u35,u36,u37,u38,u39,u40,u41,u42,u43,u44,u45,u46,u47,u48,u49,u50,u51,u52,u53,u54,u55,u56,u57,u58,u59,u60,u61,u62,u63,u64,u65,u66,u67,u68,u69,u70,u71,u72,u73,u74,u75,u76,u77,u78,u79,u80,u81,u82,u83,u84,u85,u86,u87,u88,u89,u90,u91,u92,u93,u94,u95,u96,u97,u98,u99,u100,u101,u102,u103,u104,u105,u106,u107,u108,u109,u110,u111,u112,u113,u114,u115,u116,u117,u118,u119,u120,u121,u122,u123,u124,u125,u126,u127,u128,u129,u130,u131,u132,u133,u134,u135,u136,u137],[]⟩ W:=by
 subst hR
 have HS:=Lib.hid hs
 have q0:=cell_of_row _ _ 0 _ _ _ hs.g0
 simp only [nodeV,List.getElem?_toArray,List.getElem?_cons_zero,List.getElem?_cons_succ] at q0
 have zW:=hs.b.size
 have zg:w.heap.size+2 < W.heap.size:=(Array.getElem?_eq_some_iff.1 hs.g2).1
 rw [hop] at q0
 obtain ⟨lb,rfl⟩:=own_some hs.l (by omega)
 have q1:=own_at Vc_len hs.l (k:=0) (x:=v) rfl 0 _ rfl
 have q2:=own_at Vc_len hs.l (k:=0) (x:=v) rfl 1 _ rfl
 have q3:=own_at Vc_len hs.l (k:=0) (x:=v) rfl 2 _ rfl
 have q4:=own_at Vc_len hs.l (k:=0) (x:=v) rfl 3 _ rfl
 have q5:=own_at Vc_len hs.l (k:=1) (x:=u) rfl 0 _ rfl
 have q6:=own_at Vc_len hs.l (k:=1) (x:=u) rfl 1 _ rfl
 have q7:=own_at Vc_len hs.l (k:=1) (x:=u) rfl 2 _ rfl
 have q8:=own_at Vc_len hs.l (k:=1) (x:=u) rfl 3 _ rfl
 have hlb:lb < W.heap.size:=block_lt_of_cell q1
 simp only [Nat.zero_mul,Nat.one_mul,Nat.add_zero,Nat.zero_add,Nat.reduceAdd] at q1 q2 q3 q4 q5 q6 q7 q8
 have HLB:=Lib.hid (show lb ≠ w.heap.size+2 by
  have h:=(hs.l.lt lb rfl).1
  omega)
 have HA:=Lib.hid (show opE nd.op ([v,u].map Vc.x)=equalW 11 v.x u.x by
  unfold opE
  rw [hop]
  simp)
 have HRX:=Lib.hid (hs.v v (by simp)).rs
 have HRY:=Lib.hid (hs.v u (by simp)).rs
 have HB4:=Lib.hid hs.b
 have G2:=Lib.hid hs.g2
 have HC:=Lib.hid (show ¬ (v.x.k ≠ u.x.k∧v.x.k ≠ 0∧u.x.k ≠ 0) by
  intro h
  simp at h0
  omega)
 clear hs hop h0
 conv=>arg 2;whnf
 go_wp2_with fail
 conv=>arg 2;whnf
 go_wp2_with fail
 refine wp_region_held_drew (S:=(fun w'=>Below w.heap.size w w'∧w'.cell? ⟨w.heap.size,0,none⟩=some (.int .i64 11)∧w'.cell? ⟨lb,0,none⟩=some (.int .i64 v.x.k)∧w'.cell? ⟨lb,1,none⟩=some (.int .i64 v.x.n)∧w'.cell? ⟨lb,2,none⟩=some (.string v.x.t)∧w'.cell? ⟨lb,3,none⟩=some (.slice v.a v.l v.c)∧w'.cell? ⟨lb,4,none⟩=some (.int .i64 u.x.k)∧w'.cell? ⟨lb,5,none⟩=some (.int .i64 u.x.n)∧w'.cell? ⟨lb,6,none⟩=some (.string u.x.t)∧w'.cell? ⟨lb,7,none⟩=some (.slice u.a u.l u.c))) (by kernel_rfl) ⟨HB4.out.trans ((Below.refl W.heap.size W).drew.mono HB4.out.size),q0,q1,q2,q3,q4,q5,q6,q7,q8⟩ (fun hHeld=>?_)
 clear q0 q1 q2 q3 q4 q5 q6 q7 q8
 refine tkI (i:=0) (v:=?_) rfl ?_ ?_
 rotate_left
 · intro w hSw;(try dsimp only at hSw);go_simp;try with_reducible rfl
 (try simp only [Act.put,pa,pb,pc,pd,pe,pf])
 refine tkI (i:=1) (v:=?_) rfl ?_ ?_
 rotate_left
 · intro w hSw;(try dsimp only at hSw);go_simp;try with_reducible rfl
 (try simp only [Act.put,pa,pb,pc,pd,pe,pf])
 refine tkI (i:=2) (v:=?_) rfl ?_ ?_
 rotate_left
 · intro w hSw;(try dsimp only at hSw);go_simp;try with_reducible rfl
 (try simp only [Act.put,pa,pb,pc,pd,pe,pf])
 refine tkH (i:=3) (v:=undef) rfl (.inr ⟨by rfl,rfl⟩) ?_
 (try simp only [Act.put,pa,pb,pc,pd,pe,pf])
 refine tkH (i:=4) (v:=undef) rfl (.inr ⟨by rfl,rfl⟩) ?_
 (try simp only [Act.put,pa,pb,pc,pd,pe,pf])
 refine tkH (i:=5) (v:=undef) rfl (.inr ⟨by rfl,rfl⟩) ?_
 (try simp only [Act.put,pa,pb,pc,pd,pe,pf])
 refine tkH (i:=6) (v:=undef) rfl (.inr ⟨by rfl,rfl⟩) ?_
 (try simp only [Act.put,pa,pb,pc,pd,pe,pf])
 refine tkH (i:=7) (v:=undef) rfl (.inr ⟨by rfl,rfl⟩) ?_
 (try simp only [Act.put,pa,pb,pc,pd,pe,pf])
 refine tkH (i:=8) (v:=undef) rfl (.inr ⟨by rfl,rfl⟩) ?_
 (try simp only [Act.put,pa,pb,pc,pd,pe,pf])
 refine tkH (i:=9) (v:=undef) rfl (.inr ⟨by rfl,rfl⟩) ?_
 (try simp only [Act.put,pa,pb,pc,pd,pe,pf])
 refine tkH (i:=10) (v:=undef) rfl (.inr ⟨by rfl,rfl⟩) ?_
 (try simp only [Act.put,pa,pb,pc,pd,pe,pf])
 refine tkH (i:=11) (v:=undef) rfl (.inr ⟨by rfl,rfl⟩) ?_
 (try simp only [Act.put,pa,pb,pc,pd,pe,pf])
 refine tkI (i:=12) (v:=?_) rfl ?_ ?_
 rotate_left
 · intro w hSw;(try dsimp only at hSw);go_simp;try with_reducible rfl
 (try simp only [Act.put,pa,pb,pc,pd,pe,pf])
 refine wpAnyH_done (by kernel_rfl) ?_ _
 go_upto_region 16 with (fail)
 have HT:=Lib.hid (show opE nd.op ([v,u].map Vc.x)=.ok (truthV (eqV v.x u.x)) by
  rw [HA.out]
  unfold equalW
  rw [if_neg HC.out]
  first | rfl | simp | (cases eqV v.x u.x <;> rfl))
 have q0:=hHeld.2.1
 have q1:=hHeld.2.2.1
 have q2:=hHeld.2.2.2.1
 have q3:=hHeld.2.2.2.2.1
 have q4:=hHeld.2.2.2.2.2.1
 have q5:=hHeld.2.2.2.2.2.2.1
 have q6:=hHeld.2.2.2.2.2.2.2.1
 have q7:=hHeld.2.2.2.2.2.2.2.2.1
 have q8:=hHeld.2.2.2.2.2.2.2.2.2
 clear hHeld
 obtain ⟨W4,hW4⟩:∃ W4,W4=W.drew:=⟨_,rfl⟩
 have HBW4:=Lib.hid (show Below w.heap.size w W4 by rw [hW4];exact HB4.out.trans ((Below.refl W.heap.size W).drew.mono HB4.out.size))
 have HW4:=Lib.hid (show Below W.heap.size W W4 by rw [hW4];exact (Below.refl _ _).drew)
 have G24':=Lib.hid (show W4.heap[w.heap.size+2]?=some boxZ by rw [hW4];exact G2.out)
 rw [← hW4] at q0 q1 q2 q3 q4 q5 q6 q7 q8 ⊢
 clear G2 hW4
 have G2:=G24'
 refine wp_region_held_drew (S:=(fun w'=>Below w.heap.size w w'∧w'.cell? ⟨w.heap.size,0,none⟩=some (.int .i64 11)∧w'.cell? ⟨lb,0,none⟩=some (.int .i64 v.x.k)∧w'.cell? ⟨lb,1,none⟩=some (.int .i64 v.x.n)∧w'.cell? ⟨lb,2,none⟩=some (.string v.x.t)∧w'.cell? ⟨lb,3,none⟩=some (.slice v.a v.l v.c)∧w'.cell? ⟨lb,4,none⟩=some (.int .i64 u.x.k)∧w'.cell? ⟨lb,5,none⟩=some (.int .i64 u.x.n)∧w'.cell? ⟨lb,6,none⟩=some (.string u.x.t)∧w'.cell? ⟨lb,7,none⟩=some (.slice u.a u.l u.c))) (by kernel_rfl) ⟨HBW4.out.trans ((Below.refl W4.heap.size W4).drew.mono HBW4.out.size),q0,q1,q2,q3,q4,q5,q6,q7,q8⟩ (fun hHeld=>?_)
 clear q0 q1 q2 q3 q4 q5 q6 q7 q8
 obtain ⟨wd,hwd⟩:∃ wd,wd=W4.drew:=⟨_,rfl⟩
 have G2D:=Lib.hid (show wd.heap[w.heap.size+2]?=some boxZ by rw [hwd];exact G2.out)
 have HBD:=Lib.hid (show Below W4.heap.size W4 wd by rw [hwd];exact (Below.refl _ _).drew)
 rw [← hwd] at hHeld ⊢
 clear hwd
 refine tkI (i:=0) (v:=?_) rfl ?_ ?_
 rotate_left
 · intro w hSw;(try dsimp only at hSw);go_simp;try with_reducible rfl
 (try simp only [Act.put,pa,pb,pc,pd,pe,pf])
 refine tkI (i:=1) (v:=?_) rfl ?_ ?_
 rotate_left
 · intro w hSw;(try dsimp only at hSw);go_simp;try with_reducible rfl
 (try simp only [Act.put,pa,pb,pc,pd,pe,pf])
 refine tkI (i:=2) (v:=?_) rfl ?_ ?_
 rotate_left
 · intro w hSw;(try dsimp only at hSw);go_simp;try with_reducible rfl
 (try simp only [Act.put,pa,pb,pc,pd,pe,pf])
 refine tkI (i:=3) (v:=?_) rfl ?_ ?_
 rotate_left
 · intro w hSw;(try dsimp only at hSw);go_simp;try with_reducible rfl
 (try simp only [Act.put,pa,pb,pc,pd,pe,pf])
 refine tkI (i:=4) (v:=?_) rfl ?_ ?_
 rotate_left
 · intro w hSw;(try dsimp only at hSw);go_simp;try with_reducible rfl
 (try simp only [Act.put,pa,pb,pc,pd,pe,pf])
 refine tkI (i:=5) (v:=?_) rfl ?_ ?_
 rotate_left
 · intro w hSw;(try dsimp only at hSw);go_simp;try with_reducible rfl
 (try simp only [Act.put,pa,pb,pc,pd,pe,pf])
 refine tkI (i:=7) (v:=?_) rfl ?_ ?_
 rotate_left
 · intro w hSw;(try dsimp only at hSw);go_simp;try with_reducible rfl
 (try simp only [Act.put,pa,pb,pc,pd,pe,pf])
 refine tkI (i:=8) (v:=?_) rfl ?_ ?_
 rotate_left
 · intro w hSw;(try dsimp only at hSw);go_simp;try with_reducible rfl
 (try simp only [Act.put,pa,pb,pc,pd,pe,pf])
 refine tkI (i:=9) (v:=?_) rfl ?_ ?_
 rotate_left
 · intro w hSw;(try dsimp only at hSw);go_simp;try with_reducible rfl
 (try simp only [Act.put,pa,pb,pc,pd,pe,pf])
 refine wpAnyH_ready (rs:=[6]) (by kernel_rfl) (by simp) ?_
 refine AllReadyH.cons (o:=_) rfl (fun K hK=>?_) AllReadyH.nil
 go_simp
 refine (refequal_any wd v.x v.a v.l v.c (HRX.out.below (HW4.out.trans (HBD.out.mono HW4.out.size))) u.x u.a u.l u.c (HRY.out.below (HW4.out.trans (HBD.out.mono HW4.out.size)))).mono ?_
 rintro e y1 ⟨rfl,hb⟩
 have HWD:=Lib.hid (show w.heap.size≤wd.heap.size from hHeld.1.size)
 have G24:=Lib.hid ((hb.block _ (Array.getElem?_eq_some_iff.1 G2D.out).1).trans G2D.out)
 refine hK.out _ _ ⟨hHeld.1.trans (hb.mono hHeld.1.size),keepb hb hHeld.2.1,keepb hb hHeld.2.2.1,keepb hb hHeld.2.2.2.1,keepb hb hHeld.2.2.2.2.1,keepb hb hHeld.2.2.2.2.2.1,keepb hb hHeld.2.2.2.2.2.2.1,keepb hb hHeld.2.2.2.2.2.2.2.1,keepb hb hHeld.2.2.2.2.2.2.2.2.1,keepb hb hHeld.2.2.2.2.2.2.2.2.2⟩ (fun hHeld=>?_)
 clear hK K hb
 (try simp only [Act.put,pa,pb,pc,pd,pe,pf])
 refine tkI (i:=10) (v:=?_) rfl ?_ ?_
 rotate_left
 · intro w hSw;(try dsimp only at hSw);go_simp;try with_reducible rfl
 (try simp only [Act.put,pa,pb,pc,pd,pe,pf])
 refine wpAnyH_ready (rs:=[11]) (by kernel_rfl) (by simp) ?_
 refine AllReadyH.cons (o:=_) rfl (fun K hK=>?_) AllReadyH.nil
 go_simp
 refine (boolean_any y1 _).mono ?_
 rintro e y2 ⟨rfl,hb⟩
 have G25:=Lib.hid ((hb.block _ (Array.getElem?_eq_some_iff.1 G24.out).1).trans G24.out)
 refine hK.out _ _ ⟨hHeld.1.trans (hb.mono hHeld.1.size),keepb hb hHeld.2.1,keepb hb hHeld.2.2.1,keepb hb hHeld.2.2.2.1,keepb hb hHeld.2.2.2.2.1,keepb hb hHeld.2.2.2.2.2.1,keepb hb hHeld.2.2.2.2.2.2.1,keepb hb hHeld.2.2.2.2.2.2.2.1,keepb hb hHeld.2.2.2.2.2.2.2.2.1,keepb hb hHeld.2.2.2.2.2.2.2.2.2⟩ (fun hHeld=>?_)
 clear hK K hb G24
 (try simp only [Act.put,pa,pb,pc,pd,pe,pf])
 have G24:=G25
 obtain ⟨d0,d1,d2,d3,f0,f1,f2,f3⟩:=box4 G24.out
 have hne0:w.heap.size ≠ w.heap.size+2:=by omega
 have hnel:lb ≠ w.heap.size+2:=HLB.out
 refine wpAnyH_ready (rs:=[12]) (by kernel_rfl) (by simp) ?_
 refine AllReadyH.cons (o:=_) rfl (fun K hK=>?_) AllReadyH.nil
 go_simp
 refine hK.out _ _ ⟨below_box (by omega) hHeld.1 _ _ _ _,keepo hHeld.2.1 hne0,keepo hHeld.2.2.1 hnel,keepo hHeld.2.2.2.1 hnel,keepo hHeld.2.2.2.2.1 hnel,keepo hHeld.2.2.2.2.2.1 hnel,keepo hHeld.2.2.2.2.2.2.1 hnel,keepo hHeld.2.2.2.2.2.2.2.1 hnel,keepo hHeld.2.2.2.2.2.2.2.2.1 hnel,keepo hHeld.2.2.2.2.2.2.2.2.2 hnel⟩ (fun hHeld=>?_)
 clear hK K d0 d1 d2 d3 f0 f1 f2 f3
 (try simp only [Act.put,pa,pb,pc,pd,pe,pf])
 refine tkI (i:=13) (v:=?_) rfl ?_ ?_
 rotate_left
 · intro w hSw;(try dsimp only at hSw);go_simp;try with_reducible rfl
 (try simp only [Act.put,pa,pb,pc,pd,pe,pf])
 refine wpAnyH_done (by kernel_rfl) ?_ _
 go_wp2_with fail
 refine bodyPost_ret (res2c Tryz.results63 _ _ (w.heap.size+2) _ _ _ _ _ (heap_box G24.out _ _ _ _) rfl rfl) rfl ?_
 exact ⟨.ok (z:=truthV _) rfl ⟨none,0,0,rfl,.inl (rz_nil1 w0)⟩ HT.out,hHeld.1⟩
theorem op_eq11false (w0 w W:World) (B:Nat) (nd:Nd) (la ba:Option Addr) (lc bc:Nat) (v u:Vc) (hs:OpSt w W B nd 2 la ba lc bc [v,u]) (hw0:w0.heap.size≤w.heap.size) (hBw:w.heap.size+3≤B) (hop:nd.op=11) (h0:((v.x.k == 0) || (u.x.k == 0))=false) (R:Wr) (hR:R=opE nd.op ([v,u].map Vc.x)) (u0 u1 u2 u3 u5 u11 u12 u13 u14 u15 u16 u17 u18 u19 u20 u21 u22 u23 u24 u25 u26 u27 u28 u29 u30 u31 u32 u33 u34 u35 u36 u37 u38 u39 u40 u41 u42 u43 u44 u45 u46 u47 u48 u49 u50 u51 u52 u53 u54 u55 u56 u57 u58 u59 u60 u61 u62 u63 u64 u65 u66 u67 u68 u69 u70 u71 u72 u73 u74 u75 u76 u77 u78 u79 u80 u81 u82 u83 u84 u85 u86 u87 u88 u89 u90 u91 u92 u93 u94 u95 u96 u97 u98 u99 u100 u101 u102 u103 u104 u105 u106 u107 u108 u109 u110 u111 u112 u113 u114 u115 u116 u117 u118 u119 u120 u121 u122 u123 u124 u125 u126 u127 u128 u129 u130 u131 u132 u133 u134 u135 u136 u137:Value) (KK K2:Act→World→Prop) (hKK:∀ a' w',Code.wp Tryz.prog op5b (Exit.then K2 (bodyPost Tryz.prog Tryz.f63 fun e w'=>TogOut w0 w e w' R∧Below w.heap.size w w')) a' w'→KK a' w') (hK2:∀ a' w',Code.wp Tryz.prog op5c (bodyPost Tryz.prog Tryz.f63 fun e w'=>TogOut w0 w e w' R∧Below w.heap.size w w') a' w'→K2 a' w') :
 Code.wp Tryz.prog op5a (Exit.then KK (Exit.then K2 (bodyPost Tryz.prog Tryz.f63 fun e w'=>TogOut w0 w e w' R∧Below w.heap.size w w'))) ⟨#[u0,u1,u2,u3,.pointer (some ⟨w.heap.size,0,none⟩),u5,.pointer (some ⟨w.heap.size+2,0,none⟩),.int .i64 0,.slice la 2 lc,.bool false,.slice ba 2 bc,u11,u12,u13,u14,u15,u16,u17,u18,u19,u20,u21,u22,u23,u24,u25,u26,u27,u28,u29,u30,u31,u32,u33,u34,u35,u36,u37,u38,u39,u40,u41,u42,u43,u44,u45,u46,u47,u48,u49,u50,u51,u52,u53,u54,u55,u56,u57,u58,u59,u60,u61,u62,u63,u64,u65,u66,u67,u68,u69,u70,u71,u72,u73,u74,u75,u76,u77,u78,u79,u80,u81,u82,u83,u84,u85,u86,u87,u88,u89,u90,u91,u92,u93,u94,u95,u96,u97,u98,u99,u100,u101,u102,u103,u104,u105,u106,u107,u108,u109,u110,u111,u112,u113,u114,u115,u116,u117,u118,u119,u120,u121,u122,u123,u124,u125,u126,u127,u128,u129,u130,u131,u132,u133,u134,u135,u136,u137],[]⟩ W:=by
 subst hR
 have HS:=Lib.hid hs
 have q0:=cell_of_row _ _ 0 _ _ _ hs.g0
 simp only [nodeV,List.getElem?_toArray,List.getElem?_cons_zero,List.getElem?_cons_succ] at q0
 have zW:=hs.b.size
 have zg:w.heap.size+2 < W.heap.size:=(Array.getElem?_eq_some_iff.1 hs.g2).1
 rw [hop] at q0
 obtain ⟨lb,rfl⟩:=own_some hs.l (by omega)
 have q1:=own_at Vc_len hs.l (k:=0) (x:=v) rfl 0 _ rfl
 have q2:=own_at Vc_len hs.l (k:=0) (x:=v) rfl 1 _ rfl
 have q3:=own_at Vc_len hs.l (k:=0) (x:=v) rfl 2 _ rfl
 have q4:=own_at Vc_len hs.l (k:=0) (x:=v) rfl 3 _ rfl
 have q5:=own_at Vc_len hs.l (k:=1) (x:=u) rfl 0 _ rfl
 have q6:=own_at Vc_len hs.l (k:=1) (x:=u) rfl 1 _ rfl
 have q7:=own_at Vc_len hs.l (k:=1) (x:=u) rfl 2 _ rfl
 have q8:=own_at Vc_len hs.l (k:=1) (x:=u) rfl 3 _ rfl
 have hlb:lb < W.heap.size:=block_lt_of_cell q1
 simp only [Nat.zero_mul,Nat.one_mul,Nat.add_zero,Nat.zero_add,Nat.reduceAdd] at q1 q2 q3 q4 q5 q6 q7 q8
 have HLB:=Lib.hid (show lb ≠ w.heap.size+2 by
  have h:=(hs.l.lt lb rfl).1
  omega)
 have HA:=Lib.hid (show opE nd.op ([v,u].map Vc.x)=equalW 11 v.x u.x by
  unfold opE
  rw [hop]
  simp)
 have HRX:=Lib.hid (hs.v v (by simp)).rs
 have HRY:=Lib.hid (hs.v u (by simp)).rs
 have HB4:=Lib.hid hs.b
 have G2:=Lib.hid hs.g2
 cases hkk:(v.x.k == u.x.k)
 · have hkn:(v.x.k != u.x.k)=true:=by simp [bne,hkk]
   have HT:=Lib.hid (show opE nd.op ([v,u].map Vc.x)=.error 100 by
    rw [HA.out]
    unfold equalW
    rw [if_pos (by simp at h0 hkk;exact ⟨hkk,h0.1,h0.2⟩)])
   clear hs hop h0
   conv=>arg 2;whnf
   go_wp2_with fail
   conv=>arg 2;whnf
   go_wp2_with fail
   refine wp_region_held_drew (S:=(fun w'=>Below w.heap.size w w'∧w'.cell? ⟨w.heap.size,0,none⟩=some (.int .i64 11)∧w'.cell? ⟨lb,0,none⟩=some (.int .i64 v.x.k)∧w'.cell? ⟨lb,1,none⟩=some (.int .i64 v.x.n)∧w'.cell? ⟨lb,2,none⟩=some (.string v.x.t)∧w'.cell? ⟨lb,3,none⟩=some (.slice v.a v.l v.c)∧w'.cell? ⟨lb,4,none⟩=some (.int .i64 u.x.k)∧w'.cell? ⟨lb,5,none⟩=some (.int .i64 u.x.n)∧w'.cell? ⟨lb,6,none⟩=some (.string u.x.t)∧w'.cell? ⟨lb,7,none⟩=some (.slice u.a u.l u.c))) (by kernel_rfl) ⟨HB4.out.trans ((Below.refl W.heap.size W).drew.mono HB4.out.size),q0,q1,q2,q3,q4,q5,q6,q7,q8⟩ (fun hHeld=>?_)
   clear q0 q1 q2 q3 q4 q5 q6 q7 q8
   refine tkI (i:=0) (v:=?_) rfl ?_ ?_
   rotate_left
   · intro w hSw;(try dsimp only at hSw);go_simp;try with_reducible rfl
   (try simp only [Act.put,pa,pb,pc,pd,pe,pf])
   refine tkI (i:=1) (v:=?_) rfl ?_ ?_
   rotate_left
   · intro w hSw;(try dsimp only at hSw);go_simp;try with_reducible rfl
   (try simp only [Act.put,pa,pb,pc,pd,pe,pf])
   refine tkI (i:=2) (v:=?_) rfl ?_ ?_
   rotate_left
   · intro w hSw;(try dsimp only at hSw);go_simp;try with_reducible rfl
   (try simp only [Act.put,pa,pb,pc,pd,pe,pf])
   refine tkI (i:=3) (v:=?_) rfl ?_ ?_
   rotate_left
   · intro w hSw;(try dsimp only at hSw);go_simp;try with_reducible rfl
   (try simp only [Act.put,pa,pb,pc,pd,pe,pf])
   refine tkI (i:=4) (v:=?_) rfl ?_ ?_
   rotate_left
   · intro w hSw;(try dsimp only at hSw);go_simp;try with_reducible rfl
   (try simp only [Act.put,pa,pb,pc,pd,pe,pf])
   refine tkI (i:=5) (v:=?_) rfl ?_ ?_
   rotate_left
   · intro w hSw;(try dsimp only at hSw);go_simp;try with_reducible rfl
   (try simp only [Act.put,pa,pb,pc,pd,pe,pf])
   refine tkI (i:=6) (v:=?_) rfl ?_ ?_
   rotate_left
   · intro w hSw;(try dsimp only at hSw);go_simp;try with_reducible rfl
   (try simp only [Act.put,pa,pb,pc,pd,pe,pf])
   refine tkI (i:=7) (v:=?_) rfl ?_ ?_
   rotate_left
   · intro w hSw;(try dsimp only at hSw);go_simp;try with_reducible rfl
   (try simp only [Act.put,pa,pb,pc,pd,pe,pf])
   refine tkI (i:=8) (v:=?_) rfl ?_ ?_
   rotate_left
   · intro w hSw;(try dsimp only at hSw);go_simp;try with_reducible rfl
   (try simp only [Act.put,pa,pb,pc,pd,pe,pf])
   refine tkI (i:=9) (v:=?_) rfl ?_ ?_
   rotate_left
   · intro w hSw;(try dsimp only at hSw);go_simp;try with_reducible rfl
   (try simp only [Act.put,pa,pb,pc,pd,pe,pf])
   refine tkI (i:=10) (v:=?_) rfl ?_ ?_
   rotate_left
   · intro w hSw;(try dsimp only at hSw);go_simp;try with_reducible rfl
   (try simp only [Act.put,pa,pb,pc,pd,pe,pf])
   refine tkI (i:=11) (v:=?_) rfl ?_ ?_
   rotate_left
   · intro w hSw;(try dsimp only at hSw);go_simp;try with_reducible rfl
   (try simp only [Act.put,pa,pb,pc,pd,pe,pf])
   refine tkI (i:=12) (v:=?_) rfl ?_ ?_
   rotate_left
   · intro w hSw;(try dsimp only at hSw);go_simp;try with_reducible rfl
   (try simp only [Act.put,pa,pb,pc,pd,pe,pf])
   refine wpAnyH_done (by kernel_rfl) ?_ _
   go_upto_region 15 with (fail)
   obtain ⟨W4,hW4⟩:∃ W4,W4=W.drew:=⟨_,rfl⟩
   have HBW4:=Lib.hid (show Below w.heap.size w W4 by rw [hW4];exact HB4.out.trans ((Below.refl W.heap.size W).drew.mono HB4.out.size))
   have HW4:=Lib.hid (show Below W.heap.size W W4 by rw [hW4];exact (Below.refl _ _).drew)
   have G24':=Lib.hid (show W4.heap[w.heap.size+2]?=some boxZ by rw [hW4];exact G2.out)
   rw [← hW4]
   clear G2 hW4
   have G2:=G24'
   obtain ⟨d0,d1,d2,d3,f0,f1,f2,f3⟩:=box4 G2.out
   go_wp2_with fail
   refine bodyPost_ret (res2c Tryz.results63 _ _ (w.heap.size+2) _ _ _ _ _ (heap_box G2.out _ _ _ _) rfl rfl) rfl ?_
   exact ⟨.err (z:=v0) (er:=100) rfl ⟨none,0,0,rfl,.inl (rz_nil1 w0)⟩ HT.out (by decide),below_box (by omega) HBW4.out _ _ _ _⟩
 · have hkn:(v.x.k != u.x.k)=false:=by simp [bne,hkk]
   have HC:=Lib.hid (show ¬ (v.x.k ≠ u.x.k∧v.x.k ≠ 0∧u.x.k ≠ 0) by
    intro h
    simp at hkk
    exact h.1 hkk)
   clear hs hop h0
   conv=>arg 2;whnf
   go_wp2_with fail
   conv=>arg 2;whnf
   go_wp2_with fail
   refine wp_region_held_drew (S:=(fun w'=>Below w.heap.size w w'∧w'.cell? ⟨w.heap.size,0,none⟩=some (.int .i64 11)∧w'.cell? ⟨lb,0,none⟩=some (.int .i64 v.x.k)∧w'.cell? ⟨lb,1,none⟩=some (.int .i64 v.x.n)∧w'.cell? ⟨lb,2,none⟩=some (.string v.x.t)∧w'.cell? ⟨lb,3,none⟩=some (.slice v.a v.l v.c)∧w'.cell? ⟨lb,4,none⟩=some (.int .i64 u.x.k)∧w'.cell? ⟨lb,5,none⟩=some (.int .i64 u.x.n)∧w'.cell? ⟨lb,6,none⟩=some (.string u.x.t)∧w'.cell? ⟨lb,7,none⟩=some (.slice u.a u.l u.c))) (by kernel_rfl) ⟨HB4.out.trans ((Below.refl W.heap.size W).drew.mono HB4.out.size),q0,q1,q2,q3,q4,q5,q6,q7,q8⟩ (fun hHeld=>?_)
   clear q0 q1 q2 q3 q4 q5 q6 q7 q8
   refine tkI (i:=0) (v:=?_) rfl ?_ ?_
   rotate_left
   · intro w hSw;(try dsimp only at hSw);go_simp;try with_reducible rfl
   (try simp only [Act.put,pa,pb,pc,pd,pe,pf])
   refine tkI (i:=1) (v:=?_) rfl ?_ ?_
   rotate_left
   · intro w hSw;(try dsimp only at hSw);go_simp;try with_reducible rfl
   (try simp only [Act.put,pa,pb,pc,pd,pe,pf])
   refine tkI (i:=2) (v:=?_) rfl ?_ ?_
   rotate_left
   · intro w hSw;(try dsimp only at hSw);go_simp;try with_reducible rfl
   (try simp only [Act.put,pa,pb,pc,pd,pe,pf])
   refine tkI (i:=3) (v:=?_) rfl ?_ ?_
   rotate_left
   · intro w hSw;(try dsimp only at hSw);go_simp;try with_reducible rfl
   (try simp only [Act.put,pa,pb,pc,pd,pe,pf])
   refine tkI (i:=4) (v:=?_) rfl ?_ ?_
   rotate_left
   · intro w hSw;(try dsimp only at hSw);go_simp;try with_reducible rfl
   (try simp only [Act.put,pa,pb,pc,pd,pe,pf])
   refine tkI (i:=5) (v:=?_) rfl ?_ ?_
   rotate_left
   · intro w hSw;(try dsimp only at hSw);go_simp;try with_reducible rfl
   (try simp only [Act.put,pa,pb,pc,pd,pe,pf])
   refine tkI (i:=6) (v:=?_) rfl ?_ ?_
   rotate_left
   · intro w hSw;(try dsimp only at hSw);go_simp;try with_reducible rfl
   (try simp only [Act.put,pa,pb,pc,pd,pe,pf])
   refine tkI (i:=7) (v:=?_) rfl ?_ ?_
   rotate_left
   · intro w hSw;(try dsimp only at hSw);go_simp;try with_reducible rfl
   (try simp only [Act.put,pa,pb,pc,pd,pe,pf])
   refine tkI (i:=8) (v:=?_) rfl ?_ ?_
   rotate_left
   · intro w hSw;(try dsimp only at hSw);go_simp;try with_reducible rfl
   (try simp only [Act.put,pa,pb,pc,pd,pe,pf])
   refine tkI (i:=9) (v:=?_) rfl ?_ ?_
   rotate_left
   · intro w hSw;(try dsimp only at hSw);go_simp;try with_reducible rfl
   (try simp only [Act.put,pa,pb,pc,pd,pe,pf])
   refine tkI (i:=10) (v:=?_) rfl ?_ ?_
   rotate_left
   · intro w hSw;(try dsimp only at hSw);go_simp;try with_reducible rfl
   (try simp only [Act.put,pa,pb,pc,pd,pe,pf])
   refine tkI (i:=11) (v:=?_) rfl ?_ ?_
   rotate_left
   · intro w hSw;(try dsimp only at hSw);go_simp;try with_reducible rfl
   (try simp only [Act.put,pa,pb,pc,pd,pe,pf])
   refine tkI (i:=12) (v:=?_) rfl ?_ ?_
   rotate_left
   · intro w hSw;(try dsimp only at hSw);go_simp;try with_reducible rfl
   (try simp only [Act.put,pa,pb,pc,pd,pe,pf])
   refine wpAnyH_done (by kernel_rfl) ?_ _
   go_upto_region 16 with (fail)
   have HT:=Lib.hid (show opE nd.op ([v,u].map Vc.x)=.ok (truthV (eqV v.x u.x)) by
    rw [HA.out]
    unfold equalW
    rw [if_neg HC.out]
    first | rfl | simp | (cases eqV v.x u.x <;> rfl))
   have q0:=hHeld.2.1
   have q1:=hHeld.2.2.1
   have q2:=hHeld.2.2.2.1
   have q3:=hHeld.2.2.2.2.1
   have q4:=hHeld.2.2.2.2.2.1
   have q5:=hHeld.2.2.2.2.2.2.1
   have q6:=hHeld.2.2.2.2.2.2.2.1
   have q7:=hHeld.2.2.2.2.2.2.2.2.1
   have q8:=hHeld.2.2.2.2.2.2.2.2.2
   clear hHeld hkk hkn
   obtain ⟨W4,hW4⟩:∃ W4,W4=W.drew:=⟨_,rfl⟩
   have HBW4:=Lib.hid (show Below w.heap.size w W4 by rw [hW4];exact HB4.out.trans ((Below.refl W.heap.size W).drew.mono HB4.out.size))
   have HW4:=Lib.hid (show Below W.heap.size W W4 by rw [hW4];exact (Below.refl _ _).drew)
   have G24':=Lib.hid (show W4.heap[w.heap.size+2]?=some boxZ by rw [hW4];exact G2.out)
   rw [← hW4] at q0 q1 q2 q3 q4 q5 q6 q7 q8 ⊢
   clear G2 hW4
   have G2:=G24'
   refine wp_region_held_drew (S:=(fun w'=>Below w.heap.size w w'∧w'.cell? ⟨w.heap.size,0,none⟩=some (.int .i64 11)∧w'.cell? ⟨lb,0,none⟩=some (.int .i64 v.x.k)∧w'.cell? ⟨lb,1,none⟩=some (.int .i64 v.x.n)∧w'.cell? ⟨lb,2,none⟩=some (.string v.x.t)∧w'.cell? ⟨lb,3,none⟩=some (.slice v.a v.l v.c)∧w'.cell? ⟨lb,4,none⟩=some (.int .i64 u.x.k)∧w'.cell? ⟨lb,5,none⟩=some (.int .i64 u.x.n)∧w'.cell? ⟨lb,6,none⟩=some (.string u.x.t)∧w'.cell? ⟨lb,7,none⟩=some (.slice u.a u.l u.c))) (by kernel_rfl) ⟨HBW4.out.trans ((Below.refl W4.heap.size W4).drew.mono HBW4.out.size),q0,q1,q2,q3,q4,q5,q6,q7,q8⟩ (fun hHeld=>?_)
   clear q0 q1 q2 q3 q4 q5 q6 q7 q8
   obtain ⟨wd,hwd⟩:∃ wd,wd=W4.drew:=⟨_,rfl⟩
   have G2D:=Lib.hid (show wd.heap[w.heap.size+2]?=some boxZ by rw [hwd];exact G2.out)
   have HBD:=Lib.hid (show Below W4.heap.size W4 wd by rw [hwd];exact (Below.refl _ _).drew)
   rw [← hwd] at hHeld ⊢
   clear hwd
   refine tkI (i:=0) (v:=?_) rfl ?_ ?_
   rotate_left
   · intro w hSw;(try dsimp only at hSw);go_simp;try with_reducible rfl
   (try simp only [Act.put,pa,pb,pc,pd,pe,pf])
   refine tkI (i:=1) (v:=?_) rfl ?_ ?_
   rotate_left
   · intro w hSw;(try dsimp only at hSw);go_simp;try with_reducible rfl
   (try simp only [Act.put,pa,pb,pc,pd,pe,pf])
   refine tkI (i:=2) (v:=?_) rfl ?_ ?_
   rotate_left
   · intro w hSw;(try dsimp only at hSw);go_simp;try with_reducible rfl
   (try simp only [Act.put,pa,pb,pc,pd,pe,pf])
   refine tkI (i:=3) (v:=?_) rfl ?_ ?_
   rotate_left
   · intro w hSw;(try dsimp only at hSw);go_simp;try with_reducible rfl
   (try simp only [Act.put,pa,pb,pc,pd,pe,pf])
   refine tkI (i:=4) (v:=?_) rfl ?_ ?_
   rotate_left
   · intro w hSw;(try dsimp only at hSw);go_simp;try with_reducible rfl
   (try simp only [Act.put,pa,pb,pc,pd,pe,pf])
   refine tkI (i:=5) (v:=?_) rfl ?_ ?_
   rotate_left
   · intro w hSw;(try dsimp only at hSw);go_simp;try with_reducible rfl
   (try simp only [Act.put,pa,pb,pc,pd,pe,pf])
   refine tkI (i:=7) (v:=?_) rfl ?_ ?_
   rotate_left
   · intro w hSw;(try dsimp only at hSw);go_simp;try with_reducible rfl
   (try simp only [Act.put,pa,pb,pc,pd,pe,pf])
   refine tkI (i:=8) (v:=?_) rfl ?_ ?_
   rotate_left
   · intro w hSw;(try dsimp only at hSw);go_simp;try with_reducible rfl
   (try simp only [Act.put,pa,pb,pc,pd,pe,pf])
   refine tkI (i:=9) (v:=?_) rfl ?_ ?_
   rotate_left
   · intro w hSw;(try dsimp only at hSw);go_simp;try with_reducible rfl
   (try simp only [Act.put,pa,pb,pc,pd,pe,pf])
   refine wpAnyH_ready (rs:=[6]) (by kernel_rfl) (by simp) ?_
   refine AllReadyH.cons (o:=_) rfl (fun K hK=>?_) AllReadyH.nil
   go_simp
   refine (refequal_any wd v.x v.a v.l v.c (HRX.out.below (HW4.out.trans (HBD.out.mono HW4.out.size))) u.x u.a u.l u.c (HRY.out.below (HW4.out.trans (HBD.out.mono HW4.out.size)))).mono ?_
   rintro e y1 ⟨rfl,hb⟩
   have HWD:=Lib.hid (show w.heap.size≤wd.heap.size from hHeld.1.size)
   have G24:=Lib.hid ((hb.block _ (Array.getElem?_eq_some_iff.1 G2D.out).1).trans G2D.out)
   refine hK.out _ _ ⟨hHeld.1.trans (hb.mono hHeld.1.size),keepb hb hHeld.2.1,keepb hb hHeld.2.2.1,keepb hb hHeld.2.2.2.1,keepb hb hHeld.2.2.2.2.1,keepb hb hHeld.2.2.2.2.2.1,keepb hb hHeld.2.2.2.2.2.2.1,keepb hb hHeld.2.2.2.2.2.2.2.1,keepb hb hHeld.2.2.2.2.2.2.2.2.1,keepb hb hHeld.2.2.2.2.2.2.2.2.2⟩ (fun hHeld=>?_)
   clear hK K hb
   (try simp only [Act.put,pa,pb,pc,pd,pe,pf])
   refine tkI (i:=10) (v:=?_) rfl ?_ ?_
   rotate_left
   · intro w hSw;(try dsimp only at hSw);go_simp;try with_reducible rfl
   (try simp only [Act.put,pa,pb,pc,pd,pe,pf])
   refine wpAnyH_ready (rs:=[11]) (by kernel_rfl) (by simp) ?_
   refine AllReadyH.cons (o:=_) rfl (fun K hK=>?_) AllReadyH.nil
   go_simp
   refine (boolean_any y1 _).mono ?_
   rintro e y2 ⟨rfl,hb⟩
   have G25:=Lib.hid ((hb.block _ (Array.getElem?_eq_some_iff.1 G24.out).1).trans G24.out)
   refine hK.out _ _ ⟨hHeld.1.trans (hb.mono hHeld.1.size),keepb hb hHeld.2.1,keepb hb hHeld.2.2.1,keepb hb hHeld.2.2.2.1,keepb hb hHeld.2.2.2.2.1,keepb hb hHeld.2.2.2.2.2.1,keepb hb hHeld.2.2.2.2.2.2.1,keepb hb hHeld.2.2.2.2.2.2.2.1,keepb hb hHeld.2.2.2.2.2.2.2.2.1,keepb hb hHeld.2.2.2.2.2.2.2.2.2⟩ (fun hHeld=>?_)
   clear hK K hb G24
   (try simp only [Act.put,pa,pb,pc,pd,pe,pf])
   have G24:=G25
   obtain ⟨d0,d1,d2,d3,f0,f1,f2,f3⟩:=box4 G24.out
   have hne0:w.heap.size ≠ w.heap.size+2:=by omega
   have hnel:lb ≠ w.heap.size+2:=HLB.out
   refine wpAnyH_ready (rs:=[12]) (by kernel_rfl) (by simp) ?_
   refine AllReadyH.cons (o:=_) rfl (fun K hK=>?_) AllReadyH.nil
   go_simp
   refine hK.out _ _ ⟨below_box (by omega) hHeld.1 _ _ _ _,keepo hHeld.2.1 hne0,keepo hHeld.2.2.1 hnel,keepo hHeld.2.2.2.1 hnel,keepo hHeld.2.2.2.2.1 hnel,keepo hHeld.2.2.2.2.2.1 hnel,keepo hHeld.2.2.2.2.2.2.1 hnel,keepo hHeld.2.2.2.2.2.2.2.1 hnel,keepo hHeld.2.2.2.2.2.2.2.2.1 hnel,keepo hHeld.2.2.2.2.2.2.2.2.2 hnel⟩ (fun hHeld=>?_)
   clear hK K d0 d1 d2 d3 f0 f1 f2 f3
   (try simp only [Act.put,pa,pb,pc,pd,pe,pf])
   refine tkI (i:=13) (v:=?_) rfl ?_ ?_
   rotate_left
   · intro w hSw;(try dsimp only at hSw);go_simp;try with_reducible rfl
   (try simp only [Act.put,pa,pb,pc,pd,pe,pf])
   refine wpAnyH_done (by kernel_rfl) ?_ _
   go_wp2_with fail
   refine bodyPost_ret (res2c Tryz.results63 _ _ (w.heap.size+2) _ _ _ _ _ (heap_box G24.out _ _ _ _) rfl rfl) rfl ?_
   exact ⟨.ok (z:=truthV _) rfl ⟨none,0,0,rfl,.inl (rz_nil1 w0)⟩ HT.out,hHeld.1⟩
theorem op_eq12true (w0 w W:World) (B:Nat) (nd:Nd) (la ba:Option Addr) (lc bc:Nat) (v u:Vc) (hs:OpSt w W B nd 2 la ba lc bc [v,u]) (hw0:w0.heap.size≤w.heap.size) (hBw:w.heap.size+3≤B) (hop:nd.op=12) (h0:((v.x.k == 0) || (u.x.k == 0))=true) (R:Wr) (hR:R=opE nd.op ([v,u].map Vc.x)) (u0 u1 u2 u3 u5 u11 u12 u13 u14 u15 u16 u17 u18 u19 u20 u21 u22 u23 u24 u25 u26 u27 u28 u29 u30 u31 u32 u33 u34 u35 u36 u37 u38 u39 u40 u41 u42 u43 u44 u45 u46 u47 u48 u49 u50 u51 u52 u53 u54 u55 u56 u57 u58 u59 u60 u61 u62 u63 u64 u65 u66 u67 u68 u69 u70 u71 u72 u73 u74 u75 u76 u77 u78 u79 u80 u81 u82 u83 u84 u85 u86 u87 u88 u89 u90 u91 u92 u93 u94 u95 u96 u97 u98 u99 u100 u101 u102 u103 u104 u105 u106 u107 u108 u109 u110 u111 u112 u113 u114 u115 u116 u117 u118 u119 u120 u121 u122 u123 u124 u125 u126 u127 u128 u129 u130 u131 u132 u133 u134 u135 u136 u137:Value) (KK K2:Act→World→Prop) (hKK:∀ a' w',Code.wp Tryz.prog op5b (Exit.then K2 (bodyPost Tryz.prog Tryz.f63 fun e w'=>TogOut w0 w e w' R∧Below w.heap.size w w')) a' w'→KK a' w') (hK2:∀ a' w',Code.wp Tryz.prog op5c (bodyPost Tryz.prog Tryz.f63 fun e w'=>TogOut w0 w e w' R∧Below w.heap.size w w') a' w'→K2 a' w') :
 Code.wp Tryz.prog op5a (Exit.then KK (Exit.then K2 (bodyPost Tryz.prog Tryz.f63 fun e w'=>TogOut w0 w e w' R∧Below w.heap.size w w'))) ⟨#[u0,u1,u2,u3,.pointer (some ⟨w.heap.size,0,none⟩),u5,.pointer (some ⟨w.heap.size+2,0,none⟩),.int .i64 0,.slice la 2 lc,.bool true,.slice ba 2 bc,u11,u12,u13,u14,u15,u16,u17,u18,u19,u20,u21,u22,u23,u24,u25,u26,u27,u28,u29,u30,u31,u32,u33,u34,u35,u36,u37,u38,u39,u40,u41,u42,u43,u44,u45,u46,u47,u48,u49,u50,u51,u52,u53,u54,u55,u56,u57,u58,u59,u60,u61,u62,u63,u64,u65,u66,u67,u68,u69,u70,u71,u72,u73,u74,u75,u76,u77,u78,u79,u80,u81,u82,u83,u84,u85,u86,u87,u88,u89,u90,u91,u92,u93,u94,u95,u96,u97,u98,u99,u100,u101,u102,u103,u104,u105,u106,u107,u108,u109,u110,u111,u112,u113,u114,u115,u116,u117,u118,u119,u120,u121,u122,u123,u124,u125,u126,u127,u128,u129,u130,u131,u132,u133,u134,u135,u136,u137],[]⟩ W:=by
 subst hR
 have HS:=Lib.hid hs
 have q0:=cell_of_row _ _ 0 _ _ _ hs.g0
 simp only [nodeV,List.getElem?_toArray,List.getElem?_cons_zero,List.getElem?_cons_succ] at q0
 have zW:=hs.b.size
 have zg:w.heap.size+2 < W.heap.size:=(Array.getElem?_eq_some_iff.1 hs.g2).1
 rw [hop] at q0
 obtain ⟨lb,rfl⟩:=own_some hs.l (by omega)
 have q1:=own_at Vc_len hs.l (k:=0) (x:=v) rfl 0 _ rfl
 have q2:=own_at Vc_len hs.l (k:=0) (x:=v) rfl 1 _ rfl
 have q3:=own_at Vc_len hs.l (k:=0) (x:=v) rfl 2 _ rfl
 have q4:=own_at Vc_len hs.l (k:=0) (x:=v) rfl 3 _ rfl
 have q5:=own_at Vc_len hs.l (k:=1) (x:=u) rfl 0 _ rfl
 have q6:=own_at Vc_len hs.l (k:=1) (x:=u) rfl 1 _ rfl
 have q7:=own_at Vc_len hs.l (k:=1) (x:=u) rfl 2 _ rfl
 have q8:=own_at Vc_len hs.l (k:=1) (x:=u) rfl 3 _ rfl
 have hlb:lb < W.heap.size:=block_lt_of_cell q1
 simp only [Nat.zero_mul,Nat.one_mul,Nat.add_zero,Nat.zero_add,Nat.reduceAdd] at q1 q2 q3 q4 q5 q6 q7 q8
 have HLB:=Lib.hid (show lb ≠ w.heap.size+2 by
  have h:=(hs.l.lt lb rfl).1
  omega)
 have HA:=Lib.hid (show opE nd.op ([v,u].map Vc.x)=equalW 12 v.x u.x by
  unfold opE
  rw [hop]
  simp)
 have HRX:=Lib.hid (hs.v v (by simp)).rs
 have HRY:=Lib.hid (hs.v u (by simp)).rs
 have HB4:=Lib.hid hs.b
 have G2:=Lib.hid hs.g2
 have HC:=Lib.hid (show ¬ (v.x.k ≠ u.x.k∧v.x.k ≠ 0∧u.x.k ≠ 0) by
  intro h
  simp at h0
  omega)
 clear hs hop h0
 conv=>arg 2;whnf
 go_wp2_with fail
 conv=>arg 2;whnf
 go_wp2_with fail
 refine wp_region_held_drew (S:=(fun w'=>Below w.heap.size w w'∧w'.cell? ⟨w.heap.size,0,none⟩=some (.int .i64 12)∧w'.cell? ⟨lb,0,none⟩=some (.int .i64 v.x.k)∧w'.cell? ⟨lb,1,none⟩=some (.int .i64 v.x.n)∧w'.cell? ⟨lb,2,none⟩=some (.string v.x.t)∧w'.cell? ⟨lb,3,none⟩=some (.slice v.a v.l v.c)∧w'.cell? ⟨lb,4,none⟩=some (.int .i64 u.x.k)∧w'.cell? ⟨lb,5,none⟩=some (.int .i64 u.x.n)∧w'.cell? ⟨lb,6,none⟩=some (.string u.x.t)∧w'.cell? ⟨lb,7,none⟩=some (.slice u.a u.l u.c))) (by kernel_rfl) ⟨HB4.out.trans ((Below.refl W.heap.size W).drew.mono HB4.out.size),q0,q1,q2,q3,q4,q5,q6,q7,q8⟩ (fun hHeld=>?_)
 clear q0 q1 q2 q3 q4 q5 q6 q7 q8
 refine tkI (i:=0) (v:=?_) rfl ?_ ?_
 rotate_left
 · intro w hSw;(try dsimp only at hSw);go_simp;try with_reducible rfl
 (try simp only [Act.put,pa,pb,pc,pd,pe,pf])
 refine tkI (i:=1) (v:=?_) rfl ?_ ?_
 rotate_left
 · intro w hSw;(try dsimp only at hSw);go_simp;try with_reducible rfl
 (try simp only [Act.put,pa,pb,pc,pd,pe,pf])
 refine tkI (i:=2) (v:=?_) rfl ?_ ?_
 rotate_left
 · intro w hSw;(try dsimp only at hSw);go_simp;try with_reducible rfl
 (try simp only [Act.put,pa,pb,pc,pd,pe,pf])
 refine tkH (i:=3) (v:=undef) rfl (.inr ⟨by rfl,rfl⟩) ?_
 (try simp only [Act.put,pa,pb,pc,pd,pe,pf])
 refine tkH (i:=4) (v:=undef) rfl (.inr ⟨by rfl,rfl⟩) ?_
 (try simp only [Act.put,pa,pb,pc,pd,pe,pf])
 refine tkH (i:=5) (v:=undef) rfl (.inr ⟨by rfl,rfl⟩) ?_
 (try simp only [Act.put,pa,pb,pc,pd,pe,pf])
 refine tkH (i:=6) (v:=undef) rfl (.inr ⟨by rfl,rfl⟩) ?_
 (try simp only [Act.put,pa,pb,pc,pd,pe,pf])
 refine tkH (i:=7) (v:=undef) rfl (.inr ⟨by rfl,rfl⟩) ?_
 (try simp only [Act.put,pa,pb,pc,pd,pe,pf])
 refine tkH (i:=8) (v:=undef) rfl (.inr ⟨by rfl,rfl⟩) ?_
 (try simp only [Act.put,pa,pb,pc,pd,pe,pf])
 refine tkH (i:=9) (v:=undef) rfl (.inr ⟨by rfl,rfl⟩) ?_
 (try simp only [Act.put,pa,pb,pc,pd,pe,pf])
 refine tkH (i:=10) (v:=undef) rfl (.inr ⟨by rfl,rfl⟩) ?_
 (try simp only [Act.put,pa,pb,pc,pd,pe,pf])
 refine tkH (i:=11) (v:=undef) rfl (.inr ⟨by rfl,rfl⟩) ?_
 (try simp only [Act.put,pa,pb,pc,pd,pe,pf])
 refine tkI (i:=12) (v:=?_) rfl ?_ ?_
 rotate_left
 · intro w hSw;(try dsimp only at hSw);go_simp;try with_reducible rfl
 (try simp only [Act.put,pa,pb,pc,pd,pe,pf])
 refine wpAnyH_done (by kernel_rfl) ?_ _
 go_upto_region 16 with (fail)
 have HT:=Lib.hid (show opE nd.op ([v,u].map Vc.x)=.ok (truthV (!eqV v.x u.x)) by
  rw [HA.out]
  unfold equalW
  rw [if_neg HC.out]
  first | rfl | simp | (cases eqV v.x u.x <;> rfl))
 have q0:=hHeld.2.1
 have q1:=hHeld.2.2.1
 have q2:=hHeld.2.2.2.1
 have q3:=hHeld.2.2.2.2.1
 have q4:=hHeld.2.2.2.2.2.1
 have q5:=hHeld.2.2.2.2.2.2.1
 have q6:=hHeld.2.2.2.2.2.2.2.1
 have q7:=hHeld.2.2.2.2.2.2.2.2.1
 have q8:=hHeld.2.2.2.2.2.2.2.2.2
 clear hHeld
 obtain ⟨W4,hW4⟩:∃ W4,W4=W.drew:=⟨_,rfl⟩
 have HBW4:=Lib.hid (show Below w.heap.size w W4 by rw [hW4];exact HB4.out.trans ((Below.refl W.heap.size W).drew.mono HB4.out.size))
 have HW4:=Lib.hid (show Below W.heap.size W W4 by rw [hW4];exact (Below.refl _ _).drew)
 have G24':=Lib.hid (show W4.heap[w.heap.size+2]?=some boxZ by rw [hW4];exact G2.out)
 rw [← hW4] at q0 q1 q2 q3 q4 q5 q6 q7 q8 ⊢
 clear G2 hW4
 have G2:=G24'
 refine wp_region_held_drew (S:=(fun w'=>Below w.heap.size w w'∧w'.cell? ⟨w.heap.size,0,none⟩=some (.int .i64 12)∧w'.cell? ⟨lb,0,none⟩=some (.int .i64 v.x.k)∧w'.cell? ⟨lb,1,none⟩=some (.int .i64 v.x.n)∧w'.cell? ⟨lb,2,none⟩=some (.string v.x.t)∧w'.cell? ⟨lb,3,none⟩=some (.slice v.a v.l v.c)∧w'.cell? ⟨lb,4,none⟩=some (.int .i64 u.x.k)∧w'.cell? ⟨lb,5,none⟩=some (.int .i64 u.x.n)∧w'.cell? ⟨lb,6,none⟩=some (.string u.x.t)∧w'.cell? ⟨lb,7,none⟩=some (.slice u.a u.l u.c))) (by kernel_rfl) ⟨HBW4.out.trans ((Below.refl W4.heap.size W4).drew.mono HBW4.out.size),q0,q1,q2,q3,q4,q5,q6,q7,q8⟩ (fun hHeld=>?_)
 clear q0 q1 q2 q3 q4 q5 q6 q7 q8
 obtain ⟨wd,hwd⟩:∃ wd,wd=W4.drew:=⟨_,rfl⟩
 have G2D:=Lib.hid (show wd.heap[w.heap.size+2]?=some boxZ by rw [hwd];exact G2.out)
 have HBD:=Lib.hid (show Below W4.heap.size W4 wd by rw [hwd];exact (Below.refl _ _).drew)
 rw [← hwd] at hHeld ⊢
 clear hwd
 refine tkI (i:=0) (v:=?_) rfl ?_ ?_
 rotate_left
 · intro w hSw;(try dsimp only at hSw);go_simp;try with_reducible rfl
 (try simp only [Act.put,pa,pb,pc,pd,pe,pf])
 refine tkI (i:=1) (v:=?_) rfl ?_ ?_
 rotate_left
 · intro w hSw;(try dsimp only at hSw);go_simp;try with_reducible rfl
 (try simp only [Act.put,pa,pb,pc,pd,pe,pf])
 refine tkI (i:=2) (v:=?_) rfl ?_ ?_
 rotate_left
 · intro w hSw;(try dsimp only at hSw);go_simp;try with_reducible rfl
 (try simp only [Act.put,pa,pb,pc,pd,pe,pf])
 refine tkI (i:=3) (v:=?_) rfl ?_ ?_
 rotate_left
 · intro w hSw;(try dsimp only at hSw);go_simp;try with_reducible rfl
 (try simp only [Act.put,pa,pb,pc,pd,pe,pf])
 refine tkI (i:=4) (v:=?_) rfl ?_ ?_
 rotate_left
 · intro w hSw;(try dsimp only at hSw);go_simp;try with_reducible rfl
 (try simp only [Act.put,pa,pb,pc,pd,pe,pf])
 refine tkI (i:=5) (v:=?_) rfl ?_ ?_
 rotate_left
 · intro w hSw;(try dsimp only at hSw);go_simp;try with_reducible rfl
 (try simp only [Act.put,pa,pb,pc,pd,pe,pf])
 refine tkI (i:=7) (v:=?_) rfl ?_ ?_
 rotate_left
 · intro w hSw;(try dsimp only at hSw);go_simp;try with_reducible rfl
 (try simp only [Act.put,pa,pb,pc,pd,pe,pf])
 refine tkI (i:=8) (v:=?_) rfl ?_ ?_
 rotate_left
 · intro w hSw;(try dsimp only at hSw);go_simp;try with_reducible rfl
 (try simp only [Act.put,pa,pb,pc,pd,pe,pf])
 refine tkI (i:=9) (v:=?_) rfl ?_ ?_
 rotate_left
 · intro w hSw;(try dsimp only at hSw);go_simp;try with_reducible rfl
 (try simp only [Act.put,pa,pb,pc,pd,pe,pf])
 refine wpAnyH_ready (rs:=[6]) (by kernel_rfl) (by simp) ?_
 refine AllReadyH.cons (o:=_) rfl (fun K hK=>?_) AllReadyH.nil
 go_simp
 refine (refequal_any wd v.x v.a v.l v.c (HRX.out.below (HW4.out.trans (HBD.out.mono HW4.out.size))) u.x u.a u.l u.c (HRY.out.below (HW4.out.trans (HBD.out.mono HW4.out.size)))).mono ?_
 rintro e y1 ⟨rfl,hb⟩
 have HWD:=Lib.hid (show w.heap.size≤wd.heap.size from hHeld.1.size)
 have G24:=Lib.hid ((hb.block _ (Array.getElem?_eq_some_iff.1 G2D.out).1).trans G2D.out)
 refine hK.out _ _ ⟨hHeld.1.trans (hb.mono hHeld.1.size),keepb hb hHeld.2.1,keepb hb hHeld.2.2.1,keepb hb hHeld.2.2.2.1,keepb hb hHeld.2.2.2.2.1,keepb hb hHeld.2.2.2.2.2.1,keepb hb hHeld.2.2.2.2.2.2.1,keepb hb hHeld.2.2.2.2.2.2.2.1,keepb hb hHeld.2.2.2.2.2.2.2.2.1,keepb hb hHeld.2.2.2.2.2.2.2.2.2⟩ (fun hHeld=>?_)
 clear hK K hb
 (try simp only [Act.put,pa,pb,pc,pd,pe,pf])
 refine tkI (i:=10) (v:=?_) rfl ?_ ?_
 rotate_left
 · intro w hSw;(try dsimp only at hSw);go_simp;try with_reducible rfl
 (try simp only [Act.put,pa,pb,pc,pd,pe,pf])
 refine wpAnyH_ready (rs:=[11]) (by kernel_rfl) (by simp) ?_
 refine AllReadyH.cons (o:=_) rfl (fun K hK=>?_) AllReadyH.nil
 go_simp
 refine (boolean_any y1 _).mono ?_
 rintro e y2 ⟨rfl,hb⟩
 have G25:=Lib.hid ((hb.block _ (Array.getElem?_eq_some_iff.1 G24.out).1).trans G24.out)
 refine hK.out _ _ ⟨hHeld.1.trans (hb.mono hHeld.1.size),keepb hb hHeld.2.1,keepb hb hHeld.2.2.1,keepb hb hHeld.2.2.2.1,keepb hb hHeld.2.2.2.2.1,keepb hb hHeld.2.2.2.2.2.1,keepb hb hHeld.2.2.2.2.2.2.1,keepb hb hHeld.2.2.2.2.2.2.2.1,keepb hb hHeld.2.2.2.2.2.2.2.2.1,keepb hb hHeld.2.2.2.2.2.2.2.2.2⟩ (fun hHeld=>?_)
 clear hK K hb G24
 (try simp only [Act.put,pa,pb,pc,pd,pe,pf])
 have G24:=G25
 obtain ⟨d0,d1,d2,d3,f0,f1,f2,f3⟩:=box4 G24.out
 have hne0:w.heap.size ≠ w.heap.size+2:=by omega
 have hnel:lb ≠ w.heap.size+2:=HLB.out
 refine wpAnyH_ready (rs:=[12]) (by kernel_rfl) (by simp) ?_
 refine AllReadyH.cons (o:=_) rfl (fun K hK=>?_) AllReadyH.nil
 go_simp
 refine hK.out _ _ ⟨below_box (by omega) hHeld.1 _ _ _ _,keepo hHeld.2.1 hne0,keepo hHeld.2.2.1 hnel,keepo hHeld.2.2.2.1 hnel,keepo hHeld.2.2.2.2.1 hnel,keepo hHeld.2.2.2.2.2.1 hnel,keepo hHeld.2.2.2.2.2.2.1 hnel,keepo hHeld.2.2.2.2.2.2.2.1 hnel,keepo hHeld.2.2.2.2.2.2.2.2.1 hnel,keepo hHeld.2.2.2.2.2.2.2.2.2 hnel⟩ (fun hHeld=>?_)
 clear hK K d0 d1 d2 d3 f0 f1 f2 f3
 (try simp only [Act.put,pa,pb,pc,pd,pe,pf])
 refine tkI (i:=13) (v:=?_) rfl ?_ ?_
 rotate_left
 · intro w hSw;(try dsimp only at hSw);go_simp;try with_reducible rfl
 (try simp only [Act.put,pa,pb,pc,pd,pe,pf])
 refine wpAnyH_done (by kernel_rfl) ?_ _
 go_wp2_with fail
 refine bodyPost_ret (res2c Tryz.results63 _ _ (w.heap.size+2) _ _ _ _ _ (heap_box G24.out _ _ _ _) rfl rfl) rfl ?_
 exact ⟨.ok (z:=truthV _) rfl ⟨none,0,0,rfl,.inl (rz_nil1 w0)⟩ HT.out,hHeld.1⟩
theorem op_eq12false (w0 w W:World) (B:Nat) (nd:Nd) (la ba:Option Addr) (lc bc:Nat) (v u:Vc) (hs:OpSt w W B nd 2 la ba lc bc [v,u]) (hw0:w0.heap.size≤w.heap.size) (hBw:w.heap.size+3≤B) (hop:nd.op=12) (h0:((v.x.k == 0) || (u.x.k == 0))=false) (R:Wr) (hR:R=opE nd.op ([v,u].map Vc.x)) (u0 u1 u2 u3 u5 u11 u12 u13 u14 u15 u16 u17 u18 u19 u20 u21 u22 u23 u24 u25 u26 u27 u28 u29 u30 u31 u32 u33 u34 u35 u36 u37 u38 u39 u40 u41 u42 u43 u44 u45 u46 u47 u48 u49 u50 u51 u52 u53 u54 u55 u56 u57 u58 u59 u60 u61 u62 u63 u64 u65 u66 u67 u68 u69 u70 u71 u72 u73 u74 u75 u76 u77 u78 u79 u80 u81 u82 u83 u84 u85 u86 u87 u88 u89 u90 u91 u92 u93 u94 u95 u96 u97 u98 u99 u100 u101 u102 u103 u104 u105 u106 u107 u108 u109 u110 u111 u112 u113 u114 u115 u116 u117 u118 u119 u120 u121 u122 u123 u124 u125 u126 u127 u128 u129 u130 u131 u132 u133 u134 u135 u136 u137:Value) (KK K2:Act→World→Prop) (hKK:∀ a' w',Code.wp Tryz.prog op5b (Exit.then K2 (bodyPost Tryz.prog Tryz.f63 fun e w'=>TogOut w0 w e w' R∧Below w.heap.size w w')) a' w'→KK a' w') (hK2:∀ a' w',Code.wp Tryz.prog op5c (bodyPost Tryz.prog Tryz.f63 fun e w'=>TogOut w0 w e w' R∧Below w.heap.size w w') a' w'→K2 a' w') :
 Code.wp Tryz.prog op5a (Exit.then KK (Exit.then K2 (bodyPost Tryz.prog Tryz.f63 fun e w'=>TogOut w0 w e w' R∧Below w.heap.size w w'))) ⟨#[u0,u1,u2,u3,.pointer (some ⟨w.heap.size,0,none⟩),u5,.pointer (some ⟨w.heap.size+2,0,none⟩),.int .i64 0,.slice la 2 lc,.bool false,.slice ba 2 bc,u11,u12,u13,u14,u15,u16,u17,u18,u19,u20,u21,u22,u23,u24,u25,u26,u27,u28,u29,u30,u31,u32,u33,u34,u35,u36,u37,u38,u39,u40,u41,u42,u43,u44,u45,u46,u47,u48,u49,u50,u51,u52,u53,u54,u55,u56,u57,u58,u59,u60,u61,u62,u63,u64,u65,u66,u67,u68,u69,u70,u71,u72,u73,u74,u75,u76,u77,u78,u79,u80,u81,u82,u83,u84,u85,u86,u87,u88,u89,u90,u91,u92,u93,u94,u95,u96,u97,u98,u99,u100,u101,u102,u103,u104,u105,u106,u107,u108,u109,u110,u111,u112,u113,u114,u115,u116,u117,u118,u119,u120,u121,u122,u123,u124,u125,u126,u127,u128,u129,u130,u131,u132,u133,u134,u135,u136,u137],[]⟩ W:=by
 subst hR
 have HS:=Lib.hid hs
 have q0:=cell_of_row _ _ 0 _ _ _ hs.g0
 simp only [nodeV,List.getElem?_toArray,List.getElem?_cons_zero,List.getElem?_cons_succ] at q0
 have zW:=hs.b.size
 have zg:w.heap.size+2 < W.heap.size:=(Array.getElem?_eq_some_iff.1 hs.g2).1
 rw [hop] at q0
 obtain ⟨lb,rfl⟩:=own_some hs.l (by omega)
 have q1:=own_at Vc_len hs.l (k:=0) (x:=v) rfl 0 _ rfl
 have q2:=own_at Vc_len hs.l (k:=0) (x:=v) rfl 1 _ rfl
 have q3:=own_at Vc_len hs.l (k:=0) (x:=v) rfl 2 _ rfl
 have q4:=own_at Vc_len hs.l (k:=0) (x:=v) rfl 3 _ rfl
 have q5:=own_at Vc_len hs.l (k:=1) (x:=u) rfl 0 _ rfl
 have q6:=own_at Vc_len hs.l (k:=1) (x:=u) rfl 1 _ rfl
 have q7:=own_at Vc_len hs.l (k:=1) (x:=u) rfl 2 _ rfl
 have q8:=own_at Vc_len hs.l (k:=1) (x:=u) rfl 3 _ rfl
 have hlb:lb < W.heap.size:=block_lt_of_cell q1
 simp only [Nat.zero_mul,Nat.one_mul,Nat.add_zero,Nat.zero_add,Nat.reduceAdd] at q1 q2 q3 q4 q5 q6 q7 q8
 have HLB:=Lib.hid (show lb ≠ w.heap.size+2 by
  have h:=(hs.l.lt lb rfl).1
  omega)
 have HA:=Lib.hid (show opE nd.op ([v,u].map Vc.x)=equalW 12 v.x u.x by
  unfold opE
  rw [hop]
  simp)
 have HRX:=Lib.hid (hs.v v (by simp)).rs
 have HRY:=Lib.hid (hs.v u (by simp)).rs
 have HB4:=Lib.hid hs.b
 have G2:=Lib.hid hs.g2
 cases hkk:(v.x.k == u.x.k)
 · have hkn:(v.x.k != u.x.k)=true:=by simp [bne,hkk]
   have HT:=Lib.hid (show opE nd.op ([v,u].map Vc.x)=.error 100 by
    rw [HA.out]
    unfold equalW
    rw [if_pos (by simp at h0 hkk;exact ⟨hkk,h0.1,h0.2⟩)])
   clear hs hop h0
   conv=>arg 2;whnf
   go_wp2_with fail
   conv=>arg 2;whnf
   go_wp2_with fail
   refine wp_region_held_drew (S:=(fun w'=>Below w.heap.size w w'∧w'.cell? ⟨w.heap.size,0,none⟩=some (.int .i64 12)∧w'.cell? ⟨lb,0,none⟩=some (.int .i64 v.x.k)∧w'.cell? ⟨lb,1,none⟩=some (.int .i64 v.x.n)∧w'.cell? ⟨lb,2,none⟩=some (.string v.x.t)∧w'.cell? ⟨lb,3,none⟩=some (.slice v.a v.l v.c)∧w'.cell? ⟨lb,4,none⟩=some (.int .i64 u.x.k)∧w'.cell? ⟨lb,5,none⟩=some (.int .i64 u.x.n)∧w'.cell? ⟨lb,6,none⟩=some (.string u.x.t)∧w'.cell? ⟨lb,7,none⟩=some (.slice u.a u.l u.c))) (by kernel_rfl) ⟨HB4.out.trans ((Below.refl W.heap.size W).drew.mono HB4.out.size),q0,q1,q2,q3,q4,q5,q6,q7,q8⟩ (fun hHeld=>?_)
   clear q0 q1 q2 q3 q4 q5 q6 q7 q8
   refine tkI (i:=0) (v:=?_) rfl ?_ ?_
   rotate_left
   · intro w hSw;(try dsimp only at hSw);go_simp;try with_reducible rfl
   (try simp only [Act.put,pa,pb,pc,pd,pe,pf])
   refine tkI (i:=1) (v:=?_) rfl ?_ ?_
   rotate_left
   · intro w hSw;(try dsimp only at hSw);go_simp;try with_reducible rfl
   (try simp only [Act.put,pa,pb,pc,pd,pe,pf])
   refine tkI (i:=2) (v:=?_) rfl ?_ ?_
   rotate_left
   · intro w hSw;(try dsimp only at hSw);go_simp;try with_reducible rfl
   (try simp only [Act.put,pa,pb,pc,pd,pe,pf])
   refine tkI (i:=3) (v:=?_) rfl ?_ ?_
   rotate_left
   · intro w hSw;(try dsimp only at hSw);go_simp;try with_reducible rfl
   (try simp only [Act.put,pa,pb,pc,pd,pe,pf])
   refine tkI (i:=4) (v:=?_) rfl ?_ ?_
   rotate_left
   · intro w hSw;(try dsimp only at hSw);go_simp;try with_reducible rfl
   (try simp only [Act.put,pa,pb,pc,pd,pe,pf])
   refine tkI (i:=5) (v:=?_) rfl ?_ ?_
   rotate_left
   · intro w hSw;(try dsimp only at hSw);go_simp;try with_reducible rfl
   (try simp only [Act.put,pa,pb,pc,pd,pe,pf])
   refine tkI (i:=6) (v:=?_) rfl ?_ ?_
   rotate_left
   · intro w hSw;(try dsimp only at hSw);go_simp;try with_reducible rfl
   (try simp only [Act.put,pa,pb,pc,pd,pe,pf])
   refine tkI (i:=7) (v:=?_) rfl ?_ ?_
   rotate_left
   · intro w hSw;(try dsimp only at hSw);go_simp;try with_reducible rfl
   (try simp only [Act.put,pa,pb,pc,pd,pe,pf])
   refine tkI (i:=8) (v:=?_) rfl ?_ ?_
   rotate_left
   · intro w hSw;(try dsimp only at hSw);go_simp;try with_reducible rfl
   (try simp only [Act.put,pa,pb,pc,pd,pe,pf])
   refine tkI (i:=9) (v:=?_) rfl ?_ ?_
   rotate_left
   · intro w hSw;(try dsimp only at hSw);go_simp;try with_reducible rfl
   (try simp only [Act.put,pa,pb,pc,pd,pe,pf])
   refine tkI (i:=10) (v:=?_) rfl ?_ ?_
   rotate_left
   · intro w hSw;(try dsimp only at hSw);go_simp;try with_reducible rfl
   (try simp only [Act.put,pa,pb,pc,pd,pe,pf])
   refine tkI (i:=11) (v:=?_) rfl ?_ ?_
   rotate_left
   · intro w hSw;(try dsimp only at hSw);go_simp;try with_reducible rfl
   (try simp only [Act.put,pa,pb,pc,pd,pe,pf])
   refine tkI (i:=12) (v:=?_) rfl ?_ ?_
   rotate_left
   · intro w hSw;(try dsimp only at hSw);go_simp;try with_reducible rfl
   (try simp only [Act.put,pa,pb,pc,pd,pe,pf])
   refine wpAnyH_done (by kernel_rfl) ?_ _
   go_upto_region 15 with (fail)
   obtain ⟨W4,hW4⟩:∃ W4,W4=W.drew:=⟨_,rfl⟩
   have HBW4:=Lib.hid (show Below w.heap.size w W4 by rw [hW4];exact HB4.out.trans ((Below.refl W.heap.size W).drew.mono HB4.out.size))
   have HW4:=Lib.hid (show Below W.heap.size W W4 by rw [hW4];exact (Below.refl _ _).drew)
   have G24':=Lib.hid (show W4.heap[w.heap.size+2]?=some boxZ by rw [hW4];exact G2.out)
   rw [← hW4]
   clear G2 hW4
   have G2:=G24'
   obtain ⟨d0,d1,d2,d3,f0,f1,f2,f3⟩:=box4 G2.out
   go_wp2_with fail
   refine bodyPost_ret (res2c Tryz.results63 _ _ (w.heap.size+2) _ _ _ _ _ (heap_box G2.out _ _ _ _) rfl rfl) rfl ?_
   exact ⟨.err (z:=v0) (er:=100) rfl ⟨none,0,0,rfl,.inl (rz_nil1 w0)⟩ HT.out (by decide),below_box (by omega) HBW4.out _ _ _ _⟩
 · have hkn:(v.x.k != u.x.k)=false:=by simp [bne,hkk]
   have HC:=Lib.hid (show ¬ (v.x.k ≠ u.x.k∧v.x.k ≠ 0∧u.x.k ≠ 0) by
    intro h
    simp at hkk
    exact h.1 hkk)
   clear hs hop h0
   conv=>arg 2;whnf
   go_wp2_with fail
   conv=>arg 2;whnf
   go_wp2_with fail
   refine wp_region_held_drew (S:=(fun w'=>Below w.heap.size w w'∧w'.cell? ⟨w.heap.size,0,none⟩=some (.int .i64 12)∧w'.cell? ⟨lb,0,none⟩=some (.int .i64 v.x.k)∧w'.cell? ⟨lb,1,none⟩=some (.int .i64 v.x.n)∧w'.cell? ⟨lb,2,none⟩=some (.string v.x.t)∧w'.cell? ⟨lb,3,none⟩=some (.slice v.a v.l v.c)∧w'.cell? ⟨lb,4,none⟩=some (.int .i64 u.x.k)∧w'.cell? ⟨lb,5,none⟩=some (.int .i64 u.x.n)∧w'.cell? ⟨lb,6,none⟩=some (.string u.x.t)∧w'.cell? ⟨lb,7,none⟩=some (.slice u.a u.l u.c))) (by kernel_rfl) ⟨HB4.out.trans ((Below.refl W.heap.size W).drew.mono HB4.out.size),q0,q1,q2,q3,q4,q5,q6,q7,q8⟩ (fun hHeld=>?_)
   clear q0 q1 q2 q3 q4 q5 q6 q7 q8
   refine tkI (i:=0) (v:=?_) rfl ?_ ?_
   rotate_left
   · intro w hSw;(try dsimp only at hSw);go_simp;try with_reducible rfl
   (try simp only [Act.put,pa,pb,pc,pd,pe,pf])
   refine tkI (i:=1) (v:=?_) rfl ?_ ?_
   rotate_left
   · intro w hSw;(try dsimp only at hSw);go_simp;try with_reducible rfl
   (try simp only [Act.put,pa,pb,pc,pd,pe,pf])
   refine tkI (i:=2) (v:=?_) rfl ?_ ?_
   rotate_left
   · intro w hSw;(try dsimp only at hSw);go_simp;try with_reducible rfl
   (try simp only [Act.put,pa,pb,pc,pd,pe,pf])
   refine tkI (i:=3) (v:=?_) rfl ?_ ?_
   rotate_left
   · intro w hSw;(try dsimp only at hSw);go_simp;try with_reducible rfl
   (try simp only [Act.put,pa,pb,pc,pd,pe,pf])
   refine tkI (i:=4) (v:=?_) rfl ?_ ?_
   rotate_left
   · intro w hSw;(try dsimp only at hSw);go_simp;try with_reducible rfl
   (try simp only [Act.put,pa,pb,pc,pd,pe,pf])
   refine tkI (i:=5) (v:=?_) rfl ?_ ?_
   rotate_left
   · intro w hSw;(try dsimp only at hSw);go_simp;try with_reducible rfl
   (try simp only [Act.put,pa,pb,pc,pd,pe,pf])
   refine tkI (i:=6) (v:=?_) rfl ?_ ?_
   rotate_left
   · intro w hSw;(try dsimp only at hSw);go_simp;try with_reducible rfl
   (try simp only [Act.put,pa,pb,pc,pd,pe,pf])
   refine tkI (i:=7) (v:=?_) rfl ?_ ?_
   rotate_left
   · intro w hSw;(try dsimp only at hSw);go_simp;try with_reducible rfl
   (try simp only [Act.put,pa,pb,pc,pd,pe,pf])
   refine tkI (i:=8) (v:=?_) rfl ?_ ?_
   rotate_left
   · intro w hSw;(try dsimp only at hSw);go_simp;try with_reducible rfl
   (try simp only [Act.put,pa,pb,pc,pd,pe,pf])
   refine tkI (i:=9) (v:=?_) rfl ?_ ?_
   rotate_left
   · intro w hSw;(try dsimp only at hSw);go_simp;try with_reducible rfl
   (try simp only [Act.put,pa,pb,pc,pd,pe,pf])
   refine tkI (i:=10) (v:=?_) rfl ?_ ?_
   rotate_left
   · intro w hSw;(try dsimp only at hSw);go_simp;try with_reducible rfl
   (try simp only [Act.put,pa,pb,pc,pd,pe,pf])
   refine tkI (i:=11) (v:=?_) rfl ?_ ?_
   rotate_left
   · intro w hSw;(try dsimp only at hSw);go_simp;try with_reducible rfl
   (try simp only [Act.put,pa,pb,pc,pd,pe,pf])
   refine tkI (i:=12) (v:=?_) rfl ?_ ?_
   rotate_left
   · intro w hSw;(try dsimp only at hSw);go_simp;try with_reducible rfl
   (try simp only [Act.put,pa,pb,pc,pd,pe,pf])
   refine wpAnyH_done (by kernel_rfl) ?_ _
   go_upto_region 16 with (fail)
   have HT:=Lib.hid (show opE nd.op ([v,u].map Vc.x)=.ok (truthV (!eqV v.x u.x)) by
    rw [HA.out]
    unfold equalW
    rw [if_neg HC.out]
    first | rfl | simp | (cases eqV v.x u.x <;> rfl))
   have q0:=hHeld.2.1
   have q1:=hHeld.2.2.1
   have q2:=hHeld.2.2.2.1
   have q3:=hHeld.2.2.2.2.1
   have q4:=hHeld.2.2.2.2.2.1
   have q5:=hHeld.2.2.2.2.2.2.1
   have q6:=hHeld.2.2.2.2.2.2.2.1
   have q7:=hHeld.2.2.2.2.2.2.2.2.1
   have q8:=hHeld.2.2.2.2.2.2.2.2.2
   clear hHeld hkk hkn
   obtain ⟨W4,hW4⟩:∃ W4,W4=W.drew:=⟨_,rfl⟩
   have HBW4:=Lib.hid (show Below w.heap.size w W4 by rw [hW4];exact HB4.out.trans ((Below.refl W.heap.size W).drew.mono HB4.out.size))
   have HW4:=Lib.hid (show Below W.heap.size W W4 by rw [hW4];exact (Below.refl _ _).drew)
   have G24':=Lib.hid (show W4.heap[w.heap.size+2]?=some boxZ by rw [hW4];exact G2.out)
   rw [← hW4] at q0 q1 q2 q3 q4 q5 q6 q7 q8 ⊢
   clear G2 hW4
   have G2:=G24'
   refine wp_region_held_drew (S:=(fun w'=>Below w.heap.size w w'∧w'.cell? ⟨w.heap.size,0,none⟩=some (.int .i64 12)∧w'.cell? ⟨lb,0,none⟩=some (.int .i64 v.x.k)∧w'.cell? ⟨lb,1,none⟩=some (.int .i64 v.x.n)∧w'.cell? ⟨lb,2,none⟩=some (.string v.x.t)∧w'.cell? ⟨lb,3,none⟩=some (.slice v.a v.l v.c)∧w'.cell? ⟨lb,4,none⟩=some (.int .i64 u.x.k)∧w'.cell? ⟨lb,5,none⟩=some (.int .i64 u.x.n)∧w'.cell? ⟨lb,6,none⟩=some (.string u.x.t)∧w'.cell? ⟨lb,7,none⟩=some (.slice u.a u.l u.c))) (by kernel_rfl) ⟨HBW4.out.trans ((Below.refl W4.heap.size W4).drew.mono HBW4.out.size),q0,q1,q2,q3,q4,q5,q6,q7,q8⟩ (fun hHeld=>?_)
   clear q0 q1 q2 q3 q4 q5 q6 q7 q8
   obtain ⟨wd,hwd⟩:∃ wd,wd=W4.drew:=⟨_,rfl⟩
   have G2D:=Lib.hid (show wd.heap[w.heap.size+2]?=some boxZ by rw [hwd];exact G2.out)
   have HBD:=Lib.hid (show Below W4.heap.size W4 wd by rw [hwd];exact (Below.refl _ _).drew)
   rw [← hwd] at hHeld ⊢
   clear hwd
   refine tkI (i:=0) (v:=?_) rfl ?_ ?_
   rotate_left
   · intro w hSw;(try dsimp only at hSw);go_simp;try with_reducible rfl
   (try simp only [Act.put,pa,pb,pc,pd,pe,pf])
   refine tkI (i:=1) (v:=?_) rfl ?_ ?_
   rotate_left
   · intro w hSw;(try dsimp only at hSw);go_simp;try with_reducible rfl
   (try simp only [Act.put,pa,pb,pc,pd,pe,pf])
   refine tkI (i:=2) (v:=?_) rfl ?_ ?_
   rotate_left
   · intro w hSw;(try dsimp only at hSw);go_simp;try with_reducible rfl
   (try simp only [Act.put,pa,pb,pc,pd,pe,pf])
   refine tkI (i:=3) (v:=?_) rfl ?_ ?_
   rotate_left
   · intro w hSw;(try dsimp only at hSw);go_simp;try with_reducible rfl
   (try simp only [Act.put,pa,pb,pc,pd,pe,pf])
   refine tkI (i:=4) (v:=?_) rfl ?_ ?_
   rotate_left
   · intro w hSw;(try dsimp only at hSw);go_simp;try with_reducible rfl
   (try simp only [Act.put,pa,pb,pc,pd,pe,pf])
   refine tkI (i:=5) (v:=?_) rfl ?_ ?_
   rotate_left
   · intro w hSw;(try dsimp only at hSw);go_simp;try with_reducible rfl
   (try simp only [Act.put,pa,pb,pc,pd,pe,pf])
   refine tkI (i:=7) (v:=?_) rfl ?_ ?_
   rotate_left
   · intro w hSw;(try dsimp only at hSw);go_simp;try with_reducible rfl
   (try simp only [Act.put,pa,pb,pc,pd,pe,pf])
   refine tkI (i:=8) (v:=?_) rfl ?_ ?_
   rotate_left
   · intro w hSw;(try dsimp only at hSw);go_simp;try with_reducible rfl
   (try simp only [Act.put,pa,pb,pc,pd,pe,pf])
   refine tkI (i:=9) (v:=?_) rfl ?_ ?_
   rotate_left
   · intro w hSw;(try dsimp only at hSw);go_simp;try with_reducible rfl
   (try simp only [Act.put,pa,pb,pc,pd,pe,pf])
   refine wpAnyH_ready (rs:=[6]) (by kernel_rfl) (by simp) ?_
   refine AllReadyH.cons (o:=_) rfl (fun K hK=>?_) AllReadyH.nil
   go_simp
   refine (refequal_any wd v.x v.a v.l v.c (HRX.out.below (HW4.out.trans (HBD.out.mono HW4.out.size))) u.x u.a u.l u.c (HRY.out.below (HW4.out.trans (HBD.out.mono HW4.out.size)))).mono ?_
   rintro e y1 ⟨rfl,hb⟩
   have HWD:=Lib.hid (show w.heap.size≤wd.heap.size from hHeld.1.size)
   have G24:=Lib.hid ((hb.block _ (Array.getElem?_eq_some_iff.1 G2D.out).1).trans G2D.out)
   refine hK.out _ _ ⟨hHeld.1.trans (hb.mono hHeld.1.size),keepb hb hHeld.2.1,keepb hb hHeld.2.2.1,keepb hb hHeld.2.2.2.1,keepb hb hHeld.2.2.2.2.1,keepb hb hHeld.2.2.2.2.2.1,keepb hb hHeld.2.2.2.2.2.2.1,keepb hb hHeld.2.2.2.2.2.2.2.1,keepb hb hHeld.2.2.2.2.2.2.2.2.1,keepb hb hHeld.2.2.2.2.2.2.2.2.2⟩ (fun hHeld=>?_)
   clear hK K hb
   (try simp only [Act.put,pa,pb,pc,pd,pe,pf])
   refine tkI (i:=10) (v:=?_) rfl ?_ ?_
   rotate_left
   · intro w hSw;(try dsimp only at hSw);go_simp;try with_reducible rfl
   (try simp only [Act.put,pa,pb,pc,pd,pe,pf])
   refine wpAnyH_ready (rs:=[11]) (by kernel_rfl) (by simp) ?_
   refine AllReadyH.cons (o:=_) rfl (fun K hK=>?_) AllReadyH.nil
   go_simp
   refine (boolean_any y1 _).mono ?_
   rintro e y2 ⟨rfl,hb⟩
   have G25:=Lib.hid ((hb.block _ (Array.getElem?_eq_some_iff.1 G24.out).1).trans G24.out)
   refine hK.out _ _ ⟨hHeld.1.trans (hb.mono hHeld.1.size),keepb hb hHeld.2.1,keepb hb hHeld.2.2.1,keepb hb hHeld.2.2.2.1,keepb hb hHeld.2.2.2.2.1,keepb hb hHeld.2.2.2.2.2.1,keepb hb hHeld.2.2.2.2.2.2.1,keepb hb hHeld.2.2.2.2.2.2.2.1,keepb hb hHeld.2.2.2.2.2.2.2.2.1,keepb hb hHeld.2.2.2.2.2.2.2.2.2⟩ (fun hHeld=>?_)
   clear hK K hb G24
   (try simp only [Act.put,pa,pb,pc,pd,pe,pf])
   have G24:=G25
   obtain ⟨d0,d1,d2,d3,f0,f1,f2,f3⟩:=box4 G24.out
   have hne0:w.heap.size ≠ w.heap.size+2:=by omega
   have hnel:lb ≠ w.heap.size+2:=HLB.out
   refine wpAnyH_ready (rs:=[12]) (by kernel_rfl) (by simp) ?_
   refine AllReadyH.cons (o:=_) rfl (fun K hK=>?_) AllReadyH.nil
   go_simp
   refine hK.out _ _ ⟨below_box (by omega) hHeld.1 _ _ _ _,keepo hHeld.2.1 hne0,keepo hHeld.2.2.1 hnel,keepo hHeld.2.2.2.1 hnel,keepo hHeld.2.2.2.2.1 hnel,keepo hHeld.2.2.2.2.2.1 hnel,keepo hHeld.2.2.2.2.2.2.1 hnel,keepo hHeld.2.2.2.2.2.2.2.1 hnel,keepo hHeld.2.2.2.2.2.2.2.2.1 hnel,keepo hHeld.2.2.2.2.2.2.2.2.2 hnel⟩ (fun hHeld=>?_)
   clear hK K d0 d1 d2 d3 f0 f1 f2 f3
   (try simp only [Act.put,pa,pb,pc,pd,pe,pf])
   refine tkI (i:=13) (v:=?_) rfl ?_ ?_
   rotate_left
   · intro w hSw;(try dsimp only at hSw);go_simp;try with_reducible rfl
   (try simp only [Act.put,pa,pb,pc,pd,pe,pf])
   refine wpAnyH_done (by kernel_rfl) ?_ _
   go_wp2_with fail
   refine bodyPost_ret (res2c Tryz.results63 _ _ (w.heap.size+2) _ _ _ _ _ (heap_box G24.out _ _ _ _) rfl rfl) rfl ?_
   exact ⟨.ok (z:=truthV _) rfl ⟨none,0,0,rfl,.inl (rz_nil1 w0)⟩ HT.out,hHeld.1⟩
end Go.Proofs.YtcnckjlmldnblaaGreatDoor
