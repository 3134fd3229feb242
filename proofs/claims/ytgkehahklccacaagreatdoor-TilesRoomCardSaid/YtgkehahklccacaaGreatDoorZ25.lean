import Derived.Test.YtgkehahklccacaaGreatDoorZ01
import Derived.Test.YtgkehahklccacaaGreatDoorZ24
namespace Go.Proofs.YtgkehahklccacaaGreatDoor
open Go Go.RowKit
open Go.Lib (hid)
set_option maxRecDepth 100000
set_option maxHeartbeats 1000000
set_option linter.unusedVariables false
set_option linter.unusedSimpArgs false
section
open Go.Maps Go.WideMaps Go.ChangeMaps
def fl3 (N:Int) (d:Dm) (T:TT):Dm × TT × Int :=
 if N > ((T.held * 8207:Nat):Int) then
  let T2:={ T with l0:=true }
  let c:=d.cut tlN ((T.held * 8207:Nat):Int)
  if c.2 ≠ 0 then (c.1,T2,c.2) else fl4 c.1 T2
 else fl4 d T
structure P4 (d:Dm) (T:TT):Prop where
 a:Pre d
 b:Pre (appD d T).1
 c:Pre ((appD d T).1.sync tlN).1
set_option maxHeartbeats 4000000
theorem flush_3 (w:World) (L:Lay) (τ:Nat→Nat) (gt gd:Nat) (d:Dm) (T:TT) (Y:TY) (h:BT w L τ gt gd d T Y) (N:Int) (hp:Pre d) (hh:T.held≤T.L.length / 256) (ht:HalfTab w) (hl2:L.ρ 2=0)
 (hp1:¬ N > ((T.held * 8207:Nat):Int)→P4 d T) (hp2:N > ((T.held * 8207:Nat):Int)→(d.cut tlN ((T.held * 8207:Nat):Int)).2=0→P4 (d.cut tlN ((T.held * 8207:Nat):Int)).1 { T with l0:=true }) (u1 u2 u3 u5 u6 u7 u8 u9 u10 u11 u12 u13 u14 u15 u16 u17 u18 u19 u20 u21 u22 u23 u24 u25 u26 u27 u28 u29 u30 u31 u32 u33 u34 u35 u36 u37 u38 u39 u40 u41 u42 u43 u44 u45 u46 u47 u48 u49 u50 u51 u52 u53 u54 u55 u56 u57 u58 u59 u60 u61 u62 u63 u64 u65 u66 u67 u68 u69 u70 u71 u72 u73 u74 u75 u76 u77 u78 u79 u80 u81 u82 u83 u84 u85 u86 u87:Value) :
 Code.wp Tryz.prog (dropSeq 7 fl0) (bodyPost Tryz.prog Tryz.f12 (SyR L τ gt gd Y w (fl3 N d T))) ⟨#[.pointer (some ⟨gt,0,none⟩),u1,u2,u3,.int .i64 N,u5,u6,u7,u8,u9,u10,u11,u12,u13,u14,u15,u16,u17,u18,u19,u20,u21,u22,u23,u24,u25,u26,u27,u28,u29,u30,u31,u32,u33,u34,u35,u36,u37,u38,u39,u40,u41,u42,u43,u44,u45,u46,u47,u48,u49,u50,u51,u52,u53,u54,u55,u56,u57,u58,u59,u60,u61,u62,u63,u64,u65,u66,u67,u68,u69,u70,u71,u72,u73,u74,u75,u76,u77,u78,u79,u80,u81,u82,u83,u84,u85,u86,u87],[]⟩ w:=by
 obtain ⟨H,hH⟩:∃ H,H=T.held:=⟨_,rfl⟩
 have c0:=h.t.cells.1
 have c8:=h.t.cells.2.2.2.2.2.2.2.1
 have hfew:=h.t.few
 rw [← hH] at c8
 have hw:IntKind.i64.wrap ((H:Int) * 8207)=(H:Int) * 8207:=IntWalk.i64_in _ (by omega)
 by_cases hN:N > ((T.held * 8207:Nat):Int)
 · have h9:decide ((H:Int) * 8207 < N)=true:=decide_eq_true (by rw [hH];have:=hN;push_cast at this;exact this)
   have e9:=h.t.cells.2.2.2.2.2.2.2.2.1
   have f9:=h.t.cells.2.2.2.2.2.2.2.2.2.2 9
   have HH:=hid h
   have HT:=hid (And.intro hp (And.intro ht (And.intro hl2 (And.intro hh hH))))
   have HP2:=hid (hp2 hN)
   have HF:=hid hfew
   have HEQ:=hid (show fl3 N d T=(let c:=d.cut tlN ((T.held * 8207:Nat):Int);if c.2 ≠ 0 then (c.1,{ T with l0:=true },c.2) else fl4 c.1 { T with l0:=true }) by unfold fl3;rw [if_pos hN])
   clear h hp ht hh hl2 hp1 hp2 hN hfew hH
   refine wp_two_k (c:=dropSeq 7 fl0) ⟨_,_,rfl⟩ fun K hK=>?_
   have HK:=hid hK
   clear hK
   conv=>arg 2;whnf
   go_wp2_with fail
   obtain ⟨hb1,hg1⟩:=row_setCell (i:=9) HH.out.t.box (.bool true)
   obtain ⟨ht1,hu1⟩:=HH.out.t.own1 (T':={ T with l0:=true }) hg1 hb1 rfl rfl
   have HBT1:=hid (HH.out.tiles ht1 hu1)
   have HU1:=hid (UB.of_tiles (L:=L) hu1)
   clear hb1 hg1 ht1 hu1 c0 c8 e9 f9 h9
   generalize w.setCell ⟨gt,9,none⟩ (.bool true)=w1 at HBT1 HU1 ⊢
   have hs1:w1.cell? ⟨gt,0,none⟩=some (.pointer (some ⟨gd,0,none⟩))∧w1.cell? ⟨gt,8,none⟩=some (.int .i64 (H:Int)):=⟨HBT1.out.t.cells.1,by rw [HT.out.2.2.2.2];exact HBT1.out.t.cells.2.2.2.2.2.2.2.1⟩
   have hi:(H:Int) * 8207=((T.held * 8207:Nat):Int):=by rw [HT.out.2.2.2.2];push_cast;rfl
   have HCU:=hid (show Calls Tryz.prog 44 #[.pointer (some ⟨gd,0,none⟩),.string tlB,.int .i64 ((H:Int) * 8207)] w1.drew fun e w'=>∃ L',DAt w' L' gd (d.cut tlN ((T.held * 8207:Nat):Int)).1∧Upd L.ρ L'.ρ w1.drew w'∧∃ v,e=.returned v∧ToldV v w' L'.ρ cuB tlB (d.cut tlN ((T.held * 8207:Nat):Int)).2 by
    rw [hi]
    exact cut_any w1.drew L gd d (HBT1.out.below (below_drewN (Below.refl _ _) 1)).d HT.out.1 tlN (by decide) _ (by omega) (by have:=HT.out.2.2.2.1;have:=HF.out;omega))
   clear hi
   refine wp_region_held_drew (S:=fun x=>x.cell? ⟨gt,0,none⟩=some (.pointer (some ⟨gd,0,none⟩))∧x.cell? ⟨gt,8,none⟩=some (.int .i64 (H:Int))) (by kernel_rfl) hs1 (fun hHeld=>?_)
   apply wpT 0
   apply wpT 1
   apply wpT 2
   apply wpT 3
   apply wpT 4
   apply wpT 5
   apply wpT 6
   apply wpT 7
   apply wpT 8
   apply wpR 9
   intro K hK
   go_simp
   refine HCU.out.mono ?_
   rintro e w2 ⟨L2,hD2,hU2,v,rfl,hv⟩
   have hBT2:=HBT1.out.disk hD2 (show Upd L.ρ L2.ρ w1 w2 from ⟨hU2.os,hU2.tape,hU2.output,hU2.size,hU2.block,hU2.ext⟩)
   have hs2:w2.cell? ⟨gt,0,none⟩=some (.pointer (some ⟨gd,0,none⟩))∧w2.cell? ⟨gt,8,none⟩=some (.int .i64 (H:Int)):=⟨hBT2.t.cells.1,by rw [HT.out.2.2.2.2];exact hBT2.t.cells.2.2.2.2.2.2.2.1⟩
   have HU2:=hid (HU1.out.trans (UB.of_disk (τ:=τ) (show Upd L.ρ L2.ρ w1 w2 from ⟨hU2.os,hU2.tape,hU2.output,hU2.size,hU2.block,hU2.ext⟩)))
   have HBT2:=hid hBT2
   have HV:=hid hv
   clear hD2 hU2 hv hBT2
   apply bk hK
   · exact hs2
   intro hHeld
   clear hK K
   apply wpT 10
   refine wpAnyH_done (by kernel_rfl) ?_ _
   clear hs1 hs2 hw HCU HBT1
   by_cases hy:(d.cut tlN ((T.held * 8207:Nat):Int)).2=0
   · have hv:=HV.out
     rw [hy] at hv
     obtain rfl:v=.nilIface:=(hv.resolve_right fun q=>q.1 rfl).2
     have HQ:=hid (show fl3 N d T=fl4 (d.cut tlN ((T.held * 8207:Nat):Int)).1 { T with l0:=true } by rw [HEQ.out];exact if_neg (fun q=>q hy))
     have HP2:=hid (HP2.out hy)
     clear hv hy
     go_wp2_with fail
     refine HK.out _ _ ?_
     rw [dropSeq_succ,HQ.out]
     refine wp_mono (flush_4 w2 L2 τ gt gd _ _ Y HBT2.out HP2.out.a HT.out.2.2.2.1 (HU2.out.half HT.out.2.1 (by have:=HH.out.t.sz;omega) HT.out.2.2.1 (HH.out.t.low 2 (by decide))) HP2.out.b HP2.out.c _ _ _ _ _ _ _ _ _ _ _ _ _ _ _ _ _ _ _ _ _ _ _ _ _ _ _ _ _ _ _ _ _ _ _ _ _ _ _ _ _ _ _ _ _ _ _ _ _ _ _ _ _ _ _ _ _ _ _ _ _ _ _ _ _ _ _ _ _ _ _ _ _ _ _ _ _ _ _ _ _ _ _ _ _ _ _ ) ?_
     exact bodyPost_mono' (fun e w' ⟨v,q1,q2,L',q3,q4⟩=>⟨v,q1,q2,L',q3,HU2.out.trans q4⟩)
   · have HY:=hid hy
     obtain ⟨g2,rfl,hg2,-⟩:=(HV.out.resolve_left fun q=>hy q.1).2
     have HG:=hid hg2
     have HQ:=hid (show fl3 N d T=((d.cut tlN ((T.held * 8207:Nat):Int)).1,{ T with l0:=true },(d.cut tlN ((T.held * 8207:Nat):Int)).2) by rw [HEQ.out];exact if_pos hy)
     clear hy hg2
     go_wp2_with fail
     go_ret
     rw [HQ.out]
     exact ⟨_,rfl,.inr ⟨HY.out,_,_,g2,rfl,HG.out⟩,L2,HBT2.out,HU2.out⟩
 · have h9:decide ((H:Int) * 8207 < N)=false:=decide_eq_false (by rw [hH];have:=hN;push_cast at this;exact this)
   have HQ:=hid (show fl3 N d T=fl4 d T by unfold fl3;rw [if_neg hN])
   have q:=hp1 hN
   have HX:=hid (fun u1 u2 u3 u4 u5 u6 u7 u8 u9 u10 u11 u12 u13 u14 u15 u16 u17 u18 u19 u20 u21 u22 u23 u24 u25 u26 u27 u28 u29 u30 u31 u32 u33 u34 u35 u36 u37 u38 u39 u40 u41 u42 u43 u44 u45 u46 u47 u48 u49 u50 u51 u52 u53 u54 u55 u56 u57 u58 u59 u60 u61 u62 u63 u64 u65 u66 u67 u68 u69 u70 u71 u72 u73 u74 u75 u76 u77 u78 u79 u80 u81 u82 u83 u84 u85 u86 u87=>flush_4 w L τ gt gd d T Y h q.a hh ht q.b q.c u1 u2 u3 u4 u5 u6 u7 u8 u9 u10 u11 u12 u13 u14 u15 u16 u17 u18 u19 u20 u21 u22 u23 u24 u25 u26 u27 u28 u29 u30 u31 u32 u33 u34 u35 u36 u37 u38 u39 u40 u41 u42 u43 u44 u45 u46 u47 u48 u49 u50 u51 u52 u53 u54 u55 u56 u57 u58 u59 u60 u61 u62 u63 u64 u65 u66 u67 u68 u69 u70 u71 u72 u73 u74 u75 u76 u77 u78 u79 u80 u81 u82 u83 u84 u85 u86 u87)
   clear h hp ht hh hl2 hp1 hp2 hN hfew hH q
   refine wp_two_k (c:=dropSeq 7 fl0) ⟨_,_,rfl⟩ fun K hK=>?_
   have HK:=hid hK
   clear hK
   conv=>arg 2;whnf
   go_wp2_with fail
   refine HK.out _ _ ?_
   rw [dropSeq_succ,HQ.out]
   exact HX.out _ _ _ _ _ _ _ _ _ _ _ _ _ _ _ _ _ _ _ _ _ _ _ _ _ _ _ _ _ _ _ _ _ _ _ _ _ _ _ _ _ _ _ _ _ _ _ _ _ _ _ _ _ _ _ _ _ _ _ _ _ _ _ _ _ _ _ _ _ _ _ _ _ _ _ _ _ _ _ _ _ _ _ _ _ _ _ 
end
section
open Go.Maps Go.WideMaps Go.ChangeMaps
def fl2 (m:Bool) (N:Int) (d:Dm) (T:TT):Dm × TT × Int :=
 if m=true then
  let T1:={ T with l0:=true,l1:=true }
  let c:=d.create tlN
  if c.2 ≠ 0 then (c.1,T1,pas c.2) else fl3 N c.1 T1
 else fl3 N d T
structure P3 (N:Int) (d:Dm) (T:TT):Prop where
 a:Pre d
 b:¬ N > ((T.held * 8207:Nat):Int)→P4 d T
 c:N > ((T.held * 8207:Nat):Int)→(d.cut tlN ((T.held * 8207:Nat):Int)).2=0→P4 (d.cut tlN ((T.held * 8207:Nat):Int)).1 { T with l0:=true }
set_option maxHeartbeats 4000000
theorem flush_2 (w:World) (L:Lay) (τ:Nat→Nat) (gt gd:Nat) (d:Dm) (T:TT) (Y:TY) (h:BT w L τ gt gd d T Y) (m:Bool) (N:Int) (hp:Pre d) (hh:T.held≤T.L.length / 256) (ht:HalfTab w) (hl2:L.ρ 2=0)
 (hp1:m=false→P3 N d T) (hp2:m=true→(d.create tlN).2=0→P3 N (d.create tlN).1 { T with l0:=true,l1:=true }) (u1 u2 u3 u5 u7 u8 u9 u10 u11 u12 u13 u14 u15 u16 u17 u18 u19 u20 u21 u22 u23 u24 u25 u26 u27 u28 u29 u30 u31 u32 u33 u34 u35 u36 u37 u38 u39 u40 u41 u42 u43 u44 u45 u46 u47 u48 u49 u50 u51 u52 u53 u54 u55 u56 u57 u58 u59 u60 u61 u62 u63 u64 u65 u66 u67 u68 u69 u70 u71 u72 u73 u74 u75 u76 u77 u78 u79 u80 u81 u82 u83 u84 u85 u86 u87:Value) :
 Code.wp Tryz.prog (dropSeq 6 fl0) (bodyPost Tryz.prog Tryz.f12 (SyR L τ gt gd Y w (fl2 m N d T))) ⟨#[.pointer (some ⟨gt,0,none⟩),u1,u2,u3,.int .i64 N,u5,.bool m,u7,u8,u9,u10,u11,u12,u13,u14,u15,u16,u17,u18,u19,u20,u21,u22,u23,u24,u25,u26,u27,u28,u29,u30,u31,u32,u33,u34,u35,u36,u37,u38,u39,u40,u41,u42,u43,u44,u45,u46,u47,u48,u49,u50,u51,u52,u53,u54,u55,u56,u57,u58,u59,u60,u61,u62,u63,u64,u65,u66,u67,u68,u69,u70,u71,u72,u73,u74,u75,u76,u77,u78,u79,u80,u81,u82,u83,u84,u85,u86,u87],[]⟩ w:=by
 have c0:=h.t.cells.1
 cases m
 · have q:=hp1 rfl
   have HX:=hid (fun u1 u2 u3 u5 u6 u7 u8 u9 u10 u11 u12 u13 u14 u15 u16 u17 u18 u19 u20 u21 u22 u23 u24 u25 u26 u27 u28 u29 u30 u31 u32 u33 u34 u35 u36 u37 u38 u39 u40 u41 u42 u43 u44 u45 u46 u47 u48 u49 u50 u51 u52 u53 u54 u55 u56 u57 u58 u59 u60 u61 u62 u63 u64 u65 u66 u67 u68 u69 u70 u71 u72 u73 u74 u75 u76 u77 u78 u79 u80 u81 u82 u83 u84 u85 u86 u87=>flush_3 w L τ gt gd d T Y h N q.a hh ht hl2 q.b q.c u1 u2 u3 u5 u6 u7 u8 u9 u10 u11 u12 u13 u14 u15 u16 u17 u18 u19 u20 u21 u22 u23 u24 u25 u26 u27 u28 u29 u30 u31 u32 u33 u34 u35 u36 u37 u38 u39 u40 u41 u42 u43 u44 u45 u46 u47 u48 u49 u50 u51 u52 u53 u54 u55 u56 u57 u58 u59 u60 u61 u62 u63 u64 u65 u66 u67 u68 u69 u70 u71 u72 u73 u74 u75 u76 u77 u78 u79 u80 u81 u82 u83 u84 u85 u86 u87)
   clear h hp hh ht hl2 hp1 hp2 q
   refine wp_two_k (c:=dropSeq 6 fl0) ⟨_,_,rfl⟩ fun K hK=>?_
   have HK:=hid hK
   clear hK
   conv=>arg 2;whnf
   go_wp2_with fail
   refine HK.out _ _ ?_
   rw [dropSeq_succ]
   exact HX.out _ _ _ _ _ _ _ _ _ _ _ _ _ _ _ _ _ _ _ _ _ _ _ _ _ _ _ _ _ _ _ _ _ _ _ _ _ _ _ _ _ _ _ _ _ _ _ _ _ _ _ _ _ _ _ _ _ _ _ _ _ _ _ _ _ _ _ _ _ _ _ _ _ _ _ _ _ _ _ _ _ _ _ _ _ _ 
 · have e9:=h.t.cells.2.2.2.2.2.2.2.2.1
   have f9:=h.t.cells.2.2.2.2.2.2.2.2.2.2 9
   have e10:=h.t.cells.2.2.2.2.2.2.2.2.2.1
   have f10:=h.t.cells.2.2.2.2.2.2.2.2.2.2 10
   have HH:=hid h
   have HT:=hid (And.intro hp (And.intro ht (And.intro hl2 hh)))
   have HP2:=hid (hp2 rfl)
   clear h hp hh ht hl2 hp1 hp2
   obtain ⟨hb1,hg1⟩:=row_setCell (i:=9) HH.out.t.box (.bool true)
   obtain ⟨ht1,hu1⟩:=HH.out.t.own1 (T':={ T with l0:=true }) hg1 hb1 rfl rfl
   obtain ⟨hb2,hg2⟩:=row_setCell (i:=10) ht1.box (.bool true)
   obtain ⟨ht2,hu2⟩:=ht1.own1 (T':={ T with l0:=true,l1:=true }) hg2 hb2 rfl rfl
   have hBT1:=(HH.out.tiles ht1 hu1).tiles ht2 hu2
   have HBT1:=hid hBT1
   have HU1:=hid ((UB.of_tiles (L:=L) hu1).trans (UB.of_tiles (L:=L) hu2))
   have HCR:=hid (create_any _ L gd d hBT1.d HT.out.1 tlN (by decide))
   clear hb1 hg1 ht1 hu1 hb2 hg2 ht2 hu2 hBT1
   by_cases hy:(d.create tlN).2=0
   · have HY:=hid hy
     have HP:=hid (HP2.out hy)
     have HQ:=hid (show fl2 true N d T=fl3 N (d.create tlN).1 { T with l0:=true,l1:=true } by unfold fl2;rw [if_pos rfl];exact if_neg (fun q=>q hy))
     clear hy
     refine wp_two_k (c:=dropSeq 6 fl0) ⟨_,_,rfl⟩ fun K hK=>?_
     have HK:=hid hK
     clear hK
     conv=>arg 2;whnf
     go_wp2_with (go_at_call 42;refine HCR.out.mono ?_;rintro e w2 ⟨L2,hD2,hU2,v,rfl,hv⟩;rw [HY.out] at hv;obtain rfl:v=.nilIface:=(hv.resolve_right fun q=>q.1 rfl).2;have HBT2:=hid (HBT1.out.disk hD2 hU2);have HU2:=hid (HU1.out.trans (UB.of_disk hU2));have HL2:=hid (hU2.ext.old 2 (by have:=HH.out.t.sz;have:=HU1.out.size;omega) HT.out.2.2.1);clear hv hD2 hU2)
     refine HK.out _ _ ?_
     rw [dropSeq_succ,HQ.out]
     refine wp_mono (flush_3 w2 L2 τ gt gd _ _ Y HBT2.out N HP.out.a HT.out.2.2.2 (HU2.out.half HT.out.2.1 (by have:=HH.out.t.sz;omega) HT.out.2.2.1 (HH.out.t.low 2 (by decide))) HL2.out HP.out.b HP.out.c _ _ _ _ _ _ _ _ _ _ _ _ _ _ _ _ _ _ _ _ _ _ _ _ _ _ _ _ _ _ _ _ _ _ _ _ _ _ _ _ _ _ _ _ _ _ _ _ _ _ _ _ _ _ _ _ _ _ _ _ _ _ _ _ _ _ _ _ _ _ _ _ _ _ _ _ _ _ _ _ _ _ _ _ _ _ ) ?_
     exact bodyPost_mono' (fun e w' ⟨v,q1,q2,L',q3,q4⟩=>⟨v,q1,q2,L',q3,HU2.out.trans q4⟩)
   · have HY:=hid hy
     have HQ:=hid (show fl2 true N d T=((d.create tlN).1,{ T with l0:=true,l1:=true },pas (d.create tlN).2) by unfold fl2;rw [if_pos rfl];exact if_pos hy)
     clear hy
     refine wp_two_k (c:=dropSeq 6 fl0) ⟨_,_,rfl⟩ fun K hK=>?_
     clear hK
     conv=>arg 2;whnf
     go_wp2_with (first
      | (go_at_call 42;refine HCR.out.mono ?_;rintro e w2 ⟨L2,hD2,hU2,v,rfl,hv⟩;have HPA:=hid (passed_any w2 v _ hv.tv);obtain ⟨g2,rfl,hg2,-⟩:=(hv.resolve_left fun q=>HY.out q.1).2;have HBT2:=hid (HBT1.out.disk hD2 hU2);have HU2:=hid (HU1.out.trans (UB.of_disk hU2));clear hv hD2 hU2 hg2)
      | (go_at_call 43;refine HPA.out.mono ?_;rintro e w3 ⟨⟨v,rfl,hv⟩,rfl⟩;have HV:=hid hv;clear hv))
     go_ret
     rw [HQ.out]
     exact ⟨_,rfl,HV.out,L2,HBT2.out,HU2.out⟩
end
section
open Go.Maps Go.WideMaps Go.ChangeMaps
def flushD (d:Dm) (T:TT):Dm × TT × Int :=
 if T.live d tlN ≠ 0 then (d,T,T.live d tlN) else
 if (d.length tlN).2=32 then (if T.L.length / 256=0 then (d,T,0) else fl2 true (d.length tlN).1 d T) else
 if (d.length tlN).2 ≠ 0 then (d,T,(d.length tlN).2) else fl2 false (d.length tlN).1 d T
structure P2 (d:Dm) (T:TT):Prop where
 a:Pre d
 b:(d.length tlN).2=0→P3 (d.length tlN).1 d T
 c:(d.length tlN).2=32→(d.create tlN).2=0→P3 (d.length tlN).1 (d.create tlN).1 { T with l0:=true,l1:=true }
set_option maxHeartbeats 4000000
theorem flush_any (w:World) (L:Lay) (τ:Nat→Nat) (gt gd:Nat) (d:Dm) (T:TT) (Y:TY) (h:BT w L τ gt gd d T Y) (hh:T.held≤T.L.length / 256) (ht:HalfTab w) (hl2:L.ρ 2=0) (hp:P2 d T) :
 Calls Tryz.prog 12 #[.pointer (some ⟨gt,0,none⟩)] w (SyR L τ gt gd Y w (flushD d T)):=by
 have HLV:=hid (live_any w L τ gt gd d T Y h ⟨#[70,108,117,115,104]⟩)
 have HH:=hid h
 have HT:=hid (And.intro hh (And.intro ht hl2))
 have HPP:=hid hp
 have HP:=hid hp.a
 have hord:=h.t.ord.1
 have hv0:∃ a c,Y.ordV=.slice a (T.L.length / 256) c:=by
  rcases hord.2 with ⟨hv,h0⟩ | ⟨g,cap,cur,hv,-⟩
  · exact ⟨none,0,by rw [hv,h0]⟩
  · exact ⟨_,_,hv⟩
 obtain ⟨oa,oc,hov⟩:=hv0
 have HOV:=hid hov
 obtain ⟨F,hF⟩:∃ F,F=T.L.length / 256:=⟨_,rfl⟩
 rw [← hF] at HOV
 have HF:=hid hF
 clear h hh ht hl2 hp hord hov hF
 by_cases hl:T.live d tlN=0
 · have HL:=hid hl
   by_cases hn0:(d.length tlN).2=0
   · have HN0:=hid hn0
     have HQ:=hid (show flushD d T=fl2 false (d.length tlN).1 d T by unfold flushD;rw [if_neg (fun q=>q hl),if_neg (by rw [hn0];decide),if_neg (fun q=>q hn0)])
     have HP3:=hid (HPP.out.b hn0)
     clear hl hn0
     go_enter Tryz.func12,Tryz.ntmps12
     refine wp_two_k (c:=fl0) ⟨_,_,rfl⟩ fun K hK=>?_
     have HK:=hid hK
     clear hK
     conv=>arg 2;whnf
     go_wp2_with fail
     refine HK.out _ _ ?_
     clear HK K
     refine wp_two_k (c:=dropSeq 1 fl0) ⟨_,_,rfl⟩ fun K hK=>?_
     have HK:=hid hK
     clear hK
     conv=>arg 2;whnf
     go_wp2_with (go_at_call 39;refine HLV.out.mono ?_;rintro e w1 ⟨⟨v,rfl,hv⟩,hb1⟩;rw [HL.out] at hv;obtain rfl:v=.nilIface:=(hv.resolve_right fun q=>q.1 rfl).2;have hBT1:=HH.out.below hb1;have c0:=hBT1.t.cells.1;have c7:=hBT1.t.cells.2.2.2.2.2.2.1;have HBT1:=hid hBT1;have HLN:=hid (length_any w1 L gd d hBT1.d HP.out tlN (by decide));have HB1:=hid hb1;clear hv hb1 hBT1)
     refine HK.out _ _ ?_
     clear HK K
     rw [dropSeq_succ]
     refine wp_two_k (c:=dropSeq 2 fl0) ⟨_,_,rfl⟩ fun K hK=>?_
     have HK:=hid hK
     clear hK
     conv=>arg 2;whnf
     go_wp2_with (go_at_call 40;refine HLN.out.mono ?_;rintro e w2 ⟨hb2,v,rfl,hv⟩;rw [HN0.out] at hv;obtain rfl:v=.nilIface:=(hv.resolve_right fun q=>q.1 rfl).2;clear hv;have hBT2:=HBT1.out.below hb2;have d0:=hBT2.t.cells.1;have d7:=hBT2.t.cells.2.2.2.2.2.2.1;have HBT2:=hid hBT2;have HB2:=hid (HB1.out.trans (hb2.mono HB1.out.size));clear hb2 hBT2 c0 c7)
     refine HK.out _ _ ?_
     clear HK K
     rw [dropSeq_succ]
     refine wp_two_k (c:=dropSeq 3 fl0) ⟨_,_,rfl⟩ fun K hK=>?_
     have HK:=hid hK
     clear hK
     conv=>arg 2;whnf
     go_wp2_with (go_at_call 41;refine (is_nil _ 32).mono ?_;rintro e wx ⟨rfl,hw⟩;have hw:=hw.symm;subst hw)
     refine HK.out _ _ ?_
     clear HK K
     rw [dropSeq_succ]
     rw [HOV.out] at d7
     refine wp_two_k (c:=dropSeq 4 fl0) ⟨_,_,rfl⟩ fun K hK=>?_
     have HK:=hid hK
     clear hK
     conv=>arg 2;whnf
     go_wp2_with fail
     refine HK.out _ _ ?_
     clear HK K
     rw [dropSeq_succ]
     refine wp_two_k (c:=dropSeq 5 fl0) ⟨_,_,rfl⟩ fun K hK=>?_
     have HK:=hid hK
     clear hK
     conv=>arg 2;whnf
     go_wp2_with fail
     refine HK.out _ _ ?_
     clear HK K
     rw [dropSeq_succ]
     rw [HQ.out]
     have HU:=hid (UB.of_below (L:=L) (τ:=τ) HB2.out)
     refine wp_mono (flush_2 w2 L τ gt gd d T Y HBT2.out false _ HP.out HT.out.1 (HU.out.half HT.out.2.1 (by have:=HH.out.t.sz;omega) HT.out.2.2 (HH.out.t.low 2 (by decide))) HT.out.2.2 (fun _=>HP3.out) (fun q=>by cases q) _ _ _ _ _ _ _ _ _ _ _ _ _ _ _ _ _ _ _ _ _ _ _ _ _ _ _ _ _ _ _ _ _ _ _ _ _ _ _ _ _ _ _ _ _ _ _ _ _ _ _ _ _ _ _ _ _ _ _ _ _ _ _ _ _ _ _ _ _ _ _ _ _ _ _ _ _ _ _ _ _ _ _ _ _ ) ?_
     exact bodyPost_mono' (fun e w' ⟨v,q1,q2,L',q3,q4⟩=>⟨v,q1,q2,L',q3,HU.out.trans q4⟩)
   · have HN0:=hid hn0
     by_cases hn32:(d.length tlN).2=32
     · have HN32:=hid hn32
       by_cases hf:T.L.length / 256=0
       · have HQ:=hid (show flushD d T=(d,T,0) by unfold flushD;rw [if_neg (fun q=>q hl),if_pos hn32,if_pos hf])
         have hF0:F=0:=by rw [HF.out,hf]
         clear hl hn0 hn32 hf
         go_enter Tryz.func12,Tryz.ntmps12
         refine wp_two_k (c:=fl0) ⟨_,_,rfl⟩ fun K hK=>?_
         have HK:=hid hK
         clear hK
         conv=>arg 2;whnf
         go_wp2_with fail
         refine HK.out _ _ ?_
         clear HK K
         refine wp_two_k (c:=dropSeq 1 fl0) ⟨_,_,rfl⟩ fun K hK=>?_
         have HK:=hid hK
         clear hK
         conv=>arg 2;whnf
         go_wp2_with (go_at_call 39;refine HLV.out.mono ?_;rintro e w1 ⟨⟨v,rfl,hv⟩,hb1⟩;rw [HL.out] at hv;obtain rfl:v=.nilIface:=(hv.resolve_right fun q=>q.1 rfl).2;have hBT1:=HH.out.below hb1;have c0:=hBT1.t.cells.1;have c7:=hBT1.t.cells.2.2.2.2.2.2.1;have HBT1:=hid hBT1;have HLN:=hid (length_any w1 L gd d hBT1.d HP.out tlN (by decide));have HB1:=hid hb1;clear hv hb1 hBT1)
         refine HK.out _ _ ?_
         clear HK K
         rw [dropSeq_succ]
         refine wp_two_k (c:=dropSeq 2 fl0) ⟨_,_,rfl⟩ fun K hK=>?_
         have HK:=hid hK
         clear hK
         conv=>arg 2;whnf
         go_wp2_with (go_at_call 40;refine HLN.out.mono ?_;rintro e w2 ⟨hb2,v,rfl,hv⟩;have HIS:=hid hv.tv;obtain ⟨g2,rfl,hg2,-⟩:=(hv.resolve_left fun q=>HN0.out q.1).2;have HG:=hid hg2;clear hv hg2;have hBT2:=HBT1.out.below hb2;have d0:=hBT2.t.cells.1;have d7:=hBT2.t.cells.2.2.2.2.2.2.1;have HBT2:=hid hBT2;have HB2:=hid (HB1.out.trans (hb2.mono HB1.out.size));clear hb2 hBT2 c0 c7)
         refine HK.out _ _ ?_
         clear HK K
         rw [dropSeq_succ]
         refine wp_two_k (c:=dropSeq 3 fl0) ⟨_,_,rfl⟩ fun K hK=>?_
         have HK:=hid hK
         clear hK
         conv=>arg 2;whnf
         go_wp2_with (go_at_call 41;refine (is_same _ _ _ _ 32 ⟨g2,rfl,HN32.out ▸ HG.out⟩).mono ?_;rintro e wx ⟨rfl,hw⟩;have hw:=hw.symm;subst hw)
         refine HK.out _ _ ?_
         clear HK K
         rw [dropSeq_succ]
         rw [HOV.out,hF0] at d7
         clear hF0
         conv=>arg 2;whnf
         go_wp2_with fail
         go_ret
         rw [HQ.out]
         exact ⟨_,rfl,.inl ⟨rfl,rfl⟩,L,HBT2.out,UB.of_below HB2.out⟩
       · have HQ:=hid (show flushD d T=fl2 true (d.length tlN).1 d T by unfold flushD;rw [if_neg (fun q=>q hl),if_pos hn32,if_neg hf])
         have h9:decide ((F:Int)=0)=false:=decide_eq_false (by rw [HF.out];omega)
         have h8:((F:Int) == 0)=false:=by simp;rw [HF.out];omega
         have h7:¬ F=0:=by rw [HF.out];exact hf
         clear hl hn0 hn32 hf
         go_enter Tryz.func12,Tryz.ntmps12
         refine wp_two_k (c:=fl0) ⟨_,_,rfl⟩ fun K hK=>?_
         have HK:=hid hK
         clear hK
         conv=>arg 2;whnf
         go_wp2_with fail
         refine HK.out _ _ ?_
         clear HK K
         refine wp_two_k (c:=dropSeq 1 fl0) ⟨_,_,rfl⟩ fun K hK=>?_
         have HK:=hid hK
         clear hK
         conv=>arg 2;whnf
         go_wp2_with (go_at_call 39;refine HLV.out.mono ?_;rintro e w1 ⟨⟨v,rfl,hv⟩,hb1⟩;rw [HL.out] at hv;obtain rfl:v=.nilIface:=(hv.resolve_right fun q=>q.1 rfl).2;have hBT1:=HH.out.below hb1;have c0:=hBT1.t.cells.1;have c7:=hBT1.t.cells.2.2.2.2.2.2.1;have HBT1:=hid hBT1;have HLN:=hid (length_any w1 L gd d hBT1.d HP.out tlN (by decide));have HB1:=hid hb1;clear hv hb1 hBT1)
         refine HK.out _ _ ?_
         clear HK K
         rw [dropSeq_succ]
         refine wp_two_k (c:=dropSeq 2 fl0) ⟨_,_,rfl⟩ fun K hK=>?_
         have HK:=hid hK
         clear hK
         conv=>arg 2;whnf
         go_wp2_with (go_at_call 40;refine HLN.out.mono ?_;rintro e w2 ⟨hb2,v,rfl,hv⟩;have HIS:=hid hv.tv;obtain ⟨g2,rfl,hg2,-⟩:=(hv.resolve_left fun q=>HN0.out q.1).2;have HG:=hid hg2;clear hv hg2;have hBT2:=HBT1.out.below hb2;have d0:=hBT2.t.cells.1;have d7:=hBT2.t.cells.2.2.2.2.2.2.1;have HBT2:=hid hBT2;have HB2:=hid (HB1.out.trans (hb2.mono HB1.out.size));clear hb2 hBT2 c0 c7)
         refine HK.out _ _ ?_
         clear HK K
         rw [dropSeq_succ]
         refine wp_two_k (c:=dropSeq 3 fl0) ⟨_,_,rfl⟩ fun K hK=>?_
         have HK:=hid hK
         clear hK
         conv=>arg 2;whnf
         go_wp2_with (go_at_call 41;refine (is_same _ _ _ _ 32 ⟨g2,rfl,HN32.out ▸ HG.out⟩).mono ?_;rintro e wx ⟨rfl,hw⟩;have hw:=hw.symm;subst hw)
         refine HK.out _ _ ?_
         clear HK K
         rw [dropSeq_succ]
         rw [HOV.out] at d7
         refine wp_two_k (c:=dropSeq 4 fl0) ⟨_,_,rfl⟩ fun K hK=>?_
         have HK:=hid hK
         clear hK
         conv=>arg 2;whnf
         go_wp2_with fail
         refine HK.out _ _ ?_
         clear HK K
         rw [dropSeq_succ]
         refine wp_two_k (c:=dropSeq 5 fl0) ⟨_,_,rfl⟩ fun K hK=>?_
         have HK:=hid hK
         clear hK
         conv=>arg 2;whnf
         go_wp2_with fail
         refine HK.out _ _ ?_
         clear HK K
         rw [dropSeq_succ]
         rw [HQ.out]
         have HU:=hid (UB.of_below (L:=L) (τ:=τ) HB2.out)
         refine wp_mono (flush_2 w2 L τ gt gd d T Y HBT2.out true _ HP.out HT.out.1 (HU.out.half HT.out.2.1 (by have:=HH.out.t.sz;omega) HT.out.2.2 (HH.out.t.low 2 (by decide))) HT.out.2.2 (fun q=>by cases q) (fun _=>HPP.out.c HN32.out) _ _ _ _ _ _ _ _ _ _ _ _ _ _ _ _ _ _ _ _ _ _ _ _ _ _ _ _ _ _ _ _ _ _ _ _ _ _ _ _ _ _ _ _ _ _ _ _ _ _ _ _ _ _ _ _ _ _ _ _ _ _ _ _ _ _ _ _ _ _ _ _ _ _ _ _ _ _ _ _ _ _ _ _ _ ) ?_
         exact bodyPost_mono' (fun e w' ⟨v,q1,q2,L',q3,q4⟩=>⟨v,q1,q2,L',q3,HU.out.trans q4⟩)
     · have HN32:=hid hn32
       have HQ:=hid (show flushD d T=(d,T,(d.length tlN).2) by unfold flushD;rw [if_neg (fun q=>q hl),if_neg hn32,if_pos hn0])
       clear hl hn0 hn32
       go_enter Tryz.func12,Tryz.ntmps12
       refine wp_two_k (c:=fl0) ⟨_,_,rfl⟩ fun K hK=>?_
       have HK:=hid hK
       clear hK
       conv=>arg 2;whnf
       go_wp2_with fail
       refine HK.out _ _ ?_
       clear HK K
       refine wp_two_k (c:=dropSeq 1 fl0) ⟨_,_,rfl⟩ fun K hK=>?_
       have HK:=hid hK
       clear hK
       conv=>arg 2;whnf
       go_wp2_with (go_at_call 39;refine HLV.out.mono ?_;rintro e w1 ⟨⟨v,rfl,hv⟩,hb1⟩;rw [HL.out] at hv;obtain rfl:v=.nilIface:=(hv.resolve_right fun q=>q.1 rfl).2;have hBT1:=HH.out.below hb1;have c0:=hBT1.t.cells.1;have c7:=hBT1.t.cells.2.2.2.2.2.2.1;have HBT1:=hid hBT1;have HLN:=hid (length_any w1 L gd d hBT1.d HP.out tlN (by decide));have HB1:=hid hb1;clear hv hb1 hBT1)
       refine HK.out _ _ ?_
       clear HK K
       rw [dropSeq_succ]
       refine wp_two_k (c:=dropSeq 2 fl0) ⟨_,_,rfl⟩ fun K hK=>?_
       have HK:=hid hK
       clear hK
       conv=>arg 2;whnf
       go_wp2_with (go_at_call 40;refine HLN.out.mono ?_;rintro e w2 ⟨hb2,v,rfl,hv⟩;have HIS:=hid hv.tv;obtain ⟨g2,rfl,hg2,-⟩:=(hv.resolve_left fun q=>HN0.out q.1).2;have HG:=hid hg2;clear hv hg2;have hBT2:=HBT1.out.below hb2;have d0:=hBT2.t.cells.1;have d7:=hBT2.t.cells.2.2.2.2.2.2.1;have HBT2:=hid hBT2;have HB2:=hid (HB1.out.trans (hb2.mono HB1.out.size));clear hb2 hBT2 c0 c7)
       refine HK.out _ _ ?_
       clear HK K
       rw [dropSeq_succ]
       refine wp_two_k (c:=dropSeq 3 fl0) ⟨_,_,rfl⟩ fun K hK=>?_
       have HK:=hid hK
       clear hK
       conv=>arg 2;whnf
       go_wp2_with (go_at_call 41;refine (is_other _ _ _ _ _ 32 ⟨g2,rfl,HG.out⟩ HN32.out).mono ?_;rintro e wx ⟨rfl,hw⟩;have hw:=hw.symm;subst hw)
       refine HK.out _ _ ?_
       clear HK K
       rw [dropSeq_succ]
       rw [HOV.out] at d7
       conv=>arg 2;whnf
       go_wp2_with fail
       go_ret
       rw [HQ.out]
       exact ⟨_,rfl,.inr ⟨HN0.out,_,_,g2,rfl,HG.out⟩,L,HBT2.out,UB.of_below HB2.out⟩
 · have HL:=hid hl
   have HQ:=hid (show flushD d T=(d,T,T.live d tlN) by unfold flushD;rw [if_pos hl])
   clear hl
   go_enter Tryz.func12,Tryz.ntmps12
   go_wp2_with (go_at_call 39;refine HLV.out.mono ?_;rintro e w1 ⟨⟨v,rfl,hv⟩,hb1⟩;obtain ⟨g2,rfl,hg2,-⟩:=(hv.resolve_left fun q=>HL.out q.1).2;have HB1:=hid hb1;have HG:=hid hg2;clear hv hb1 hg2)
   go_ret
   rw [HQ.out]
   exact ⟨_,rfl,.inr ⟨HL.out,_,_,g2,rfl,HG.out⟩,L,HH.out.below HB1.out,UB.of_below HB1.out⟩
end
section
open Go.Maps Go.WideMaps Go.ChangeMaps
theorem slice_to2 (w:World) (a:Option Addr) (n c k:Nat) (hk:k≤c):(Instr.slice 96 (.slice a n c) none (some (.int .i64 (k:Int))) none).run Tryz.prog w=.ok (.slice a k c) w:=by
 obtain ⟨i,hi,hz0,hz1,hz2⟩:=info_parts sl96.inf
 have he:Tryz.prog.elem 96=121:=by simp [Program.elem,sl96.und]
 have h1:Tryz.prog.underlying 96=some (.slice (Tryz.prog.elem 96)):=by rw [he];exact sl96.und
 have h2:(sizeOf (Tryz.prog.elem 96)).run Tryz.prog w=.ok 2 w:=by rw [he];simp [sizeOf,typeInfo,hi,hz1]
 rw [run_slice_h w 96 a n c h1 .i64 k (by omega) (by omega),h2]
 have e:a.map (·.add 0)=a:=by cases a with | none=>rfl | some x=>cases x;simp [Addr.add]
 simp [Result.andThen,sliced,e]
set_option maxHeartbeats 4000000
theorem flushed_any (w:World) (τ:Nat→Nat) (gt gd:Nat) (T:TT) (Y:TY) (h:TS w τ gt gd T Y) (hh:T.held≤T.L.length / 256) :
 Calls Tryz.prog 19 #[.pointer (some ⟨gt,0,none⟩)] w fun e w'=>e=.returned (.int .i64 ((256 * T.held:Nat):Int))∧Below w.heap.size w w':=by
 have c7:=h.cells.2.2.2.2.2.2.1
 have c8:=h.cells.2.2.2.2.2.2.2.1
 have hord:=h.ord.1
 have hfew:=h.few
 obtain ⟨H,hH⟩:∃ H,H=T.held:=⟨_,rfl⟩
 obtain ⟨F,hF⟩:∃ F,F=T.L.length / 256:=⟨_,rfl⟩
 rw [← hF] at hord hh
 rw [← hH] at c8 hh
 rw [← hH]
 obtain ⟨a,cap,hv,-⟩:=owns_shape hord
 rw [hv] at hord c7
 have hcap:F≤cap:=by
  rcases hord.2 with ⟨q,q0⟩ | ⟨g',cap',cur,q,-,-,q1,-⟩
  · omega
  · injection q with q2 q3 q4;omega
 have hds:RS 2 ordE w a F cap (List.range F):=RS.of_owns (base:=0) (e:=121) hord (by decide) (fun _=>rfl) (by omega)
 have hsl:=fun wx=>slice_to2 wx a F cap H (by omega)
 have HDS:=hid hds
 have HX:=hid (And.intro hh (And.intro hfew hF))
 clear h hord hfew hH hF hv hcap hds hh
 go_enter Tryz.func19,Tryz.ntmps19
 go_wp2_with fail
 go_quiet (fail)
 go_wp2_with fail
 clear hsl c7 c8
 go_loopw [16,3,5] (fun v r _ wr=>∃ k:Nat,k≤H∧v=.int .i64 k∧r=.int .i64 ((256 * k:Nat):Int)∧Below w.heap.size w wr) (fun v _ _ _=>H - (intOf v).toNat)
 case atStart=>exact ⟨0,by omega,rfl,rfl,below_drewN (Below.refl _ _) _⟩
 case round =>
  obtain ⟨k,hk,rfl,rfl,hb⟩:=hrel
  have HB:=hid hb
  by_cases hlt:k < H
  · obtain ⟨-,-,-,hds⟩:=HDS.out.below hb
    obtain ⟨g,off',e1,hc⟩:=hds k k (by have:=HX.out.1;rw [List.getElem?_range (by omega)])
    obtain ⟨b0,o0,e2⟩:∃ b o,a=some ⟨b,o,none⟩:=⟨_,_,e1⟩
    subst e1
    have hc0:=hc 0 (.int .i64 ((0:Nat):Int)) rfl
    have hc1:=hc 1 (.int .i64 (k:Int)) rfl
    rw [show off'+k * 2+0=off'+k * 2 by omega] at hc0
    have h9:decide ((k:Int) < (H:Int))=true:=by simp;omega
    have HLT:=hid hlt
    have hk7:k≤1000:=by have:=HX.out;omega
    have hw1:IntKind.i64.wrap (((256 * k:Nat):Int)+256)=((256 * (k+1):Nat):Int):=by rw [IntWalk.i64_in _ (by omega)];omega
    clear hk hb hlt hds hc e2
    have HKK:=hid hk7
    go_wp2_with fail
    have h1:=HLT.out
    have h2:=HKK.out
    exact ⟨⟨k+1,h1,by push_cast;rfl,by congr 1,HB.out.alloc (by have:=HB.out.size;omega) _⟩,by simp [intOf];omega⟩
  · obtain rfl:k=H:=by omega
    have h9:decide ((k:Int) < (k:Int))=false:=by simp
    clear hk hb hlt
    go_wp2_with fail
    go_ret
    exact ⟨rfl,HB.out⟩
end
section
open Go.Maps Go.WideMaps Go.ChangeMaps
def wholeD (d:Dm):List UInt8 × Int :=
 if (d.length tlN).2=32 then ([],0) else if (d.length tlN).2 ≠ 0 then ([],(d.length tlN).2) else d.read tlN 0 (d.length tlN).1
set_option maxHeartbeats 4000000
theorem whole_any (w:World) (L:Lay) (gd:Nat) (d:Dm) (h:DAt w L gd d) (hp:Pre d) (hn0:-9223372036854775808≤(d.length tlN).1) (hn1:(d.length tlN).1≤9223372036854775807) :
 Calls Tryz.prog 55 #[.pointer (some ⟨gd,0,none⟩)] w fun e w'=>Below w.heap.size w w'∧∃ a m c v,e=.returned (.tuple #[.slice a m c,v])∧w'.ownsRow w.heap.size 5 1 (.slice a m c) m ((wholeD d).1.map b8)∧m=(wholeD d).1.length∧TV v w' (wholeD d).2:=by
 have HLN:=hid (length_any w L gd d h hp tlN (by decide))
 have HH:=hid h
 have HX:=hid (And.intro hp (And.intro hn0 hn1))
 clear h hp hn0 hn1
 by_cases hz:(d.length tlN).2=0
 · have HN0:=hid hz
   have HQ:=hid (show wholeD d=d.read tlN 0 (d.length tlN).1 by unfold wholeD;rw [if_neg (by rw [hz];decide),if_neg (fun q=>q hz)])
   clear hz
   go_enter Tryz.func55,Tryz.ntmps55
   go_wp2_with (first
    | (go_at_call 40;refine HLN.out.mono ?_;rintro e w2 ⟨hb2,v,rfl,hv⟩;rw [HN0.out] at hv;obtain rfl:v=.nilIface:=(hv.resolve_right fun q=>q.1 rfl).2;clear hv;have HB2:=hid hb2;clear hb2)
    | (go_at_call 41;refine (is_nil _ 32).mono ?_;rintro e wx ⟨rfl,hw⟩;have hw:=hw.symm;subst hw)
    | (go_at_call 69;refine (read_any w2 L gd d (HH.out.below HB2.out) HX.out.1 tlN (by decide) 0 _ (by decide) (by decide) HX.out.2.1 HX.out.2.2).mono ?_;rintro e w3 ⟨hb3,a,m,c,v,rfl,ho,hm,hv⟩;have HB3:=hid (HB2.out.trans (hb3.mono HB2.out.size));have HO:=hid ho;have HM:=hid hm;have HV:=hid hv;clear hb3 ho hm hv))
   refine bodyPost_ret (v:=.tuple #[.slice a m c,v]) (by simp [results,Tryz.results55,go_sem]) rfl ?_
   rw [HQ.out]
   exact ⟨HB3.out,a,m,c,v,rfl,own_mono HO.out HB2.out.size,HM.out,HV.out.tv⟩
 · have HN0:=hid hz
   by_cases hn32:(d.length tlN).2=32
   · have HN32:=hid hn32
     have HQ:=hid (show wholeD d=([],0) by unfold wholeD;rw [if_pos hn32])
     clear hz hn32
     go_enter Tryz.func55,Tryz.ntmps55
     go_wp2_with (first
      | (go_at_call 40;refine HLN.out.mono ?_;rintro e w2 ⟨hb2,v,rfl,hv⟩;obtain ⟨g2,rfl,hg2,-⟩:=(hv.resolve_left fun q=>HN0.out q.1).2;have HG:=hid hg2;clear hv hg2;have HB2:=hid hb2;clear hb2)
      | (go_at_call 41;refine (is_same _ _ _ _ 32 ⟨g2,rfl,HN32.out ▸ HG.out⟩).mono ?_;rintro e wx ⟨rfl,hw⟩;have hw:=hw.symm;subst hw))
     refine bodyPost_ret (v:=.tuple #[.slice none 0 0,.nilIface]) (by simp [results,Tryz.results55,go_sem]) rfl ?_
     rw [HQ.out]
     exact ⟨HB2.out,none,0,0,_,rfl,World.ownsRow_nil _ _ _ _,rfl,.inl ⟨rfl,rfl⟩⟩
   · have HN32:=hid hn32
     have HQ:=hid (show wholeD d=([],(d.length tlN).2) by unfold wholeD;rw [if_neg hn32,if_pos hz])
     clear hz hn32
     go_enter Tryz.func55,Tryz.ntmps55
     go_wp2_with (first
      | (go_at_call 40;refine HLN.out.mono ?_;rintro e w2 ⟨hb2,v,rfl,hv⟩;obtain ⟨g2,rfl,hg2,-⟩:=(hv.resolve_left fun q=>HN0.out q.1).2;have HG:=hid hg2;clear hv hg2;have HB2:=hid hb2;clear hb2)
      | (go_at_call 41;refine (is_other _ _ _ _ _ 32 ⟨g2,rfl,HG.out⟩ HN32.out).mono ?_;rintro e wx ⟨rfl,hw⟩;have hw:=hw.symm;subst hw))
     refine bodyPost_ret (v:=.tuple #[.slice none 0 0,.iface 90 (.pointer (some ⟨g2,0,none⟩))]) (by simp [results,Tryz.results55,go_sem]) rfl ?_
     rw [HQ.out]
     exact ⟨HB2.out,none,0,0,_,rfl,World.ownsRow_nil _ _ _ _,rfl,.inr ⟨HN0.out,_,_,g2,rfl,HG.out⟩⟩
end
section
theorem dt_mid (A B C:List UInt8) (p k:Nat) (hp:A.length=p) (hk:B.length=k):((A++B++C).drop p).take k=B:=by
 subst hp hk
 rw [List.append_assoc,List.drop_left,List.take_left]
theorem tile_kind (wd j:Nat) (ds:List Dg):((tileP wd j ds).drop 0).take 1=be 1 210:=by
 unfold tileP tileH
 have:=dt_mid [] (be 1 210) (be 1 wd++be 1 0++be 8 j++(ds.map (·.1)).flatten++be 4 (crc (be 1 210++be 1 wd++be 1 0++be 8 j++(ds.map (·.1)).flatten)).toNat) 0 1 rfl (be_len _ _)
 simpa [List.append_assoc] using this
theorem tile_wd (wd j:Nat) (ds:List Dg):((tileP wd j ds).drop 1).take 1=be 1 wd:=by
 unfold tileP tileH
 have:=dt_mid (be 1 210) (be 1 wd) (be 1 0++be 8 j++(ds.map (·.1)).flatten++be 4 (crc (be 1 210++be 1 wd++be 1 0++be 8 j++(ds.map (·.1)).flatten)).toNat) 1 1 (be_len _ _) (be_len _ _)
 simpa only [List.append_assoc] using this
theorem tile_lvl (wd j:Nat) (ds:List Dg):((tileP wd j ds).drop 2).take 1=be 1 0:=by
 unfold tileP tileH
 have:=dt_mid (be 1 210++be 1 wd) (be 1 0) (be 8 j++(ds.map (·.1)).flatten++be 4 (crc (be 1 210++be 1 wd++be 1 0++be 8 j++(ds.map (·.1)).flatten)).toNat) 2 1 (by simp [be_len]) (be_len _ _)
 simpa only [List.append_assoc] using this
theorem tile_idx (wd j:Nat) (ds:List Dg):((tileP wd j ds).drop 3).take 8=be 8 j:=by
 unfold tileP tileH
 have:=dt_mid (be 1 210++be 1 wd++be 1 0) (be 8 j) ((ds.map (·.1)).flatten++be 4 (crc (be 1 210++be 1 wd++be 1 0++be 8 j++(ds.map (·.1)).flatten)).toNat) 3 8 (by simp [be_len]) (be_len _ _)
 simpa only [List.append_assoc] using this
theorem tile_head (wd j:Nat) (ds:List Dg) (h:ds.length=256):(tileP wd j ds).take 8203=tileH wd j ds:=by
 unfold tileP
 exact List.take_left' (by rw [tileH_len,h])
theorem tile_crc (wd j:Nat) (ds:List Dg) (h:ds.length=256):((tileP wd j ds).drop 8203).take 4=be 4 (crc (tileH wd j ds)).toNat:=by
 unfold tileP
 rw [List.drop_left' (by rw [tileH_len,h]),List.take_of_length_le (by rw [be_len];exact Nat.le_refl _)]
theorem flat_nth:∀ (ds:List Dg) (i:Nat) (d:Dg) (T:List UInt8),ds[i]?=some d→(((ds.map (·.1)).flatten++T).drop (32 * i)).take 32=d.1
 | [],i,d,T,h=>by simp at h
 | x :: ds,0,d,T,h=>by
   simp only [List.getElem?_cons_zero,Option.some.injEq] at h
   subst h
   rw [List.map_cons,List.flatten_cons,List.append_assoc,Nat.mul_zero,List.drop_zero]
   exact List.take_left' x.2
 | x :: ds,i+1,d,T,h=>by
   simp only [List.getElem?_cons_succ] at h
   rw [List.map_cons,List.flatten_cons,List.append_assoc,show 32 * (i+1)=x.1.length+32 * i by rw [x.2];omega,← List.drop_drop,List.drop_left]
   exact flat_nth ds i d T h
theorem tile_ds (wd j:Nat) (ds:List Dg) (h:ds.length=256):dsOf (tileP wd j ds) 11 256=ds:=by
 apply List.ext_getElem?
 intro i
 unfold dsOf
 rw [List.getElem?_map]
 by_cases hi:i < 256
 · rw [List.getElem?_range hi]
   obtain ⟨d,hd⟩:∃ d,ds[i]?=some d:=⟨_,List.getElem?_eq_getElem (by omega)⟩
   rw [hd]
   simp only [Option.map_some,Option.some.injEq]
   have e:((tileP wd j ds).drop (11+32 * i)).take 32=d.1:=by
    have h1:tileP wd j ds=(be 1 210++be 1 wd++be 1 0++be 8 j)++((ds.map (·.1)).flatten++be 4 (crc (tileH wd j ds)).toNat):=by unfold tileP tileH;simp only [List.append_assoc]
    rw [h1,← List.drop_drop,List.drop_left' (by simp [be_len])]
    exact flat_nth ds i d _ hd
   rw [e]
   exact Subtype.ext (dgOf_eq _ d.2)
 · rw [List.getElem?_eq_none (by simp;omega),List.getElem?_eq_none (by omega)];rfl
end
end Go.Proofs.YtgkehahklccacaaGreatDoor
