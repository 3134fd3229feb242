import Derived.Test.YtgkehahklccacaaGreatDoorC22
namespace Go.Proofs.YtgkehahklccacaaGreatDoor
open Go Go.RowKit
open Go.Lib (hid)
set_option maxRecDepth 100000
set_option maxHeartbeats 1000000
set_option linter.unusedVariables false
set_option linter.unusedSimpArgs false
section
open Go.Maps Go.WideMaps Go.ChangeMaps
def fl2 (m:Bool) (N:Int) (d:Dm) (T:TT):Dm × TT × Int :=
 if m=true then
  let T1:={ T with l0:=true,l1:=true }
  let c:=d.create tlN
  if c.2 ≠ 0 then (c.1,T1,pas c.2) else fl3 N c.1 T1
 else fl3 N d T
structure P3 (N:Int) (d:Dm) (T:TT):Prop where
 a:Pre d
 b:¬ N > ((T.held * 8207:Nat):Int)→P4 d T
 c:N > ((T.held * 8207:Nat):Int)→(d.cut tlN ((T.held * 8207:Nat):Int)).2=0→P4 (d.cut tlN ((T.held * 8207:Nat):Int)).1 { T with l0:=true }
set_option maxHeartbeats 4000000
theorem flush_2 (w:World) (L:Lay) (τ:Nat→Nat) (gt gd:Nat) (d:Dm) (T:TT) (Y:TY) (h:BT w L τ gt gd d T Y) (m:Bool) (N:Int) (hp:Pre d) (hh:T.held≤T.L.length / 256) (ht:HalfTab w) (hl2:L.ρ 2=0)
 (hp1:m=false→P3 N d T) (hp2:m=true→(d.create tlN).2=0→P3 N (d.create tlN).1 { T with l0:=true,l1:=true }) (u1 u2 u3 u5 u7 u8 u9 uA uB uC uD uE uF uG uH uI uJ uK uL uM uN uO uP uQ uR uS uT uU uV uW uX uY uZ vA vB vC vD vE vF vG vH vI vJ vK vL vM vN vO vP vQ vR vS vT vU vV vW vX vY vZ qA qB qC qD qE qF qG qH qI qJ qK qL qM qN qO qP qQ qR qS qT qU qV qW qX qY qZ:Value) :
 Code.wp Tryz.prog (dropSeq 6 fl0) (bodyPost Tryz.prog Tryz.f12 (SyR L τ gt gd Y w (fl2 m N d T))) ⟨#[.pointer (some ⟨gt,0,none⟩),u1,u2,u3,.int .i64 N,u5,.bool m,u7,u8,u9,uA,uB,uC,uD,uE,uF,uG,uH,uI,uJ,uK,uL,uM,uN,uO,uP,uQ,uR,uS,uT,uU,uV,uW,uX,uY,uZ,vA,vB,vC,vD,vE,vF,vG,vH,vI,vJ,vK,vL,vM,vN,vO,vP,vQ,vR,vS,vT,vU,vV,vW,vX,vY,vZ,qA,qB,qC,qD,qE,qF,qG,qH,qI,qJ,qK,qL,qM,qN,qO,qP,qQ,qR,qS,qT,qU,qV,qW,qX,qY,qZ],[]⟩ w:=by
 have c0:=h.t.cells.1
 cases m
 · have q:=hp1 rfl
   have HX:=hid (fun u1 u2 u3 u5 u6 u7 u8 u9 uA uB uC uD uE uF uG uH uI uJ uK uL uM uN uO uP uQ uR uS uT uU uV uW uX uY uZ vA vB vC vD vE vF vG vH vI vJ vK vL vM vN vO vP vQ vR vS vT vU vV vW vX vY vZ qA qB qC qD qE qF qG qH qI qJ qK qL qM qN qO qP qQ qR qS qT qU qV qW qX qY qZ=>flush_3 w L τ gt gd d T Y h N q.a hh ht hl2 q.b q.c u1 u2 u3 u5 u6 u7 u8 u9 uA uB uC uD uE uF uG uH uI uJ uK uL uM uN uO uP uQ uR uS uT uU uV uW uX uY uZ vA vB vC vD vE vF vG vH vI vJ vK vL vM vN vO vP vQ vR vS vT vU vV vW vX vY vZ qA qB qC qD qE qF qG qH qI qJ qK qL qM qN qO qP qQ qR qS qT qU qV qW qX qY qZ)
   clear h hp hh ht hl2 hp1 hp2 q
   refine wp_two_k (c:=dropSeq 6 fl0) ⟨_,_,rfl⟩ fun K hK=>?_
   have HK:=hid hK
   clear hK
   conv=>arg 2;whnf
   go_wp2_with fail
   refine HK.out _ _ ?_
   rw [dropSeq_succ]
   exact HX.out _ _ _ _ _ _ _ _ _ _ _ _ _ _ _ _ _ _ _ _ _ _ _ _ _ _ _ _ _ _ _ _ _ _ _ _ _ _ _ _ _ _ _ _ _ _ _ _ _ _ _ _ _ _ _ _ _ _ _ _ _ _ _ _ _ _ _ _ _ _ _ _ _ _ _ _ _ _ _ _ _ _ _ _ _ _ 
 · have e9:=h.t.cells.2.2.2.2.2.2.2.2.1
   have f9:=h.t.cells.2.2.2.2.2.2.2.2.2.2 9
   have e10:=h.t.cells.2.2.2.2.2.2.2.2.2.1
   have f10:=h.t.cells.2.2.2.2.2.2.2.2.2.2 10
   have HH:=hid h
   have HT:=hid (And.intro hp (And.intro ht (And.intro hl2 hh)))
   have HP2:=hid (hp2 rfl)
   clear h hp hh ht hl2 hp1 hp2
   obtain ⟨hb1,hg1⟩:=row_setCell (i:=9) HH.out.t.box (.bool true)
   obtain ⟨ht1,hu1⟩:=HH.out.t.own1 (T':={ T with l0:=true }) hg1 hb1 rfl rfl
   obtain ⟨hb2,hg2⟩:=row_setCell (i:=10) ht1.box (.bool true)
   obtain ⟨ht2,hu2⟩:=ht1.own1 (T':={ T with l0:=true,l1:=true }) hg2 hb2 rfl rfl
   have hBT1:=(HH.out.tiles ht1 hu1).tiles ht2 hu2
   have HBT1:=hid hBT1
   have HU1:=hid ((UB.of_tiles (L:=L) hu1).trans (UB.of_tiles (L:=L) hu2))
   have HCR:=hid (create_any _ L gd d hBT1.d HT.out.1 tlN (by decide))
   clear hb1 hg1 ht1 hu1 hb2 hg2 ht2 hu2 hBT1
   by_cases hy:(d.create tlN).2=0
   · have HY:=hid hy
     have HP:=hid (HP2.out hy)
     have HQ:=hid (show fl2 true N d T=fl3 N (d.create tlN).1 { T with l0:=true,l1:=true } by unfold fl2;rw [if_pos rfl];exact if_neg (fun q=>q hy))
     clear hy
     refine wp_two_k (c:=dropSeq 6 fl0) ⟨_,_,rfl⟩ fun K hK=>?_
     have HK:=hid hK
     clear hK
     conv=>arg 2;whnf
     go_wp2_with (go_at_call 42;refine HCR.out.mono ?_;rintro e w2 ⟨L2,hD2,hU2,v,rfl,hv⟩;rw [HY.out] at hv;obtain rfl:v=.nilIface:=(hv.resolve_right fun q=>q.1 rfl).2;have HBT2:=hid (HBT1.out.disk hD2 hU2);have HU2:=hid (HU1.out.trans (UB.of_disk hU2));have HL2:=hid (hU2.ext.old 2 (by have:=HH.out.t.sz;have:=HU1.out.size;omega) HT.out.2.2.1);clear hv hD2 hU2)
     refine HK.out _ _ ?_
     rw [dropSeq_succ,HQ.out]
     refine wp_mono (flush_3 w2 L2 τ gt gd _ _ Y HBT2.out N HP.out.a HT.out.2.2.2 (HU2.out.half HT.out.2.1 (by have:=HH.out.t.sz;omega) HT.out.2.2.1 (HH.out.t.low 2 (by decide))) HL2.out HP.out.b HP.out.c _ _ _ _ _ _ _ _ _ _ _ _ _ _ _ _ _ _ _ _ _ _ _ _ _ _ _ _ _ _ _ _ _ _ _ _ _ _ _ _ _ _ _ _ _ _ _ _ _ _ _ _ _ _ _ _ _ _ _ _ _ _ _ _ _ _ _ _ _ _ _ _ _ _ _ _ _ _ _ _ _ _ _ _ _ _ ) ?_
     exact bodyPost_mono' (fun e w' ⟨v,q1,q2,L',q3,q4⟩=>⟨v,q1,q2,L',q3,HU2.out.trans q4⟩)
   · have HY:=hid hy
     have HQ:=hid (show fl2 true N d T=((d.create tlN).1,{ T with l0:=true,l1:=true },pas (d.create tlN).2) by unfold fl2;rw [if_pos rfl];exact if_pos hy)
     clear hy
     refine wp_two_k (c:=dropSeq 6 fl0) ⟨_,_,rfl⟩ fun K hK=>?_
     clear hK
     conv=>arg 2;whnf
     go_wp2_with (first
      | (go_at_call 42;refine HCR.out.mono ?_;rintro e w2 ⟨L2,hD2,hU2,v,rfl,hv⟩;have HPA:=hid (passed_any w2 v _ hv.tv);obtain ⟨g2,rfl,hg2,-⟩:=(hv.resolve_left fun q=>HY.out q.1).2;have HBT2:=hid (HBT1.out.disk hD2 hU2);have HU2:=hid (HU1.out.trans (UB.of_disk hU2));clear hv hD2 hU2 hg2)
      | (go_at_call 43;refine HPA.out.mono ?_;rintro e w3 ⟨⟨v,rfl,hv⟩,rfl⟩;have HV:=hid hv;clear hv))
     go_ret
     rw [HQ.out]
     exact ⟨_,rfl,HV.out,L2,HBT2.out,HU2.out⟩
end
section
open Go.Maps Go.WideMaps Go.ChangeMaps
def flushD (d:Dm) (T:TT):Dm × TT × Int :=
 if T.live d tlN ≠ 0 then (d,T,T.live d tlN) else
 if (d.length tlN).2=32 then (if T.L.length / 256=0 then (d,T,0) else fl2 true (d.length tlN).1 d T) else
 if (d.length tlN).2 ≠ 0 then (d,T,(d.length tlN).2) else fl2 false (d.length tlN).1 d T
structure P2 (d:Dm) (T:TT):Prop where
 a:Pre d
 b:(d.length tlN).2=0→P3 (d.length tlN).1 d T
 c:(d.length tlN).2=32→(d.create tlN).2=0→P3 (d.length tlN).1 (d.create tlN).1 { T with l0:=true,l1:=true }
set_option maxHeartbeats 4000000
theorem flush_any (w:World) (L:Lay) (τ:Nat→Nat) (gt gd:Nat) (d:Dm) (T:TT) (Y:TY) (h:BT w L τ gt gd d T Y) (hh:T.held≤T.L.length / 256) (ht:HalfTab w) (hl2:L.ρ 2=0) (hp:P2 d T) :
 Calls Tryz.prog 12 #[.pointer (some ⟨gt,0,none⟩)] w (SyR L τ gt gd Y w (flushD d T)):=by
 have HLV:=hid (live_any w L τ gt gd d T Y h ⟨#[70,108,117,115,104]⟩)
 have HH:=hid h
 have HT:=hid (And.intro hh (And.intro ht hl2))
 have HPP:=hid hp
 have HP:=hid hp.a
 have hord:=h.t.ord.1
 have hv0:∃ a c,Y.ordV=.slice a (T.L.length / 256) c:=by
  rcases hord.2 with ⟨hv,h0⟩ | ⟨g,cap,cur,hv,-⟩
  · exact ⟨none,0,by rw [hv,h0]⟩
  · exact ⟨_,_,hv⟩
 obtain ⟨oa,oc,hov⟩:=hv0
 have HOV:=hid hov
 obtain ⟨F,hF⟩:∃ F,F=T.L.length / 256:=⟨_,rfl⟩
 rw [← hF] at HOV
 have HF:=hid hF
 clear h hh ht hl2 hp hord hov hF
 by_cases hl:T.live d tlN=0
 · have HL:=hid hl
   by_cases hn0:(d.length tlN).2=0
   · have HN0:=hid hn0
     have HQ:=hid (show flushD d T=fl2 false (d.length tlN).1 d T by unfold flushD;rw [if_neg (fun q=>q hl),if_neg (by rw [hn0];decide),if_neg (fun q=>q hn0)])
     have HP3:=hid (HPP.out.b hn0)
     clear hl hn0
     go_enter Tryz.func12,Tryz.ntmps12
     refine wp_two_k (c:=fl0) ⟨_,_,rfl⟩ fun K hK=>?_
     have HK:=hid hK
     clear hK
     conv=>arg 2;whnf
     go_wp2_with fail
     refine HK.out _ _ ?_
     clear HK K
     refine wp_two_k (c:=dropSeq 1 fl0) ⟨_,_,rfl⟩ fun K hK=>?_
     have HK:=hid hK
     clear hK
     conv=>arg 2;whnf
     go_wp2_with (go_at_call 39;refine HLV.out.mono ?_;rintro e w1 ⟨⟨v,rfl,hv⟩,hb1⟩;rw [HL.out] at hv;obtain rfl:v=.nilIface:=(hv.resolve_right fun q=>q.1 rfl).2;have hBT1:=HH.out.below hb1;have c0:=hBT1.t.cells.1;have c7:=hBT1.t.cells.2.2.2.2.2.2.1;have HBT1:=hid hBT1;have HLN:=hid (length_any w1 L gd d hBT1.d HP.out tlN (by decide));have HB1:=hid hb1;clear hv hb1 hBT1)
     refine HK.out _ _ ?_
     clear HK K
     rw [dropSeq_succ]
     refine wp_two_k (c:=dropSeq 2 fl0) ⟨_,_,rfl⟩ fun K hK=>?_
     have HK:=hid hK
     clear hK
     conv=>arg 2;whnf
     go_wp2_with (go_at_call 40;refine HLN.out.mono ?_;rintro e w2 ⟨hb2,v,rfl,hv⟩;rw [HN0.out] at hv;obtain rfl:v=.nilIface:=(hv.resolve_right fun q=>q.1 rfl).2;clear hv;have hBT2:=HBT1.out.below hb2;have d0:=hBT2.t.cells.1;have d7:=hBT2.t.cells.2.2.2.2.2.2.1;have HBT2:=hid hBT2;have HB2:=hid (HB1.out.trans (hb2.mono HB1.out.size));clear hb2 hBT2 c0 c7)
     refine HK.out _ _ ?_
     clear HK K
     rw [dropSeq_succ]
     refine wp_two_k (c:=dropSeq 3 fl0) ⟨_,_,rfl⟩ fun K hK=>?_
     have HK:=hid hK
     clear hK
     conv=>arg 2;whnf
     go_wp2_with (go_at_call 41;refine (is_nil _ 32).mono ?_;rintro e wx ⟨rfl,hw⟩;have hw:=hw.symm;subst hw)
     refine HK.out _ _ ?_
     clear HK K
     rw [dropSeq_succ]
     rw [HOV.out] at d7
     refine wp_two_k (c:=dropSeq 4 fl0) ⟨_,_,rfl⟩ fun K hK=>?_
     have HK:=hid hK
     clear hK
     conv=>arg 2;whnf
     go_wp2_with fail
     refine HK.out _ _ ?_
     clear HK K
     rw [dropSeq_succ]
     refine wp_two_k (c:=dropSeq 5 fl0) ⟨_,_,rfl⟩ fun K hK=>?_
     have HK:=hid hK
     clear hK
     conv=>arg 2;whnf
     go_wp2_with fail
     refine HK.out _ _ ?_
     clear HK K
     rw [dropSeq_succ]
     rw [HQ.out]
     have HU:=hid (UB.of_below (L:=L) (τ:=τ) HB2.out)
     refine wp_mono (flush_2 w2 L τ gt gd d T Y HBT2.out false _ HP.out HT.out.1 (HU.out.half HT.out.2.1 (by have:=HH.out.t.sz;omega) HT.out.2.2 (HH.out.t.low 2 (by decide))) HT.out.2.2 (fun _=>HP3.out) (fun q=>by cases q) _ _ _ _ _ _ _ _ _ _ _ _ _ _ _ _ _ _ _ _ _ _ _ _ _ _ _ _ _ _ _ _ _ _ _ _ _ _ _ _ _ _ _ _ _ _ _ _ _ _ _ _ _ _ _ _ _ _ _ _ _ _ _ _ _ _ _ _ _ _ _ _ _ _ _ _ _ _ _ _ _ _ _ _ _ ) ?_
     exact bodyPost_mono' (fun e w' ⟨v,q1,q2,L',q3,q4⟩=>⟨v,q1,q2,L',q3,HU.out.trans q4⟩)
   · have HN0:=hid hn0
     by_cases hn32:(d.length tlN).2=32
     · have HN32:=hid hn32
       by_cases hf:T.L.length / 256=0
       · have HQ:=hid (show flushD d T=(d,T,0) by unfold flushD;rw [if_neg (fun q=>q hl),if_pos hn32,if_pos hf])
         have hF0:F=0:=by rw [HF.out,hf]
         clear hl hn0 hn32 hf
         go_enter Tryz.func12,Tryz.ntmps12
         refine wp_two_k (c:=fl0) ⟨_,_,rfl⟩ fun K hK=>?_
         have HK:=hid hK
         clear hK
         conv=>arg 2;whnf
         go_wp2_with fail
         refine HK.out _ _ ?_
         clear HK K
         refine wp_two_k (c:=dropSeq 1 fl0) ⟨_,_,rfl⟩ fun K hK=>?_
         have HK:=hid hK
         clear hK
         conv=>arg 2;whnf
         go_wp2_with (go_at_call 39;refine HLV.out.mono ?_;rintro e w1 ⟨⟨v,rfl,hv⟩,hb1⟩;rw [HL.out] at hv;obtain rfl:v=.nilIface:=(hv.resolve_right fun q=>q.1 rfl).2;have hBT1:=HH.out.below hb1;have c0:=hBT1.t.cells.1;have c7:=hBT1.t.cells.2.2.2.2.2.2.1;have HBT1:=hid hBT1;have HLN:=hid (length_any w1 L gd d hBT1.d HP.out tlN (by decide));have HB1:=hid hb1;clear hv hb1 hBT1)
         refine HK.out _ _ ?_
         clear HK K
         rw [dropSeq_succ]
         refine wp_two_k (c:=dropSeq 2 fl0) ⟨_,_,rfl⟩ fun K hK=>?_
         have HK:=hid hK
         clear hK
         conv=>arg 2;whnf
         go_wp2_with (go_at_call 40;refine HLN.out.mono ?_;rintro e w2 ⟨hb2,v,rfl,hv⟩;have HIS:=hid hv.tv;obtain ⟨g2,rfl,hg2,-⟩:=(hv.resolve_left fun q=>HN0.out q.1).2;have HG:=hid hg2;clear hv hg2;have hBT2:=HBT1.out.below hb2;have d0:=hBT2.t.cells.1;have d7:=hBT2.t.cells.2.2.2.2.2.2.1;have HBT2:=hid hBT2;have HB2:=hid (HB1.out.trans (hb2.mono HB1.out.size));clear hb2 hBT2 c0 c7)
         refine HK.out _ _ ?_
         clear HK K
         rw [dropSeq_succ]
         refine wp_two_k (c:=dropSeq 3 fl0) ⟨_,_,rfl⟩ fun K hK=>?_
         have HK:=hid hK
         clear hK
         conv=>arg 2;whnf
         go_wp2_with (go_at_call 41;refine (is_same _ _ _ _ 32 ⟨g2,rfl,HN32.out ▸ HG.out⟩).mono ?_;rintro e wx ⟨rfl,hw⟩;have hw:=hw.symm;subst hw)
         refine HK.out _ _ ?_
         clear HK K
         rw [dropSeq_succ]
         rw [HOV.out,hF0] at d7
         clear hF0
         conv=>arg 2;whnf
         go_wp2_with fail
         go_ret
         rw [HQ.out]
         exact ⟨_,rfl,.inl ⟨rfl,rfl⟩,L,HBT2.out,UB.of_below HB2.out⟩
       · have HQ:=hid (show flushD d T=fl2 true (d.length tlN).1 d T by unfold flushD;rw [if_neg (fun q=>q hl),if_pos hn32,if_neg hf])
         have h9:decide ((F:Int)=0)=false:=decide_eq_false (by rw [HF.out];omega)
         have h8:((F:Int) == 0)=false:=by simp;rw [HF.out];omega
         have h7:¬ F=0:=by rw [HF.out];exact hf
         clear hl hn0 hn32 hf
         go_enter Tryz.func12,Tryz.ntmps12
         refine wp_two_k (c:=fl0) ⟨_,_,rfl⟩ fun K hK=>?_
         have HK:=hid hK
         clear hK
         conv=>arg 2;whnf
         go_wp2_with fail
         refine HK.out _ _ ?_
         clear HK K
         refine wp_two_k (c:=dropSeq 1 fl0) ⟨_,_,rfl⟩ fun K hK=>?_
         have HK:=hid hK
         clear hK
         conv=>arg 2;whnf
         go_wp2_with (go_at_call 39;refine HLV.out.mono ?_;rintro e w1 ⟨⟨v,rfl,hv⟩,hb1⟩;rw [HL.out] at hv;obtain rfl:v=.nilIface:=(hv.resolve_right fun q=>q.1 rfl).2;have hBT1:=HH.out.below hb1;have c0:=hBT1.t.cells.1;have c7:=hBT1.t.cells.2.2.2.2.2.2.1;have HBT1:=hid hBT1;have HLN:=hid (length_any w1 L gd d hBT1.d HP.out tlN (by decide));have HB1:=hid hb1;clear hv hb1 hBT1)
         refine HK.out _ _ ?_
         clear HK K
         rw [dropSeq_succ]
         refine wp_two_k (c:=dropSeq 2 fl0) ⟨_,_,rfl⟩ fun K hK=>?_
         have HK:=hid hK
         clear hK
         conv=>arg 2;whnf
         go_wp2_with (go_at_call 40;refine HLN.out.mono ?_;rintro e w2 ⟨hb2,v,rfl,hv⟩;have HIS:=hid hv.tv;obtain ⟨g2,rfl,hg2,-⟩:=(hv.resolve_left fun q=>HN0.out q.1).2;have HG:=hid hg2;clear hv hg2;have hBT2:=HBT1.out.below hb2;have d0:=hBT2.t.cells.1;have d7:=hBT2.t.cells.2.2.2.2.2.2.1;have HBT2:=hid hBT2;have HB2:=hid (HB1.out.trans (hb2.mono HB1.out.size));clear hb2 hBT2 c0 c7)
         refine HK.out _ _ ?_
         clear HK K
         rw [dropSeq_succ]
         refine wp_two_k (c:=dropSeq 3 fl0) ⟨_,_,rfl⟩ fun K hK=>?_
         have HK:=hid hK
         clear hK
         conv=>arg 2;whnf
         go_wp2_with (go_at_call 41;refine (is_same _ _ _ _ 32 ⟨g2,rfl,HN32.out ▸ HG.out⟩).mono ?_;rintro e wx ⟨rfl,hw⟩;have hw:=hw.symm;subst hw)
         refine HK.out _ _ ?_
         clear HK K
         rw [dropSeq_succ]
         rw [HOV.out] at d7
         refine wp_two_k (c:=dropSeq 4 fl0) ⟨_,_,rfl⟩ fun K hK=>?_
         have HK:=hid hK
         clear hK
         conv=>arg 2;whnf
         go_wp2_with fail
         refine HK.out _ _ ?_
         clear HK K
         rw [dropSeq_succ]
         refine wp_two_k (c:=dropSeq 5 fl0) ⟨_,_,rfl⟩ fun K hK=>?_
         have HK:=hid hK
         clear hK
         conv=>arg 2;whnf
         go_wp2_with fail
         refine HK.out _ _ ?_
         clear HK K
         rw [dropSeq_succ]
         rw [HQ.out]
         have HU:=hid (UB.of_below (L:=L) (τ:=τ) HB2.out)
         refine wp_mono (flush_2 w2 L τ gt gd d T Y HBT2.out true _ HP.out HT.out.1 (HU.out.half HT.out.2.1 (by have:=HH.out.t.sz;omega) HT.out.2.2 (HH.out.t.low 2 (by decide))) HT.out.2.2 (fun q=>by cases q) (fun _=>HPP.out.c HN32.out) _ _ _ _ _ _ _ _ _ _ _ _ _ _ _ _ _ _ _ _ _ _ _ _ _ _ _ _ _ _ _ _ _ _ _ _ _ _ _ _ _ _ _ _ _ _ _ _ _ _ _ _ _ _ _ _ _ _ _ _ _ _ _ _ _ _ _ _ _ _ _ _ _ _ _ _ _ _ _ _ _ _ _ _ _ ) ?_
         exact bodyPost_mono' (fun e w' ⟨v,q1,q2,L',q3,q4⟩=>⟨v,q1,q2,L',q3,HU.out.trans q4⟩)
     · have HN32:=hid hn32
       have HQ:=hid (show flushD d T=(d,T,(d.length tlN).2) by unfold flushD;rw [if_neg (fun q=>q hl),if_neg hn32,if_pos hn0])
       clear hl hn0 hn32
       go_enter Tryz.func12,Tryz.ntmps12
       refine wp_two_k (c:=fl0) ⟨_,_,rfl⟩ fun K hK=>?_
       have HK:=hid hK
       clear hK
       conv=>arg 2;whnf
       go_wp2_with fail
       refine HK.out _ _ ?_
       clear HK K
       refine wp_two_k (c:=dropSeq 1 fl0) ⟨_,_,rfl⟩ fun K hK=>?_
       have HK:=hid hK
       clear hK
       conv=>arg 2;whnf
       go_wp2_with (go_at_call 39;refine HLV.out.mono ?_;rintro e w1 ⟨⟨v,rfl,hv⟩,hb1⟩;rw [HL.out] at hv;obtain rfl:v=.nilIface:=(hv.resolve_right fun q=>q.1 rfl).2;have hBT1:=HH.out.below hb1;have c0:=hBT1.t.cells.1;have c7:=hBT1.t.cells.2.2.2.2.2.2.1;have HBT1:=hid hBT1;have HLN:=hid (length_any w1 L gd d hBT1.d HP.out tlN (by decide));have HB1:=hid hb1;clear hv hb1 hBT1)
       refine HK.out _ _ ?_
       clear HK K
       rw [dropSeq_succ]
       refine wp_two_k (c:=dropSeq 2 fl0) ⟨_,_,rfl⟩ fun K hK=>?_
       have HK:=hid hK
       clear hK
       conv=>arg 2;whnf
       go_wp2_with (go_at_call 40;refine HLN.out.mono ?_;rintro e w2 ⟨hb2,v,rfl,hv⟩;have HIS:=hid hv.tv;obtain ⟨g2,rfl,hg2,-⟩:=(hv.resolve_left fun q=>HN0.out q.1).2;have HG:=hid hg2;clear hv hg2;have hBT2:=HBT1.out.below hb2;have d0:=hBT2.t.cells.1;have d7:=hBT2.t.cells.2.2.2.2.2.2.1;have HBT2:=hid hBT2;have HB2:=hid (HB1.out.trans (hb2.mono HB1.out.size));clear hb2 hBT2 c0 c7)
       refine HK.out _ _ ?_
       clear HK K
       rw [dropSeq_succ]
       refine wp_two_k (c:=dropSeq 3 fl0) ⟨_,_,rfl⟩ fun K hK=>?_
       have HK:=hid hK
       clear hK
       conv=>arg 2;whnf
       go_wp2_with (go_at_call 41;refine (is_other _ _ _ _ _ 32 ⟨g2,rfl,HG.out⟩ HN32.out).mono ?_;rintro e wx ⟨rfl,hw⟩;have hw:=hw.symm;subst hw)
       refine HK.out _ _ ?_
       clear HK K
       rw [dropSeq_succ]
       rw [HOV.out] at d7
       conv=>arg 2;whnf
       go_wp2_with fail
       go_ret
       rw [HQ.out]
       exact ⟨_,rfl,.inr ⟨HN0.out,_,_,g2,rfl,HG.out⟩,L,HBT2.out,UB.of_below HB2.out⟩
 · have HL:=hid hl
   have HQ:=hid (show flushD d T=(d,T,T.live d tlN) by unfold flushD;rw [if_pos hl])
   clear hl
   go_enter Tryz.func12,Tryz.ntmps12
   go_wp2_with (go_at_call 39;refine HLV.out.mono ?_;rintro e w1 ⟨⟨v,rfl,hv⟩,hb1⟩;obtain ⟨g2,rfl,hg2,-⟩:=(hv.resolve_left fun q=>HL.out q.1).2;have HB1:=hid hb1;have HG:=hid hg2;clear hv hb1 hg2)
   go_ret
   rw [HQ.out]
   exact ⟨_,rfl,.inr ⟨HL.out,_,_,g2,rfl,HG.out⟩,L,HH.out.below HB1.out,UB.of_below HB1.out⟩
end
section
open Go.Maps Go.WideMaps Go.ChangeMaps
theorem slice_to2 (w:World) (a:Option Addr) (n c k:Nat) (hk:k≤c):(Instr.slice 96 (.slice a n c) none (some (.int .i64 (k:Int))) none).run Tryz.prog w=.ok (.slice a k c) w:=by
 obtain ⟨i,hi,hz0,hz1,hz2⟩:=info_parts sl96.inf
 have he:Tryz.prog.elem 96=121:=by simp [Program.elem,sl96.und]
 have h1:Tryz.prog.underlying 96=some (.slice (Tryz.prog.elem 96)):=by rw [he];exact sl96.und
 have h2:(sizeOf (Tryz.prog.elem 96)).run Tryz.prog w=.ok 2 w:=by rw [he];simp [sizeOf,typeInfo,hi,hz1]
 rw [run_slice_h w 96 a n c h1 .i64 k (by omega) (by omega),h2]
 have e:a.map (·.add 0)=a:=by cases a with | none=>rfl | some x=>cases x;simp [Addr.add]
 simp [Result.andThen,sliced,e]
set_option maxHeartbeats 4000000
theorem flushed_any (w:World) (τ:Nat→Nat) (gt gd:Nat) (T:TT) (Y:TY) (h:TS w τ gt gd T Y) (hh:T.held≤T.L.length / 256) :
 Calls Tryz.prog 19 #[.pointer (some ⟨gt,0,none⟩)] w fun e w'=>e=.returned (.int .i64 ((256 * T.held:Nat):Int))∧Below w.heap.size w w':=by
 have c7:=h.cells.2.2.2.2.2.2.1
 have c8:=h.cells.2.2.2.2.2.2.2.1
 have hord:=h.ord.1
 have hfew:=h.few
 obtain ⟨H,hH⟩:∃ H,H=T.held:=⟨_,rfl⟩
 obtain ⟨F,hF⟩:∃ F,F=T.L.length / 256:=⟨_,rfl⟩
 rw [← hF] at hord hh
 rw [← hH] at c8 hh
 rw [← hH]
 obtain ⟨a,cap,hv,-⟩:=owns_shape hord
 rw [hv] at hord c7
 have hcap:F≤cap:=by
  rcases hord.2 with ⟨q,q0⟩ | ⟨g',cap',cur,q,-,-,q1,-⟩
  · omega
  · injection q with q2 q3 q4;omega
 have hds:RS 2 ordE w a F cap (List.range F):=RS.of_owns (base:=0) (e:=121) hord (by decide) (fun _=>rfl) (by omega)
 have hsl:=fun wx=>slice_to2 wx a F cap H (by omega)
 have HDS:=hid hds
 have HX:=hid (And.intro hh (And.intro hfew hF))
 clear h hord hfew hH hF hv hcap hds hh
 go_enter Tryz.func19,Tryz.ntmps19
 go_wp2_with fail
 go_quiet (fail)
 go_wp2_with fail
 clear hsl c7 c8
 go_loopw [16,3,5] (fun v r _ wr=>∃ k:Nat,k≤H∧v=.int .i64 k∧r=.int .i64 ((256 * k:Nat):Int)∧Below w.heap.size w wr) (fun v _ _ _=>H - (intOf v).toNat)
 case atStart=>exact ⟨0,by omega,rfl,rfl,below_drewN (Below.refl _ _) _⟩
 case round =>
  obtain ⟨k,hk,rfl,rfl,hb⟩:=hrel
  have HB:=hid hb
  by_cases hlt:k < H
  · obtain ⟨-,-,-,hds⟩:=HDS.out.below hb
    obtain ⟨g,off',e1,hc⟩:=hds k k (by have:=HX.out.1;rw [List.getElem?_range (by omega)])
    obtain ⟨b0,o0,e2⟩:∃ b o,a=some ⟨b,o,none⟩:=⟨_,_,e1⟩
    subst e1
    have hc0:=hc 0 (.int .i64 ((0:Nat):Int)) rfl
    have hc1:=hc 1 (.int .i64 (k:Int)) rfl
    rw [show off'+k * 2+0=off'+k * 2 by omega] at hc0
    have h9:decide ((k:Int) < (H:Int))=true:=by simp;omega
    have HLT:=hid hlt
    have hk7:k≤1000:=by have:=HX.out;omega
    have hw1:IntKind.i64.wrap (((256 * k:Nat):Int)+256)=((256 * (k+1):Nat):Int):=by rw [IntWalk.i64_in _ (by omega)];omega
    clear hk hb hlt hds hc e2
    have HKK:=hid hk7
    go_wp2_with fail
    have h1:=HLT.out
    have h2:=HKK.out
    exact ⟨⟨k+1,h1,by push_cast;rfl,by congr 1,HB.out.alloc (by have:=HB.out.size;omega) _⟩,by simp [intOf];omega⟩
  · obtain rfl:k=H:=by omega
    have h9:decide ((k:Int) < (k:Int))=false:=by simp
    clear hk hb hlt
    go_wp2_with fail
    go_ret
    exact ⟨rfl,HB.out⟩
end
section
open Go.Maps Go.WideMaps Go.ChangeMaps
def wholeD (d:Dm):List UInt8 × Int :=
 if (d.length tlN).2=32 then ([],0) else if (d.length tlN).2 ≠ 0 then ([],(d.length tlN).2) else d.read tlN 0 (d.length tlN).1
set_option maxHeartbeats 4000000
theorem whole_any (w:World) (L:Lay) (gd:Nat) (d:Dm) (h:DAt w L gd d) (hp:Pre d) (hn0:-9223372036854775808≤(d.length tlN).1) (hn1:(d.length tlN).1≤9223372036854775807) :
 Calls Tryz.prog 55 #[.pointer (some ⟨gd,0,none⟩)] w fun e w'=>Below w.heap.size w w'∧∃ a m c v,e=.returned (.tuple #[.slice a m c,v])∧w'.ownsRow w.heap.size 5 1 (.slice a m c) m ((wholeD d).1.map b8)∧m=(wholeD d).1.length∧TV v w' (wholeD d).2:=by
 have HLN:=hid (length_any w L gd d h hp tlN (by decide))
 have HH:=hid h
 have HX:=hid (And.intro hp (And.intro hn0 hn1))
 clear h hp hn0 hn1
 by_cases hz:(d.length tlN).2=0
 · have HN0:=hid hz
   have HQ:=hid (show wholeD d=d.read tlN 0 (d.length tlN).1 by unfold wholeD;rw [if_neg (by rw [hz];decide),if_neg (fun q=>q hz)])
   clear hz
   go_enter Tryz.func55,Tryz.ntmps55
   go_wp2_with (first
    | (go_at_call 40;refine HLN.out.mono ?_;rintro e w2 ⟨hb2,v,rfl,hv⟩;rw [HN0.out] at hv;obtain rfl:v=.nilIface:=(hv.resolve_right fun q=>q.1 rfl).2;clear hv;have HB2:=hid hb2;clear hb2)
    | (go_at_call 41;refine (is_nil _ 32).mono ?_;rintro e wx ⟨rfl,hw⟩;have hw:=hw.symm;subst hw)
    | (go_at_call 69;refine (read_any w2 L gd d (HH.out.below HB2.out) HX.out.1 tlN (by decide) 0 _ (by decide) (by decide) HX.out.2.1 HX.out.2.2).mono ?_;rintro e w3 ⟨hb3,a,m,c,v,rfl,ho,hm,hv⟩;have HB3:=hid (HB2.out.trans (hb3.mono HB2.out.size));have HO:=hid ho;have HM:=hid hm;have HV:=hid hv;clear hb3 ho hm hv))
   refine bodyPost_ret (v:=.tuple #[.slice a m c,v]) (by simp [results,Tryz.results55,go_sem]) rfl ?_
   rw [HQ.out]
   exact ⟨HB3.out,a,m,c,v,rfl,own_mono HO.out HB2.out.size,HM.out,HV.out.tv⟩
 · have HN0:=hid hz
   by_cases hn32:(d.length tlN).2=32
   · have HN32:=hid hn32
     have HQ:=hid (show wholeD d=([],0) by unfold wholeD;rw [if_pos hn32])
     clear hz hn32
     go_enter Tryz.func55,Tryz.ntmps55
     go_wp2_with (first
      | (go_at_call 40;refine HLN.out.mono ?_;rintro e w2 ⟨hb2,v,rfl,hv⟩;obtain ⟨g2,rfl,hg2,-⟩:=(hv.resolve_left fun q=>HN0.out q.1).2;have HG:=hid hg2;clear hv hg2;have HB2:=hid hb2;clear hb2)
      | (go_at_call 41;refine (is_same _ _ _ _ 32 ⟨g2,rfl,HN32.out ▸ HG.out⟩).mono ?_;rintro e wx ⟨rfl,hw⟩;have hw:=hw.symm;subst hw))
     refine bodyPost_ret (v:=.tuple #[.slice none 0 0,.nilIface]) (by simp [results,Tryz.results55,go_sem]) rfl ?_
     rw [HQ.out]
     exact ⟨HB2.out,none,0,0,_,rfl,World.ownsRow_nil _ _ _ _,rfl,.inl ⟨rfl,rfl⟩⟩
   · have HN32:=hid hn32
     have HQ:=hid (show wholeD d=([],(d.length tlN).2) by unfold wholeD;rw [if_neg hn32,if_pos hz])
     clear hz hn32
     go_enter Tryz.func55,Tryz.ntmps55
     go_wp2_with (first
      | (go_at_call 40;refine HLN.out.mono ?_;rintro e w2 ⟨hb2,v,rfl,hv⟩;obtain ⟨g2,rfl,hg2,-⟩:=(hv.resolve_left fun q=>HN0.out q.1).2;have HG:=hid hg2;clear hv hg2;have HB2:=hid hb2;clear hb2)
      | (go_at_call 41;refine (is_other _ _ _ _ _ 32 ⟨g2,rfl,HG.out⟩ HN32.out).mono ?_;rintro e wx ⟨rfl,hw⟩;have hw:=hw.symm;subst hw))
     refine bodyPost_ret (v:=.tuple #[.slice none 0 0,.iface 90 (.pointer (some ⟨g2,0,none⟩))]) (by simp [results,Tryz.results55,go_sem]) rfl ?_
     rw [HQ.out]
     exact ⟨HB2.out,none,0,0,_,rfl,World.ownsRow_nil _ _ _ _,rfl,.inr ⟨HN0.out,_,_,g2,rfl,HG.out⟩⟩
end
section
theorem dt_mid (A B C:List UInt8) (p k:Nat) (hp:A.length=p) (hk:B.length=k):((A++B++C).drop p).take k=B:=by
 subst hp hk
 rw [List.append_assoc,List.drop_left,List.take_left]
theorem tile_kind (wd j:Nat) (ds:List Dg):((tileP wd j ds).drop 0).take 1=be 1 210:=by
 unfold tileP tileH
 have:=dt_mid [] (be 1 210) (be 1 wd++be 1 0++be 8 j++(ds.map (·.1)).flatten++be 4 (crc (be 1 210++be 1 wd++be 1 0++be 8 j++(ds.map (·.1)).flatten)).toNat) 0 1 rfl (be_len _ _)
 simpa [List.append_assoc] using this
theorem tile_wd (wd j:Nat) (ds:List Dg):((tileP wd j ds).drop 1).take 1=be 1 wd:=by
 unfold tileP tileH
 have:=dt_mid (be 1 210) (be 1 wd) (be 1 0++be 8 j++(ds.map (·.1)).flatten++be 4 (crc (be 1 210++be 1 wd++be 1 0++be 8 j++(ds.map (·.1)).flatten)).toNat) 1 1 (be_len _ _) (be_len _ _)
 simpa only [List.append_assoc] using this
theorem tile_lvl (wd j:Nat) (ds:List Dg):((tileP wd j ds).drop 2).take 1=be 1 0:=by
 unfold tileP tileH
 have:=dt_mid (be 1 210++be 1 wd) (be 1 0) (be 8 j++(ds.map (·.1)).flatten++be 4 (crc (be 1 210++be 1 wd++be 1 0++be 8 j++(ds.map (·.1)).flatten)).toNat) 2 1 (by simp [be_len]) (be_len _ _)
 simpa only [List.append_assoc] using this
theorem tile_idx (wd j:Nat) (ds:List Dg):((tileP wd j ds).drop 3).take 8=be 8 j:=by
 unfold tileP tileH
 have:=dt_mid (be 1 210++be 1 wd++be 1 0) (be 8 j) ((ds.map (·.1)).flatten++be 4 (crc (be 1 210++be 1 wd++be 1 0++be 8 j++(ds.map (·.1)).flatten)).toNat) 3 8 (by simp [be_len]) (be_len _ _)
 simpa only [List.append_assoc] using this
theorem tile_head (wd j:Nat) (ds:List Dg) (h:ds.length=256):(tileP wd j ds).take 8203=tileH wd j ds:=by
 unfold tileP
 exact List.take_left' (by rw [tileH_len,h])
theorem tile_crc (wd j:Nat) (ds:List Dg) (h:ds.length=256):((tileP wd j ds).drop 8203).take 4=be 4 (crc (tileH wd j ds)).toNat:=by
 unfold tileP
 rw [List.drop_left' (by rw [tileH_len,h]),List.take_of_length_le (by rw [be_len];exact Nat.le_refl _)]
theorem flat_nth:∀ (ds:List Dg) (i:Nat) (d:Dg) (T:List UInt8),ds[i]?=some d→(((ds.map (·.1)).flatten++T).drop (32 * i)).take 32=d.1
 | [],i,d,T,h=>by simp at h
 | x :: ds,0,d,T,h=>by
   simp only [List.getElem?_cons_zero,Option.some.injEq] at h
   subst h
   rw [List.map_cons,List.flatten_cons,List.append_assoc,Nat.mul_zero,List.drop_zero]
   exact List.take_left' x.2
 | x :: ds,i+1,d,T,h=>by
   simp only [List.getElem?_cons_succ] at h
   rw [List.map_cons,List.flatten_cons,List.append_assoc,show 32 * (i+1)=x.1.length+32 * i by rw [x.2];omega,← List.drop_drop,List.drop_left]
   exact flat_nth ds i d T h
theorem tile_ds (wd j:Nat) (ds:List Dg) (h:ds.length=256):dsOf (tileP wd j ds) 11 256=ds:=by
 apply List.ext_getElem?
 intro i
 unfold dsOf
 rw [List.getElem?_map]
 by_cases hi:i < 256
 · rw [List.getElem?_range hi]
   obtain ⟨d,hd⟩:∃ d,ds[i]?=some d:=⟨_,List.getElem?_eq_getElem (by omega)⟩
   rw [hd]
   simp only [Option.map_some,Option.some.injEq]
   have e:((tileP wd j ds).drop (11+32 * i)).take 32=d.1:=by
    have h1:tileP wd j ds=(be 1 210++be 1 wd++be 1 0++be 8 j)++((ds.map (·.1)).flatten++be 4 (crc (tileH wd j ds)).toNat):=by unfold tileP tileH;simp only [List.append_assoc]
    rw [h1,← List.drop_drop,List.drop_left' (by simp [be_len])]
    exact flat_nth ds i d _ hd
   rw [e]
   exact Subtype.ext (dgOf_eq _ d.2)
 · rw [List.getElem?_eq_none (by simp;omega),List.getElem?_eq_none (by omega)];rfl
end
section
open Go.Maps Go.WideMaps Go.ChangeMaps
set_option maxHeartbeats 4000000
theorem ttake_ok (w:World) (τ:Nat→Nat) (gt gd:Nat) (T:TT) (Y:TY) (h:TS w τ gt gd T Y) (j:Nat) (hj:j < 1099511627776) (a:Option Addr) (n c:Nat) (ds:List Dg) (hds:ds.length=256) (hr:R8 w a n c (tileP T.wd.toNat j ds)) (ht:HalfTab w) :
 Calls Tryz.prog 109 #[.pointer (some ⟨gt,0,none⟩),.agg #[.int .i64 ((0:Nat):Int),.int .i64 (j:Int)],.slice a n c] w fun e w'=>∃ gl,e=.returned (.tuple #[.slice (some ⟨gl,0,none⟩) 256 256,.bool true])∧w.heap.size≤gl∧DS w' (some ⟨gl,0,none⟩) 256 256 ds∧Below w.heap.size w w':=by
 obtain ⟨wn,hwn⟩:∃ wn:Nat,wn=T.wd.toNat:=⟨_,rfl⟩
 have hwb:=h.wdb
 have HWN:=hid (show T.wd=(wn:Int) by omega)
 have HWL:=hid (show wn≤32 by omega)
 rw [← hwn] at hr
 obtain ⟨w0,hw0⟩:∃ w0,w0=w.alloc (.cells #[.int .i64 ((0:Nat):Int),.int .i64 (j:Int)] 121):=⟨_,rfl⟩
 have hb0:Below w.heap.size w w0:=by rw [hw0];exact (Below.refl _ _).alloc (Nat.le_refl _) _
 have hz0:w0.heap.size=w.heap.size+1:=by rw [hw0,alloc_size']
 have HZ0:=hid hz0
 have HKX:=hid (show w0.heap[w.heap.size]?=some (.cells #[.int .i64 ((0:Nat):Int),.int .i64 (j:Int)] 121 (0,0)) by rw [hw0];exact heap_alloc_new _ _)
 have hw0':w0=w.alloc (.cells #[.int .i64 0,.int .i64 (j:Int)] 121):=hw0
 clear hw0
 have HT:=hid (And.intro h (And.intro ht (And.intro hds hj)))
 have HB0:=hid hb0
 have HTL:=hid (show (tileP wn j ds).length=8207 by rw [tileP_len,hds])
 have HR:=hid hr
 have hn:n=8207:=by rw [← hr.1,HTL.out]
 subst hn
 have hsl:=fun wx=>slice_to8 wx a 8207 c 8203 (by have:=HR.out.2.1;omega)
 rw [show ((8203:Nat):Int)=(8203:Int) from rfl] at hsl
 have c3:=HT.out.1.cells.2.2.2.1
 rw [HWN.out] at c3
 have hwj:IntKind.u64.wrap (j:Int)=(j:Int):=by simp [IntKind.wrap,IntKind.bits,IntKind.signed];omega
 have hz:2 < w.heap.size:=by have:=HT.out.1.sz;omega
 have hgt:=HT.out.1.dom gt (by rw [HT.out.1.lg];decide)
 have HZ:=hid (And.intro hz hgt)
 have HC3:=hid c3
 have v0:valN (((tileP wn j ds).drop 0).take 1)=210:=by rw [tile_kind];exact valN_be 1 210 (by decide)
 have v1:valN (((tileP wn j ds).drop 1).take 1)=wn:=by rw [tile_wd];exact valN_be 1 wn (by have:=HWL.out;omega)
 have v2:valN (((tileP wn j ds).drop 2).take 1)=0:=by rw [tile_lvl];exact valN_be 1 0 (by decide)
 have v3:valN (((tileP wn j ds).drop 3).take 8)=j:=by rw [tile_idx];exact valN_be 8 j (by omega)
 have v4:valN (((tileP wn j ds).drop 8203).take 4)=(crc (tileH wn j ds)).toNat:=by rw [tile_crc _ _ _ hds];exact valN_be 4 _ (crc_lt _)
 have HV:=hid (And.intro v0 (And.intro v1 (And.intro v2 (And.intro v3 v4))))
 have hap:∀ b off,a=some ⟨b,off,none⟩→b < w.heap.size:=fun b off e=>hr.lt b off e (by decide)
 have HAP:=hid hap
 clear h ht hds hr hb0 hwn hwb hj v0 v1 v2 v3 v4 hz hgt c3 hap
 go_enter Tryz.func109,Tryz.ntmps109
 go_wp2_with (first
  | (go_at_call 172;rw [← hw0'];refine (read_new w0 a 8207 c (tileP wn j ds) (HR.out.below HB0.out) (by decide)).mono ?_;rintro e w1 ⟨gr,rfl,hgr,hr1,hb1⟩;have HR1:=hid hr1;have HB1:=hid hb1;have HGR:=hid hgr;clear hgr hr1 hb1)
  | (go_at_call 173;refine (take_u8 w1 gr _ 0 HR1.out (by rw [HTL.out];decide)).mono ?_;rintro e w2 ⟨rfl,hr,hg⟩;rw [HV.out.1];have HR2:=hid hr;have HB2:=hid (HB1.out.grown hg HB1.out.size (by intro q hq;cases hq;exact HGR.out));clear hr hg)
  | (go_at_call 173;refine (take_u8 w2 gr _ 1 HR2.out (by rw [HTL.out];decide)).mono ?_;rintro e w3 ⟨rfl,hr,hg⟩;rw [HV.out.2.1];have HR3:=hid hr;have HB3:=hid (HB2.out.grown hg HB2.out.size (by intro q hq;cases hq;exact HGR.out));clear hr hg)
  | (go_at_call 173;refine (take_u8 w3 gr _ 2 HR3.out (by rw [HTL.out];decide)).mono ?_;rintro e w4 ⟨rfl,hr,hg⟩;rw [HV.out.2.2.1];have HR4:=hid hr;have HB4:=hid (HB3.out.grown hg HB3.out.size (by intro q hq;cases hq;exact HGR.out));clear hr hg)
  | (go_at_call 174;refine (take_u64 w4 gr _ 3 HR4.out (by rw [HTL.out];decide)).mono ?_;rintro e w5 ⟨rfl,hr,hg⟩;rw [HV.out.2.2.2.1];have HR5:=hid hr;have HB5:=hid (HB4.out.grown hg HB4.out.size (by intro q hq;cases hq;exact HGR.out));clear hr hg)
  | (go_at_call 175;obtain ⟨a5,n5,c5,hx5⟩:=HR5.out;refine (digests_any w5 gr a5 n5 c5 _ 11 hx5 (by rw [HTL.out];decide)).mono ?_;rintro e w6 ⟨gl,rfl,hgl,hd,hx6,hg⟩;rw [tile_ds _ _ _ HT.out.2.2.1] at hd;have HR6:=hid hx6.rd;have HGL:=hid (show gl ≠ gr∧w0.heap.size≤gl by { have:=HR5.out.lt;have:=HB5.out.size;omega });have HD6:=hid hd;have HGS:=hid (show gl < w6.heap.size by { obtain ⟨b,off,e,hlt,-⟩:=hd.at (i:=0) (List.getElem?_eq_getElem (by rw [HT.out.2.2.1];decide));cases e;exact hlt });have HB6:=hid (HB5.out.grown hg HB5.out.size (by intro q hq;cases hq;exact HGR.out));clear hgl hd hx6 hg hx5)
  | (go_at_call 176;refine (take_u32 w6 gr _ 8203 HR6.out (by rw [HTL.out];decide)).mono ?_;rintro e w7 ⟨rfl,hr,hg⟩;rw [HV.out.2.2.2.2];have HR7:=hid hr;have HD7:=hid (HD6.out.same (hg.block gl HGS.out (fun e=>HGL.out.1 (by injection e))));have HB7:=hid (HB6.out.grown hg HB6.out.size (by intro q hq;cases hq;exact HGR.out));have hbb:=HB0.out.trans (HB7.out.mono (by have:=HB0.out.size;omega));have HBB:=hid hbb;have d3:=(hbb.cell (p:=⟨gt,3,none⟩) HZ.out.2).trans HC3.out;have k0:=cell_of_row w7 w.heap.size 0 _ _ _ ((HB7.out.block w.heap.size (by have:=HZ0.out;omega)).trans HKX.out);have k1:=cell_of_row w7 w.heap.size 1 _ _ _ ((HB7.out.block w.heap.size (by have:=HZ0.out;omega)).trans HKX.out);simp only [List.getElem?_toArray,List.getElem?_cons_zero,List.getElem?_cons_succ] at k0 k1;have hwn:wrap64 (wn:Int)=(wn:Int):=wrap64_small (by omega) (by have:=HWL.out;omega);have HRC:=hid (tile_head wn j ds HT.out.2.2.1 ▸ (HR.out.below hbb).take 8203 (by decide));have HHT:=hid (HT.out.2.1.below hbb HZ.out.1);clear hbb hr hg)
  | (go_at_call 162;refine (crc_any _ _ _ _ _ HRC.out HHT.out).mono ?_;rintro e wx ⟨rfl,hw⟩;subst hw)
  | (go_at_call 177;obtain ⟨a7,n7,c7,hx7⟩:=HR7.out;refine (done_any w7 gr a7 n7 c7 _ (by rw [HTL.out];exact hx7)).mono ?_;rintro e w8 ⟨rfl,kk,hw8⟩;subst hw8))
 exact bodyPost_ret (v:=.tuple #[.slice (some ⟨gl,0,none⟩) 256 256,.bool true]) (by simp [results,Tryz.results109,go_sem]) rfl ⟨gl,rfl,by have:=HGL.out.2;have:=HZ0.out;omega,HD7.out.same rfl,below_drewN HBB.out _⟩
end
end Go.Proofs.YtgkehahklccacaaGreatDoor
