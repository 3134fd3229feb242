import Derived.Test.YtgkehahklccacaaGreatDoorC03
import Derived.BigRegion
import Derived.BigQuiet
import Derived.Deep.QuietTactic
import Derived.StillTailTactics
namespace Go.Proofs.YtgkehahklccacaaGreatDoor
open Go Go.RowKit
open Go.Lib (hid)
set_option maxRecDepth 100000
set_option maxHeartbeats 1000000
set_option linter.unusedVariables false
set_option linter.unusedSimpArgs false
section
noncomputable def tkA:Code:=headSeq (dropSeq 1 (Tryz.f228.body.getD .skip))
theorem u8_at (l:List UInt8) (i:Nat) (c:UInt8) (h:l[i]?=some c):l.getD i 0=c:=by rw [List.getD_eq_getElem?_getD,h];rfl
set_option maxHeartbeats 4000000
theorem take_a (w0 W:World) (bw b off c:Nat) (l:List UInt8) (hc:64≤c) (hat:∀ i,i < 64→∃ x,l[i]?=some x∧w0.cell? ⟨b,off+i,none⟩=some (.int .u8 (x.toNat:Int))) (hbb:b < bw) (hW:W.heap[bw]?=some (.cells (wArr l 0) 353 (0,0))) (hb:Below bw w0 W) (v0 u2 u3 u5 u6 u7 u8 u9 yQ yR yS yT yU yV yW yX yY yZ zA zB zC zD zE zF zG zH zI zJ zK zL zM zN zO zP zQ zR zS zT zU zV zW zX zY zZ aA aB aC aD aE aF aG aH aI aJ aK aL aM aN aO aP aQ aR aS aT aU aV aW aX aY aZ bA bB bC bD bE bF bG bH bI bJ bK bL bM bN bO bP bQ bR bS bT bU bV bW bX bY bZ cA cB uA uB uC uD uE uF uG uH uI uJ uK uL uM uN uO uP uQ uR uS uT uU uV uW uX uY uZ vA vB vC vD vE vF vG vH vI vJ vK vL vM vN vO vP vQ vR vS vT vU vV vW vX vY vZ qA qB qC qD qE qF qG qH qI qJ qK qL qM qN qO qP qQ qR qS qT qU qV qW qX qY qZ jA jB jC jD jE jF jG jH jI jJ jK jL jM jN jO jP jQ jR jS jT jU jV jW jX jY jZ yA yB yC yD yE yF yG yH yI yJ yK yL yM yN yO yP:Value) (K:Act→World→Prop) (PST:Ending→World→Prop)
 (hK:∀ (u2 u3 u5 u6 u7 u8 u9 yQ yR yS yT yU yV yW yX yY yZ zA zB zC zD zE zF zG zH zI zJ zK zL zM zN zO zP zQ zR zS zT zU zV zW zX zY zZ aA aB aC aD aE aF aG aH aI aJ aK aL aM aN aO aP aQ aR aS aT aU aV aW aX aY aZ bA bB bC bD bE bF bG bH bI bJ bK bL bM bN bO bP bQ bR bS bT bU bV bW bX bY bZ cA cB uA uB uC uD uE uF uG uH uI uJ uK uL uM uN uO uP uQ uR uS uT uU uV uW uX uY uZ vA vB vC vD vE vF vG vH vI vJ vK vL vM vN vO vP vQ vR vS vT vU vV vW vX vY vZ qA qB qC qD qE qF qG qH qI qJ qK qL qM qN qO qP qQ qR qS qT qU qV qW qX qY qZ jA jB jC jD jE jF jG jH jI jJ jK jL jM jN jO jP jQ jR jS jT jU jV jW jX jY jZ yA yB yC yD yE yF yG yH yI yJ yK yL yM yN yO yP:Value) (w':World),w'.heap[bw]?=some (.cells (wArr l 16) 353 (0,0))→Below bw w0 w'→K ⟨#[v0,.slice (some ⟨b,off,none⟩) 64 c,u2,u3,.pointer (some ⟨bw,0,none⟩),u5,u6,u7,u8,u9,yQ,yR,yS,yT,yU,yV,yW,yX,yY,yZ,zA,zB,zC,zD,zE,zF,zG,zH,zI,zJ,zK,zL,zM,zN,zO,zP,zQ,zR,zS,zT,zU,zV,zW,zX,zY,zZ,aA,aB,aC,aD,aE,aF,aG,aH,aI,aJ,aK,aL,aM,aN,aO,aP,aQ,aR,aS,aT,aU,aV,aW,aX,aY,aZ,bA,bB,bC,bD,bE,bF,bG,bH,bI,bJ,bK,bL,bM,bN,bO,bP,bQ,bR,bS,bT,bU,bV,bW,bX,bY,bZ,cA,cB,uA,uB,uC,uD,uE,uF,uG,uH,uI,uJ,uK,uL,uM,uN,uO,uP,uQ,uR,uS,uT,uU,uV,uW,uX,uY,uZ,vA,vB,vC,vD,vE,vF,vG,vH,vI,vJ,vK,vL,vM,vN,vO,vP,vQ,vR,vS,vT,vU,vV,vW,vX,vY,vZ,qA,qB,qC,qD,qE,qF,qG,qH,qI,qJ,qK,qL,qM,qN,qO,qP,qQ,qR,qS,qT,qU,qV,qW,qX,qY,qZ,jA,jB,jC,jD,jE,jF,jG,jH,jI,jJ,jK,jL,jM,jN,jO,jP,jQ,jR,jS,jT,jU,jV,jW,jX,jY,jZ,yA,yB,yC,yD,yE,yF,yG,yH,yI,yJ,yK,yL,yM,yN,yO,yP],[]⟩ w') :
 Code.wp Tryz.prog tkA (Exit.then K (bodyPost Tryz.prog Tryz.f228 PST)) ⟨#[v0,.slice (some ⟨b,off,none⟩) 64 c,u2,u3,.pointer (some ⟨bw,0,none⟩),u5,u6,u7,u8,u9,yQ,yR,yS,yT,yU,yV,yW,yX,yY,yZ,zA,zB,zC,zD,zE,zF,zG,zH,zI,zJ,zK,zL,zM,zN,zO,zP,zQ,zR,zS,zT,zU,zV,zW,zX,zY,zZ,aA,aB,aC,aD,aE,aF,aG,aH,aI,aJ,aK,aL,aM,aN,aO,aP,aQ,aR,aS,aT,aU,aV,aW,aX,aY,aZ,bA,bB,bC,bD,bE,bF,bG,bH,bI,bJ,bK,bL,bM,bN,bO,bP,bQ,bR,bS,bT,bU,bV,bW,bX,bY,bZ,cA,cB,uA,uB,uC,uD,uE,uF,uG,uH,uI,uJ,uK,uL,uM,uN,uO,uP,uQ,uR,uS,uT,uU,uV,uW,uX,uY,uZ,vA,vB,vC,vD,vE,vF,vG,vH,vI,vJ,vK,vL,vM,vN,vO,vP,vQ,vR,vS,vT,vU,vV,vW,vX,vY,vZ,qA,qB,qC,qD,qE,qF,qG,qH,qI,qJ,qK,qL,qM,qN,qO,qP,qQ,qR,qS,qT,qU,qV,qW,qX,qY,qZ,jA,jB,jC,jD,jE,jF,jG,jH,jI,jJ,jK,jL,jM,jN,jO,jP,jQ,jR,jS,jT,jU,jV,jW,jX,jY,jZ,yA,yB,yC,yD,yE,yF,yG,yH,yI,yJ,yK,yL,yM,yN,yO,yP],[]⟩ W:=by
 have HK:=hid hK
 have HAT:=hid hat
 have HBB:=hid hbb
 clear hK hat hbb
 conv=>arg 2;whnf
 go_wp2_with fail
 go_loopw [22,5] (fun i _ wr=>∃ t:Nat,t≤16∧i=.int .i64 t∧wr.heap[bw]?=some (.cells (wArr l t) 353 (0,0))∧Below bw w0 wr) (fun i _ _=>16 - (intOf i).toNat)
 case atStart=>exact ⟨0,by omega,rfl,hW,hb⟩
 case round =>
  clear hW hb
  obtain ⟨t,htt,rfl,hw,hb⟩:=hrel
  have HB:=hid hb
  by_cases hlt:t < 16
  · obtain ⟨y0,q0,r0⟩:=HAT.out (4 * t) (by omega)
    obtain ⟨y1,q1,r1⟩:=HAT.out (4 * t+1) (by omega)
    obtain ⟨y2,q2,r2⟩:=HAT.out (4 * t+2) (by omega)
    obtain ⟨y3,q3,r3⟩:=HAT.out (4 * t+3) (by omega)
    have hword:wordAt l t=orw (orw (orw (shl 24 y0.toUInt32) (shl 16 y1.toUInt32)) (shl 8 y2.toUInt32)) y3.toUInt32:=by
     unfold wordAt
     rw [u8_at _ _ _ q0,u8_at _ _ _ q1,u8_at _ _ _ q2,u8_at _ _ _ q3]
    have HW:=hid hword
    have k1:(y0.toNat:Int) * 16777216 % 4294967296=((shl 24 y0.toUInt32).toNat:Int):=shl_u8 24 y0
    have k2:(y1.toNat:Int) * 65536 % 4294967296=((shl 16 y1.toUInt32).toNat:Int):=shl_u8 16 y1
    have k3:(y2.toNat:Int) * 256 % 4294967296=((shl 8 y2.toUInt32).toNat:Int):=shl_u8 8 y2
    have hkp:∀ {j:Nat} {v:Value},w0.cell? ⟨b,j,none⟩=some v→wr.cell? ⟨b,j,none⟩=some v:=fun hv=>(hb.cell (show b < bw from HBB.out)).trans hv
    have m0:=hkp r0
    have m1:=hkp r1
    have m2:=hkp r2
    have m3:=hkp r3
    clear r0 r1 r2 r3 q0 q1 q2 q3 hword hkp hb
    have HWA:=hid hw
    have hcc:wr.cell? ⟨bw,t,none⟩=some (wv 0):=by
     have:=cell_of_row wr bw t _ _ _ hw
     rw [this,wArr_get l t t (by omega),if_neg (by omega)]
    have hff:wr.frozen? ⟨bw,t,none⟩=false:=frozen_of_row wr bw t _ _ hw
    clear hw
    have h9:decide ((t:Int) < 16)=true:=by simp;omega
    have HT:=hid hlt
    clear hlt htt
    go_upto_region 4 with (fail)
    clear h9
    have hlt:=HT.out
    go_region
    all_goals
     have hw2:=heap_setCell_same wr.drew bw t _ _ (wv (wordAt l t)) HWA.out
     rw [← wT_low l t HT.out,wArr_set l t (by have:=HT.out;omega),wT_low l t HT.out] at hw2
     rw [HW.out] at hw2
     have hb2:Below bw w0 (wr.drew.setCell ⟨bw,t,none⟩ (wv (orw (orw (orw (shl 24 y0.toUInt32) (shl 16 y1.toUInt32)) (shl 8 y2.toUInt32)) y3.toUInt32))):=(HB.out.drew).setCell (Nat.le_refl _) _
     have HW2:=hid hw2;have HB2:=hid hb2
     clear hw2 hb2 m0 m1 m2 m3 k1 k2 k3 hcc hff
     go_wp2_with fail
     go_roundw
     case rel=>exact ⟨t+1,by have:=HT.out;omega,by go_num,HW2.out,HB2.out⟩
     case measure=>have:=HT.out;simp [intOf];omega
  · obtain rfl:t=16:=by omega
    have h9:decide (((16:Nat):Int) < 16)=false:=by decide
    clear hlt htt HB
    go_wp2_with fail
    refine HK.out _ _ _ _ _ _ _ _ _ _ _ _ _ _ _ _ _ _ _ _ _ _ _ _ _ _ _ _ _ _ _ _ _ _ _ _ _ _ _ _ _ _ _ _ _ _ _ _ _ _ _ _ _ _ _ _ _ _ _ _ _ _ _ _ _ _ _ _ _ _ _ _ _ _ _ _ _ _ _ _ _ _ _ _ _ _ _ _ _ _ _ _ _ _ _ _ _ _ _ _ _ _ _ _ _ _ _ _ _ _ _ _ _ _ _ _ _ _ _ _ _ _ _ _ _ _ _ _ _ _ _ _ _ _ _ _ _ _ _ _ _ _ _ _ _ _ _ _ _ _ _ _ _ _ _ _ _ _ _ _ _ _ _ _ _ _ _ _ _ _ _ _ _ _ _ _ _ _ _ _ _ _ _ _ _ _ _ _ _ _ _ _ _ _ _ _ _ _ _ _ _ _ _ _ _ _ _ _ _ _ _ _ _ _ _ _ _  _ hw hb
end
section
@[go_sem] theorem not_u32' (x:UInt32):bits .xor .u32 (if IntKind.u32.signed=true then -1 else IntKind.u32.max) (x.toNat:Int)=((nt x).toNat:Int):=by
  rw [if_neg (by decide)];exact not_u32 x
noncomputable def tk11:Code:=headSeq (dropSeq 3 (Tryz.f228.body.getD .skip))
noncomputable def tkC:Code:=headSeq (dropSeq 4 (Tryz.f228.body.getD .skip))
set_option maxHeartbeats 4000000
theorem take_11 (W:World) (gs bw:Nat) (v1:Value) (a b c d e f g h:UInt32) (hc:∀ i,i < 8→W.cell? ⟨gs,i,none⟩=some (wv ([a,b,c,d,e,f,g,h].getD i 0))) (u2 u3 u5 u6 u7 u8 u9 yQ yR yS yT yU yV yW yX yY yZ zA zB zC zD zE zF zG zH zI zJ zK zL zM zN zO zP zQ zR zS zT zU zV zW zX zY zZ aA aB aC aD aE aF aG aH aI aJ aK aL aM aN aO aP aQ aR aS aT aU aV aW aX aY aZ bA bB bC bD bE bF bG bH bI bJ bK bL bM bN bO bP bQ bR bS bT bU bV bW bX bY bZ cA cB uA uB uC uD uE uF uG uH uI uJ uK uL uM uN uO uP uQ uR uS uT uU uV uW uX uY uZ vA vB vC vD vE vF vG vH vI vJ vK vL vM vN vO vP vQ vR vS vT vU vV vW vX vY vZ qA qB qC qD qE qF qG qH qI qJ qK qL qM qN qO qP qQ qR qS qT qU qV qW qX qY qZ jA jB jC jD jE jF jG jH jI jJ jK jL jM jN jO jP jQ jR jS jT jU jV jW jX jY jZ yA yB yC yD yE yF yG yH yI yJ yK yL yM yN yO yP:Value) (K:Act→World→Prop) (PST:Ending→World→Prop)
 (hK:∀ (u2 u3 u5 u6 u7 u8 yX yY yZ zA zB zC zD zE zF zG zH zI zJ zK zL zM zN zO zP zQ zR zS zT zU zV zW zX zY zZ aA aB aC aD aE aF aG aH aI aJ aK aL aM aN aO aP aQ aR aS aT aU aV aW aX aY aZ bA bB bC bD bE bF bG bH bI bJ bK bL bM bN bO bP bQ bR bS bT bU bV bW bX bY bZ cA cB uA uB uC uD uE uF uG uH uI uJ uK uL uM uN uO uP uQ uR uS uT uU uV uW uX uY uZ vA vB vC vD vE vF vG vH vI vJ vK vL vM vN vO vP vQ vR vS vT vU vV vW vX vY vZ qA qB qC qD qE qF qG qH qI qJ qK qL qM qN qO qP qQ qR qS qT qU qV qW qX qY qZ jA jB jC jD jE jF jG jH jI jJ jK jL jM jN jO jP jQ jR jS jT jU jV jW jX jY jZ yA yB yC yD yE yF yG yH yI yJ yK yL yM yN yO yP:Value) (n:Nat),K ⟨#[.pointer (some ⟨gs,0,none⟩),v1,u2,u3,.pointer (some ⟨bw,0,none⟩),u5,u6,u7,u8,.int .u32 (a.toNat:Int),.int .u32 (b.toNat:Int),.int .u32 (c.toNat:Int),.int .u32 (d.toNat:Int),.int .u32 (e.toNat:Int),.int .u32 (f.toNat:Int),.int .u32 (g.toNat:Int),.int .u32 (h.toNat:Int),yX,yY,yZ,zA,zB,zC,zD,zE,zF,zG,zH,zI,zJ,zK,zL,zM,zN,zO,zP,zQ,zR,zS,zT,zU,zV,zW,zX,zY,zZ,aA,aB,aC,aD,aE,aF,aG,aH,aI,aJ,aK,aL,aM,aN,aO,aP,aQ,aR,aS,aT,aU,aV,aW,aX,aY,aZ,bA,bB,bC,bD,bE,bF,bG,bH,bI,bJ,bK,bL,bM,bN,bO,bP,bQ,bR,bS,bT,bU,bV,bW,bX,bY,bZ,cA,cB,uA,uB,uC,uD,uE,uF,uG,uH,uI,uJ,uK,uL,uM,uN,uO,uP,uQ,uR,uS,uT,uU,uV,uW,uX,uY,uZ,vA,vB,vC,vD,vE,vF,vG,vH,vI,vJ,vK,vL,vM,vN,vO,vP,vQ,vR,vS,vT,vU,vV,vW,vX,vY,vZ,qA,qB,qC,qD,qE,qF,qG,qH,qI,qJ,qK,qL,qM,qN,qO,qP,qQ,qR,qS,qT,qU,qV,qW,qX,qY,qZ,jA,jB,jC,jD,jE,jF,jG,jH,jI,jJ,jK,jL,jM,jN,jO,jP,jQ,jR,jS,jT,jU,jV,jW,jX,jY,jZ,yA,yB,yC,yD,yE,yF,yG,yH,yI,yJ,yK,yL,yM,yN,yO,yP],[]⟩ (W.drewN n)) :
 Code.wp Tryz.prog tk11 (Exit.then K (bodyPost Tryz.prog Tryz.f228 PST)) ⟨#[.pointer (some ⟨gs,0,none⟩),v1,u2,u3,.pointer (some ⟨bw,0,none⟩),u5,u6,u7,u8,u9,yQ,yR,yS,yT,yU,yV,yW,yX,yY,yZ,zA,zB,zC,zD,zE,zF,zG,zH,zI,zJ,zK,zL,zM,zN,zO,zP,zQ,zR,zS,zT,zU,zV,zW,zX,zY,zZ,aA,aB,aC,aD,aE,aF,aG,aH,aI,aJ,aK,aL,aM,aN,aO,aP,aQ,aR,aS,aT,aU,aV,aW,aX,aY,aZ,bA,bB,bC,bD,bE,bF,bG,bH,bI,bJ,bK,bL,bM,bN,bO,bP,bQ,bR,bS,bT,bU,bV,bW,bX,bY,bZ,cA,cB,uA,uB,uC,uD,uE,uF,uG,uH,uI,uJ,uK,uL,uM,uN,uO,uP,uQ,uR,uS,uT,uU,uV,uW,uX,uY,uZ,vA,vB,vC,vD,vE,vF,vG,vH,vI,vJ,vK,vL,vM,vN,vO,vP,vQ,vR,vS,vT,vU,vV,vW,vX,vY,vZ,qA,qB,qC,qD,qE,qF,qG,qH,qI,qJ,qK,qL,qM,qN,qO,qP,qQ,qR,qS,qT,qU,qV,qW,qX,qY,qZ,jA,jB,jC,jD,jE,jF,jG,jH,jI,jJ,jK,jL,jM,jN,jO,jP,jQ,jR,jS,jT,jU,jV,jW,jX,jY,jZ,yA,yB,yC,yD,yE,yF,yG,yH,yI,yJ,yK,yL,yM,yN,yO,yP],[]⟩ W:=by
 have HK:=hid hK
 have c0:W.cell? ⟨gs,0,none⟩=some (.int .u32 (a.toNat:Int)):=hc 0 (by omega)
 have c1:W.cell? ⟨gs,1,none⟩=some (.int .u32 (b.toNat:Int)):=hc 1 (by omega)
 have c2:W.cell? ⟨gs,2,none⟩=some (.int .u32 (c.toNat:Int)):=hc 2 (by omega)
 have c3:W.cell? ⟨gs,3,none⟩=some (.int .u32 (d.toNat:Int)):=hc 3 (by omega)
 have c4:W.cell? ⟨gs,4,none⟩=some (.int .u32 (e.toNat:Int)):=hc 4 (by omega)
 have c5:W.cell? ⟨gs,5,none⟩=some (.int .u32 (f.toNat:Int)):=hc 5 (by omega)
 have c6:W.cell? ⟨gs,6,none⟩=some (.int .u32 (g.toNat:Int)):=hc 6 (by omega)
 have c7:W.cell? ⟨gs,7,none⟩=some (.int .u32 (h.toNat:Int)):=hc 7 (by omega)
 clear hK hc
 conv=>arg 2;whnf
 go_quiet (fail)
 refine HK.out _ _ _ _ _ _ _ _ _ _ _ _ _ _ _ _ _ _ _ _ _ _ _ _ _ _ _ _ _ _ _ _ _ _ _ _ _ _ _ _ _ _ _ _ _ _ _ _ _ _ _ _ _ _ _ _ _ _ _ _ _ _ _ _ _ _ _ _ _ _ _ _ _ _ _ _ _ _ _ _ _ _ _ _ _ _ _ _ _ _ _ _ _ _ _ _ _ _ _ _ _ _ _ _ _ _ _ _ _ _ _ _ _ _ _ _ _ _ _ _ _ _ _ _ _ _ _ _ _ _ _ _ _ _ _ _ _ _ _ _ _ _ _ _ _ _ _ _ _ _ _ _ _ _ _ _ _ _ _ _ _ _ _ _ _ _ _ _ _ _ _ _ _ _ _ _ _ _ _ _ _ _ _ _ _ _ _ _ _ _ _ _ _ _ _ _ _ _ _ _ _ _ _ _ _ _ _ _ _  _
set_option maxHeartbeats 8000000 in
theorem take_c (w0 W:World) (gs bw:Nat) (v1:Value) (l:List UInt8) (s:S8) (hW:W.heap[bw]?=some (.cells (wArr l 64) 353 (0,0))) (hb:Below bw w0 W) (ht:RoundTab W) (u2 u3 u5 u6 u7 u8 yX yY yZ zA zB zC zD zE zF zG zH zI zJ zK zL zM zN zO zP zQ zR zS zT zU zV zW zX zY zZ aA aB aC aD aE aF aG aH aI aJ aK aL aM aN aO aP aQ aR aS aT aU aV aW aX aY aZ bA bB bC bD bE bF bG bH bI bJ bK bL bM bN bO bP bQ bR bS bT bU bV bW bX bY bZ cA cB uA uB uC uD uE uF uG uH uI uJ uK uL uM uN uO uP uQ uR uS uT uU uV uW uX uY uZ vA vB vC vD vE vF vG vH vI vJ vK vL vM vN vO vP vQ vR vS vT vU vV vW vX vY vZ qA qB qC qD qE qF qG qH qI qJ qK qL qM qN qO qP qQ qR qS qT qU qV qW qX qY qZ jA jB jC jD jE jF jG jH jI jJ jK jL jM jN jO jP jQ jR jS jT jU jV jW jX jY jZ yA yB yC yD yE yF yG yH yI yJ yK yL yM yN yO yP:Value) (K:Act→World→Prop) (PST:Ending→World→Prop)
 (hK:∀ (u2 u3 u5 u6 u7 u8 yX yY yZ zA zB zC zD zE zF zG zH zI zJ zK zL zM zN zO zP zQ zR zS zT zU zV zW zX zY zZ aA aB aC aD aE aF aG aH aI aJ aK aL aM aN aO aP aQ aR aS aT aU aV aW aX aY aZ bA bB bC bD bE bF bG bH bI bJ bK bL bM bN bO bP bQ bR bS bT bU bV bW bX bY bZ cA cB uA uB uC uD uE uF uG uH uI uJ uK uL uM uN uO uP uQ uR uS uT uU uV uW uX uY uZ vA vB vC vD vE vF vG vH vI vJ vK vL vM vN vO vP vQ vR vS vT vU vV vW vX vY vZ qA qB qC qD qE qF qG qH qI qJ qK qL qM qN qO qP qQ qR qS qT qU qV qW qX qY qZ jA jB jC jD jE jF jG jH jI jJ jK jL jM jN jO jP jQ jR jS jT jU jV jW jX jY jZ yA yB yC yD yE yF yG yH yI yJ yK yL yM yN yO yP:Value) (w':World),w'.heap=W.heap→Below bw w0 w'→K ⟨#[.pointer (some ⟨gs,0,none⟩),v1,u2,u3,.pointer (some ⟨bw,0,none⟩),u5,u6,u7,u8,.int .u32 ((rounds l s 64).a.toNat:Int),.int .u32 ((rounds l s 64).b.toNat:Int),.int .u32 ((rounds l s 64).c.toNat:Int),.int .u32 ((rounds l s 64).d.toNat:Int),.int .u32 ((rounds l s 64).e.toNat:Int),.int .u32 ((rounds l s 64).f.toNat:Int),.int .u32 ((rounds l s 64).g.toNat:Int),.int .u32 ((rounds l s 64).h.toNat:Int),yX,yY,yZ,zA,zB,zC,zD,zE,zF,zG,zH,zI,zJ,zK,zL,zM,zN,zO,zP,zQ,zR,zS,zT,zU,zV,zW,zX,zY,zZ,aA,aB,aC,aD,aE,aF,aG,aH,aI,aJ,aK,aL,aM,aN,aO,aP,aQ,aR,aS,aT,aU,aV,aW,aX,aY,aZ,bA,bB,bC,bD,bE,bF,bG,bH,bI,bJ,bK,bL,bM,bN,bO,bP,bQ,bR,bS,bT,bU,bV,bW,bX,bY,bZ,cA,cB,uA,uB,uC,uD,uE,uF,uG,uH,uI,uJ,uK,uL,uM,uN,uO,uP,uQ,uR,uS,uT,uU,uV,uW,uX,uY,uZ,vA,vB,vC,vD,vE,vF,vG,vH,vI,vJ,vK,vL,vM,vN,vO,vP,vQ,vR,vS,vT,vU,vV,vW,vX,vY,vZ,qA,qB,qC,qD,qE,qF,qG,qH,qI,qJ,qK,qL,qM,qN,qO,qP,qQ,qR,qS,qT,qU,qV,qW,qX,qY,qZ,jA,jB,jC,jD,jE,jF,jG,jH,jI,jJ,jK,jL,jM,jN,jO,jP,jQ,jR,jS,jT,jU,jV,jW,jX,jY,jZ,yA,yB,yC,yD,yE,yF,yG,yH,yI,yJ,yK,yL,yM,yN,yO,yP],[]⟩ w') :
 Code.wp Tryz.prog tkC (Exit.then K (bodyPost Tryz.prog Tryz.f228 PST)) ⟨#[.pointer (some ⟨gs,0,none⟩),v1,u2,u3,.pointer (some ⟨bw,0,none⟩),u5,u6,u7,u8,.int .u32 (s.a.toNat:Int),.int .u32 (s.b.toNat:Int),.int .u32 (s.c.toNat:Int),.int .u32 (s.d.toNat:Int),.int .u32 (s.e.toNat:Int),.int .u32 (s.f.toNat:Int),.int .u32 (s.g.toNat:Int),.int .u32 (s.h.toNat:Int),yX,yY,yZ,zA,zB,zC,zD,zE,zF,zG,zH,zI,zJ,zK,zL,zM,zN,zO,zP,zQ,zR,zS,zT,zU,zV,zW,zX,zY,zZ,aA,aB,aC,aD,aE,aF,aG,aH,aI,aJ,aK,aL,aM,aN,aO,aP,aQ,aR,aS,aT,aU,aV,aW,aX,aY,aZ,bA,bB,bC,bD,bE,bF,bG,bH,bI,bJ,bK,bL,bM,bN,bO,bP,bQ,bR,bS,bT,bU,bV,bW,bX,bY,bZ,cA,cB,uA,uB,uC,uD,uE,uF,uG,uH,uI,uJ,uK,uL,uM,uN,uO,uP,uQ,uR,uS,uT,uU,uV,uW,uX,uY,uZ,vA,vB,vC,vD,vE,vF,vG,vH,vI,vJ,vK,vL,vM,vN,vO,vP,vQ,vR,vS,vT,vU,vV,vW,vX,vY,vZ,qA,qB,qC,qD,qE,qF,qG,qH,qI,qJ,qK,qL,qM,qN,qO,qP,qQ,qR,qS,qT,qU,qV,qW,qX,qY,qZ,jA,jB,jC,jD,jE,jF,jG,jH,jI,jJ,jK,jL,jM,jN,jO,jP,jQ,jR,jS,jT,jU,jV,jW,jX,jY,jZ,yA,yB,yC,yD,yE,yF,yG,yH,yI,yJ,yK,yL,yM,yN,yO,yP],[]⟩ W:=by
 have HK:=hid hK
 have HT:=hid ht
 have HW:=hid hW
 clear hK ht hW
 conv=>arg 2;whnf
 go_wp2_with fail
 go_loopw [134,9,10,11,12,13,14,15,16,17,18,19] (fun i x9 x10 x11 x12 x13 x14 x15 x16 _ _ _ wr=>∃ t:Nat,t≤64∧i=.int .i64 t∧x9=.int .u32 ((rounds l s t).a.toNat:Int)∧x10=.int .u32 ((rounds l s t).b.toNat:Int)∧x11=.int .u32 ((rounds l s t).c.toNat:Int)∧x12=.int .u32 ((rounds l s t).d.toNat:Int)∧x13=.int .u32 ((rounds l s t).e.toNat:Int)∧x14=.int .u32 ((rounds l s t).f.toNat:Int)∧x15=.int .u32 ((rounds l s t).g.toNat:Int)∧x16=.int .u32 ((rounds l s t).h.toNat:Int)∧wr.heap=W.heap∧Below bw w0 wr) (fun i _ _ _ _ _ _ _ _ _ _ _ _=>64 - (intOf i).toNat)
 case atStart=>exact ⟨0,by omega,rfl,rfl,rfl,rfl,rfl,rfl,rfl,rfl,rfl,rfl,hb⟩
 case round =>
  clear hb
  obtain ⟨t,htt,rfl,rfl,rfl,rfl,rfl,rfl,rfl,rfl,rfl,hh,hb⟩:=hrel
  have HB:=hid hb
  have HH:=hid hh
  by_cases hlt:t < 64
  · have HR:=hid (show rounds l s (t+1)=rnd (kT t) (wT l t) (rounds l s t) from rfl)
    obtain ⟨S,hS⟩:∃ S,S=rounds l s t:=⟨_,rfl⟩
    rw [← hS] at HR ⊢
    clear hS
    obtain ⟨a,b,c,d,e,f,g,h⟩:=S
    dsimp only
    have p1:wr.cell? ⟨bw,t,none⟩=some (.int .u32 ((wT l t).toNat:Int)):=by
     have:=cell_of_row wr bw t _ _ _ (show wr.heap[bw]?=_ by rw [hh];exact HW.out)
     rw [this,wArr_get l 64 t (by omega),if_pos hlt];rfl
    have p2:wr.cell? ⟨3,t,none⟩=some (.int .u32 ((kT t).toNat:Int)):=(World.cell?_of_block (a:=⟨3,t,none⟩) (by rw [hh])).trans (HT.out t hlt)
    obtain ⟨kt,hkt⟩:∃ x,x=kT t:=⟨_,rfl⟩
    obtain ⟨wt,hwt⟩:∃ x,x=wT l t:=⟨_,rfl⟩
    rw [← hkt] at p2 HR
    rw [← hwt] at p1 HR
    have h9:decide ((t:Int) < 64)=true:=by simp;omega
    have HLT:=hid hlt
    clear hlt htt hh hb hkt hwt
    go_upto_region 15 with (fail)
    clear h9
    have dt:((t:Nat):Int) < 64:=by have:=HLT.out;omega
    have dn:(0:Int)≤((t:Nat):Int):=by omega
    have dm:(((t:Nat):Int)).toNat=t:=by omega
    go_quiet ((go_at_call 253;exact turn_q _ _ _ _ (by decide)))
    trace "quiet"
    have HB2:=hid (below_drewN HB.out nq)
    have HH2:=hid (show (wr.drewN nq).heap=W.heap from HH.out)
    clear p1 p2 dt dn dm HB HH
    generalize wr.drewN nq=w2 at *
    go_upto_region 16 with (fail)
    have hlt:=HLT.out
    go_wp2_with (go_at_call 253;(with_reducible refine (turn_any _ _ _ (by decide)).mono ?_);rintro e9 w9 ⟨rfl,nn,rfl⟩)
    go_roundw
    case rel=>exact ⟨t+1,by omega,by go_num,by rw [HR.out];rfl,by rw [HR.out];rfl,by rw [HR.out];rfl,by rw [HR.out];rfl,by rw [HR.out];rfl,by rw [HR.out];rfl,by rw [HR.out];rfl,by rw [HR.out];rfl,HH2.out,below_drewN HB2.out _⟩
    case measure=>simp [intOf];omega
  · obtain rfl:t=64:=by omega
    have h9:decide (((64:Nat):Int) < 64)=false:=by decide
    clear hlt htt HB HH
    go_wp2_with fail
    refine HK.out _ _ _ _ _ _ _ _ _ _ _ _ _ _ _ _ _ _ _ _ _ _ _ _ _ _ _ _ _ _ _ _ _ _ _ _ _ _ _ _ _ _ _ _ _ _ _ _ _ _ _ _ _ _ _ _ _ _ _ _ _ _ _ _ _ _ _ _ _ _ _ _ _ _ _ _ _ _ _ _ _ _ _ _ _ _ _ _ _ _ _ _ _ _ _ _ _ _ _ _ _ _ _ _ _ _ _ _ _ _ _ _ _ _ _ _ _ _ _ _ _ _ _ _ _ _ _ _ _ _ _ _ _ _ _ _ _ _ _ _ _ _ _ _ _ _ _ _ _ _ _ _ _ _ _ _ _ _ _ _ _ _ _ _ _ _ _ _ _ _ _ _ _ _ _ _ _ _ _ _ _ _ _ _ _ _ _ _ _ _ _ _ _ _ _ _ _ _ _ _ _ _ _ _ _ _ _ _ _  _ hh hb
end
section
noncomputable def tkD:Code:=dropSeq 5 (Tryz.f228.body.getD .skip)
def mixS (s R:S8) (i:Nat):List UInt32:=(s.plus R).list.take i++s.list.drop i
def stC (l:List UInt32) (tl:List Value):Array Value:=(l.map wv++tl).toArray
theorem mix_len (s R:S8) (i:Nat) (h:i≤8):(mixS s R i).length=8:=by
 unfold mixS
 rw [List.length_append,List.length_take,List.length_drop]
 show min i 8+(8 - i)=8
 omega
theorem stC_get (l:List UInt32) (tl:List Value) (i:Nat) (h:i < l.length):(stC l tl)[i]?=some (wv (l.getD i 0)):=by
 unfold stC
 rw [List.getElem?_toArray,List.getElem?_append_left (by rw [List.length_map];exact h),List.getElem?_map,List.getD_eq_getElem?_getD,List.getElem?_eq_getElem h];rfl
theorem mix_get (s R:S8) (i:Nat) (h:i < 8):(mixS s R i).getD i 0=s.list.getD i 0:=by
 unfold mixS
 rw [List.getD_eq_getElem?_getD,List.getElem?_append_right (by rw [List.length_take];omega),List.length_take]
 have:(s.plus R).list.length=8:=rfl
 rw [this,Nat.min_eq_left (by omega),Nat.sub_self,List.getElem?_drop,Nat.add_zero,List.getD_eq_getElem?_getD]
theorem mix_set (s R:S8) (tl:List Value):∀ (i:Nat),i < 8→(stC (mixS s R i) tl).setIfInBounds i (wv (ad (s.list.getD i 0) (R.list.getD i 0)))=stC (mixS s R (i+1)) tl
 | 0,_=>by simp [stC,mixS,S8.list,S8.plus]
 | 1,_=>by simp [stC,mixS,S8.list,S8.plus]
 | 2,_=>by simp [stC,mixS,S8.list,S8.plus]
 | 3,_=>by simp [stC,mixS,S8.list,S8.plus]
 | 4,_=>by simp [stC,mixS,S8.list,S8.plus]
 | 5,_=>by simp [stC,mixS,S8.list,S8.plus]
 | 6,_=>by simp [stC,mixS,S8.list,S8.plus]
 | 7,_=>by simp [stC,mixS,S8.list,S8.plus]
 | n+8,h=>by omega
theorem idx8 (R:S8):∀ (i:Nat),i < 8→∀ w,(Instr.index 327 (.agg #[.int .u32 (R.a.toNat:Int),.int .u32 (R.b.toNat:Int),.int .u32 (R.c.toNat:Int),.int .u32 (R.d.toNat:Int),.int .u32 (R.e.toNat:Int),.int .u32 (R.f.toNat:Int),.int .u32 (R.g.toNat:Int),.int .u32 (R.h.toNat:Int)]) (.int .i64 (i:Int))).run Tryz.prog w=.ok (.int .u32 ((R.list.getD i 0).toNat:Int)) w
 | 0,_=>fun w=>by kernel_rfl
 | 1,_=>fun w=>by kernel_rfl
 | 2,_=>fun w=>by kernel_rfl
 | 3,_=>fun w=>by kernel_rfl
 | 4,_=>fun w=>by kernel_rfl
 | 5,_=>fun w=>by kernel_rfl
 | 6,_=>fun w=>by kernel_rfl
 | 7,_=>fun w=>by kernel_rfl
 | n+8,h=>by omega
theorem grown_set {w w1:World} {g:Nat} (h:w.grownBy w1 (some g)) (n o:Nat) (v:Value):w.grownBy ((w1.drewN n).setCell ⟨g,o,none⟩ v) (some g) :=
 ⟨h.os,h.tape,h.output,by have:=h.size;simpa using this,fun k hk hne=>(heap_setCell_other (w1.drewN n) ⟨g,o,none⟩ k v (fun e=>hne (by rw [e]))).trans (h.block k hk hne)⟩
set_option maxHeartbeats 4000000
theorem take_d (w0 W:World) (gs:Nat) (v1 v4:Value) (s R:S8) (tl:List Value) (ty:TypeId) (hs:W.heap[gs]?=some (.cells (stC s.list tl) ty (0,0))) (hg:w0.grownBy W (some gs)) (u2 u3 u5 u6 u7 u8 yQ yR yS yT yU yV yW yX yY yZ zA zB zC zD zE zF zG zH zI zJ zK zL zM zN zO zP zQ zR zS zT zU zV zW zX zY zZ aA aB aC aD aE aF aG aH aI aJ aK aL aM aN aO aP aQ aR aS aT aU aV aW aX aY aZ bA bB bC bD bE bF bG bH bI bJ bK bL bM bN bO bP bQ bR bS bT bU uA uB uC uD uE uF uG uH uI uJ uK uL uM uN uO uP uQ uR uS uT uU uV uW uX uY uZ vA vB vC vD vE vF vG vH vI vJ vK vL vM vN vO vP vQ vR vS vT vU vV vW vX vY vZ qA qB qC qD qE qF qG qH qI qJ qK qL qM qN qO qP qQ qR qS qT qU qV qW qX qY qZ jA jB jC jD jE jF jG jH jI jJ jK jL jM jN jO jP jQ jR jS jT jU jV jW jX jY jZ yA yB yC yD yE yF yG yH yI yJ yK yL yM yN yO yP:Value) (PST:Ending→World→Prop)
 (hP:∀ (w':World),w'.heap[gs]?=some (.cells (stC (s.plus R).list tl) ty (0,0))→w0.grownBy w' (some gs)→PST (.returned (.tuple #[])) w') :
 Code.wp Tryz.prog tkD (bodyPost Tryz.prog Tryz.f228 PST) ⟨#[.pointer (some ⟨gs,0,none⟩),v1,u2,u3,v4,u5,u6,u7,u8,.int .u32 (R.a.toNat:Int),.int .u32 (R.b.toNat:Int),.int .u32 (R.c.toNat:Int),.int .u32 (R.d.toNat:Int),.int .u32 (R.e.toNat:Int),.int .u32 (R.f.toNat:Int),.int .u32 (R.g.toNat:Int),.int .u32 (R.h.toNat:Int),yQ,yR,yS,yT,yU,yV,yW,yX,yY,yZ,zA,zB,zC,zD,zE,zF,zG,zH,zI,zJ,zK,zL,zM,zN,zO,zP,zQ,zR,zS,zT,zU,zV,zW,zX,zY,zZ,aA,aB,aC,aD,aE,aF,aG,aH,aI,aJ,aK,aL,aM,aN,aO,aP,aQ,aR,aS,aT,aU,aV,aW,aX,aY,aZ,bA,bB,bC,bD,bE,bF,bG,bH,bI,bJ,bK,bL,bM,bN,bO,bP,bQ,bR,bS,bT,bU,uA,uB,uC,uD,uE,uF,uG,uH,uI,uJ,uK,uL,uM,uN,uO,uP,uQ,uR,uS,uT,uU,uV,uW,uX,uY,uZ,vA,vB,vC,vD,vE,vF,vG,vH,vI,vJ,vK,vL,vM,vN,vO,vP,vQ,vR,vS,vT,vU,vV,vW,vX,vY,vZ,qA,qB,qC,qD,qE,qF,qG,qH,qI,qJ,qK,qL,qM,qN,qO,qP,qQ,qR,qS,qT,qU,qV,qW,qX,qY,qZ,jA,jB,jC,jD,jE,jF,jG,jH,jI,jJ,jK,jL,jM,jN,jO,jP,jQ,jR,jS,jT,jU,jV,jW,jX,jY,jZ,yA,yB,yC,yD,yE,yF,yG,yH,yI,yJ,yK,yL,yM,yN,yO,yP],[]⟩ W:=by
 have HP:=hid hP
 have HX:=hid (idx8 R)
 have hs:W.heap[gs]?=some (.cells (stC (mixS s R 0) tl) ty (0,0)):=hs
 clear hP
 conv=>arg 2;whnf
 go_wp2_with fail
 go_loopw [206,20,21] (fun i _ _ wr=>∃ t:Nat,t≤8∧i=.int .i64 t∧wr.heap[gs]?=some (.cells (stC (mixS s R t) tl) ty (0,0))∧w0.grownBy wr (some gs)) (fun i _ _ _=>8 - (intOf i).toNat)
 case atStart=>exact ⟨0,by omega,rfl,hs,hg⟩
 case round =>
  clear hs hg
  obtain ⟨t,htt,rfl,hh,hb⟩:=hrel
  by_cases hlt:t < 8
  · have HG:=hid hb
    have HH:=hid hh
    have hi:=HX.out t hlt
    have hc:wr.cell? ⟨gs,t,none⟩=some (.int .u32 ((s.list.getD t 0).toNat:Int)):=by
     rw [cell_of_row wr gs t _ _ _ hh,stC_get _ _ _ (by rw [mix_len _ _ _ htt];exact hlt),mix_get _ _ _ hlt];rfl
    have hf:wr.frozen? ⟨gs,t,none⟩=false:=frozen_of_row wr gs t _ _ hh
    have HM:=hid (mix_set s R tl t hlt)
    have HLT:=hid hlt
    generalize s.list.getD t 0=x at *
    generalize R.list.getD t 0=y at *
    have h9:decide ((t:Int) < 8)=true:=by simp;omega
    clear hlt htt hh hb
    go_upto_region 22 with (fail)
    clear h9 hi
    have dt:((t:Nat):Int) < 8:=by have:=HLT.out;omega
    go_still_tail 9,(by kernel_rfl)
    change wpList _ _ _ _ _ wr.drew
    have hc1:wr.drew.cell? ⟨gs,t,none⟩=_:=hc
    have hf1:wr.drew.frozen? ⟨gs,t,none⟩=_:=hf
    go_wp2_with fail
    have hs2:=heap_setCell_same wr.drew gs t _ _ (wv (ad x y)) HH.out
    rw [HM.out] at hs2
    have HS2:=hid hs2
    clear hs2 hc hf hc1 hf1
    have hlt:=HLT.out
    go_roundw
    case rel=>exact ⟨t+1,by omega,by go_num,HS2.out,grown_set HG.out 1 _ _⟩
    case measure=>simp [intOf];omega
  · obtain rfl:t=8:=by omega
    have h9:decide (((8:Nat):Int) < 8)=false:=by decide
    have HG:=hid hb
    have HH:=hid hh
    clear hlt htt hh hb
    go_wp2_with fail
    go_end0
    exact HP.out _ HH.out HG.out
end
section
theorem wp_two {P:Program} {c:Code} {Q:Exit→Act→World→Prop} {a:Act} {w:World} (hc:∃ x y,c=.seq x y) (h:Code.wp P (headSeq c) (Exit.then (fun a w=>Code.wp P (dropSeq 1 c) Q a w) Q) a w):Code.wp P c Q a w:=by
 obtain ⟨x,y,rfl⟩:=hc
 exact wp_seq h
theorem dropSeq_succ:∀ (n:Nat) (c:Code),dropSeq 1 (dropSeq n c)=dropSeq (n+1) c
 | 0,c=>rfl
 | n+1,c=>by
   cases c with
   | seq x y=>exact dropSeq_succ n y
   | _=>rfl
noncomputable def tk0:Code:=Tryz.f228.body.getD .skip
set_option maxHeartbeats 4000000
theorem take_0 (w:World) (v0 v1 u2 u3 u4 u5 u6 u7 u8 u9 yQ yR yS yT yU yV yW yX yY yZ zA zB zC zD zE zF zG zH zI zJ zK zL zM zN zO zP zQ zR zS zT zU zV zW zX zY zZ aA aB aC aD aE aF aG aH aI aJ aK aL aM aN aO aP aQ aR aS aT aU aV aW aX aY aZ bA bB bC bD bE bF bG bH bI bJ bK bL bM bN bO bP bQ bR bS bT bU bV bW bX bY bZ cA cB uA uB uC uD uE uF uG uH uI uJ uK uL uM uN uO uP uQ uR uS uT uU uV uW uX uY uZ vA vB vC vD vE vF vG vH vI vJ vK vL vM vN vO vP vQ vR vS vT vU vV vW vX vY vZ qA qB qC qD qE qF qG qH qI qJ qK qL qM qN qO qP qQ qR qS qT qU qV qW qX qY qZ jA jB jC jD jE jF jG jH jI jJ jK jL jM jN jO jP jQ jR jS jT jU jV jW jX jY jZ yA yB yC yD yE yF yG yH yI yJ yK yL yM yN yO yP:Value) (K:Act→World→Prop) (PST:Ending→World→Prop)
 (hK:∀ (w':World),w'.heap[w.heap.size]?=some (.cells (wArr [] 0) 353 (0,0))→Below w.heap.size w w'→K ⟨#[v0,v1,u2,u3,.pointer (some ⟨w.heap.size,0,none⟩),u5,u6,u7,u8,u9,yQ,yR,yS,yT,yU,yV,yW,yX,yY,yZ,zA,zB,zC,zD,zE,zF,zG,zH,zI,zJ,zK,zL,zM,zN,zO,zP,zQ,zR,zS,zT,zU,zV,zW,zX,zY,zZ,aA,aB,aC,aD,aE,aF,aG,aH,aI,aJ,aK,aL,aM,aN,aO,aP,aQ,aR,aS,aT,aU,aV,aW,aX,aY,aZ,bA,bB,bC,bD,bE,bF,bG,bH,bI,bJ,bK,bL,bM,bN,bO,bP,bQ,bR,bS,bT,bU,bV,bW,bX,bY,bZ,cA,cB,uA,uB,uC,uD,uE,uF,uG,uH,uI,uJ,uK,uL,uM,uN,uO,uP,uQ,uR,uS,uT,uU,uV,uW,uX,uY,uZ,vA,vB,vC,vD,vE,vF,vG,vH,vI,vJ,vK,vL,vM,vN,vO,vP,vQ,vR,vS,vT,vU,vV,vW,vX,vY,vZ,qA,qB,qC,qD,qE,qF,qG,qH,qI,qJ,qK,qL,qM,qN,qO,qP,qQ,qR,qS,qT,qU,qV,qW,qX,qY,qZ,jA,jB,jC,jD,jE,jF,jG,jH,jI,jJ,jK,jL,jM,jN,jO,jP,jQ,jR,jS,jT,jU,jV,jW,jX,jY,jZ,yA,yB,yC,yD,yE,yF,yG,yH,yI,yJ,yK,yL,yM,yN,yO,yP],[]⟩ w') :
 Code.wp Tryz.prog (headSeq tk0) (Exit.then K (bodyPost Tryz.prog Tryz.f228 PST)) ⟨#[v0,v1,u2,u3,u4,u5,u6,u7,u8,u9,yQ,yR,yS,yT,yU,yV,yW,yX,yY,yZ,zA,zB,zC,zD,zE,zF,zG,zH,zI,zJ,zK,zL,zM,zN,zO,zP,zQ,zR,zS,zT,zU,zV,zW,zX,zY,zZ,aA,aB,aC,aD,aE,aF,aG,aH,aI,aJ,aK,aL,aM,aN,aO,aP,aQ,aR,aS,aT,aU,aV,aW,aX,aY,aZ,bA,bB,bC,bD,bE,bF,bG,bH,bI,bJ,bK,bL,bM,bN,bO,bP,bQ,bR,bS,bT,bU,bV,bW,bX,bY,bZ,cA,cB,uA,uB,uC,uD,uE,uF,uG,uH,uI,uJ,uK,uL,uM,uN,uO,uP,uQ,uR,uS,uT,uU,uV,uW,uX,uY,uZ,vA,vB,vC,vD,vE,vF,vG,vH,vI,vJ,vK,vL,vM,vN,vO,vP,vQ,vR,vS,vT,vU,vV,vW,vX,vY,vZ,qA,qB,qC,qD,qE,qF,qG,qH,qI,qJ,qK,qL,qM,qN,qO,qP,qQ,qR,qS,qT,qU,qV,qW,qX,qY,qZ,jA,jB,jC,jD,jE,jF,jG,jH,jI,jJ,jK,jL,jM,jN,jO,jP,jQ,jR,jS,jT,jU,jV,jW,jX,jY,jZ,yA,yB,yC,yD,yE,yF,yG,yH,yI,yJ,yK,yL,yM,yN,yO,yP],[]⟩ w:=by
 have HK:=hid hK
 clear hK
 conv=>arg 2;whnf
 go_wp2_with fail
 exact HK.out _ (by rw [wArr_zero];exact heap_alloc_new w _) ((Below.refl _ _).alloc (Nat.le_refl _) _)
theorem wArr_start (l m:List UInt8):wArr l 0=wArr m 0:=by rw [wArr_zero,wArr_zero]
theorem take_any (w:World) (gs:Nat) (s:S8) (tl:List Value) (ty:TypeId) (hs:w.heap[gs]?=some (.cells (stC s.list tl) ty (0,0))) (a:Option Addr) (c:Nat) (l:List UInt8) (h:R8 w a 64 c l) (ht:RoundTab w) (h3:3 < w.heap.size) :
 Calls Tryz.prog 228 #[.pointer (some ⟨gs,0,none⟩),.slice a 64 c] w fun e w'=>e=.returned (.tuple #[])∧w'.heap[gs]?=some (.cells (stC (blockS l s).list tl) ty (0,0))∧w.grownBy w' (some gs):=by
 have hc:64≤c:=h.2.1
 have hat:∀ i,i < 64→∃ b off x,a=some ⟨b,off,none⟩∧l[i]?=some x∧w.cell? ⟨b,off+i,none⟩=some (.int .u8 (x.toNat:Int)):=fun i hi=>by
  obtain ⟨b,off,x,e,hl,hc⟩:=h.at hi
  exact ⟨b,off,x,e,hl,hc⟩
 obtain ⟨b,off,x00,rfl,-,hc00⟩:=hat 0 (by omega)
 have hbb:=World.block_lt_of_cell? w _ hc00
 have hgs:gs < w.heap.size:=(Array.getElem?_eq_some_iff.1 hs).1
 have hat2:∀ i,i < 64→∃ x,l[i]?=some x∧w.cell? ⟨b,off+i,none⟩=some (.int .u8 (x.toNat:Int)):=fun i hi=>by
  obtain ⟨b',off',x,e,hl,hc⟩:=hat i hi
  cases e
  exact ⟨x,hl,hc⟩
 go_enter Tryz.func228,Tryz.ntmps228
 refine wp_two (c:=tk0) ⟨_,_,rfl⟩ ?_
 refine take_0 w _ _ _ _ _ _ _ _ _ _ _ _ _ _ _ _ _ _ _ _ _ _ _ _ _ _ _ _ _ _ _ _ _ _ _ _ _ _ _ _ _ _ _ _ _ _ _ _ _ _ _ _ _ _ _ _ _ _ _ _ _ _ _ _ _ _ _ _ _ _ _ _ _ _ _ _ _ _ _ _ _ _ _ _ _ _ _ _ _ _ _ _ _ _ _ _ _ _ _ _ _ _ _ _ _ _ _ _ _ _ _ _ _ _ _ _ _ _ _ _ _ _ _ _ _ _ _ _ _ _ _ _ _ _ _ _ _ _ _ _ _ _ _ _ _ _ _ _ _ _ _ _ _ _ _ _ _ _ _ _ _ _ _ _ _ _ _ _ _ _ _ _ _ _ _ _ _ _ _ _ _ _ _ _ _ _ _ _ _ _ _ _ _ _ _ _ _ _ _ _ _ _ _ _ _ _ _ _ _ _ _ _ _ _ _ _ _ _ _ _  _ _ ?_
 intro w1 h1 hb1
 refine wp_two (c:=dropSeq 1 tk0) ⟨_,_,rfl⟩ ?_
 refine take_a w w1 w.heap.size b off c l hc hat2 hbb (by rw [wArr_start l []];exact h1) hb1 _ _ _ _ _ _ _ _ _ _ _ _ _ _ _ _ _ _ _ _ _ _ _ _ _ _ _ _ _ _ _ _ _ _ _ _ _ _ _ _ _ _ _ _ _ _ _ _ _ _ _ _ _ _ _ _ _ _ _ _ _ _ _ _ _ _ _ _ _ _ _ _ _ _ _ _ _ _ _ _ _ _ _ _ _ _ _ _ _ _ _ _ _ _ _ _ _ _ _ _ _ _ _ _ _ _ _ _ _ _ _ _ _ _ _ _ _ _ _ _ _ _ _ _ _ _ _ _ _ _ _ _ _ _ _ _ _ _ _ _ _ _ _ _ _ _ _ _ _ _ _ _ _ _ _ _ _ _ _ _ _ _ _ _ _ _ _ _ _ _ _ _ _ _ _ _ _ _ _ _ _ _ _ _ _ _ _ _ _ _ _ _ _ _ _ _ _ _ _ _ _ _ _ _ _ _ _ _ _ _ _ _ _ _ _ _ _ _  _ _ ?_
 intros
 rename_i w2 h2 hb2
 rw [dropSeq_succ]
 refine wp_two (c:=dropSeq 2 tk0) ⟨_,_,rfl⟩ ?_
 refine take_b w w2 w.heap.size l h2 hb2 _ _ _ _ _ _ _ _ _ _ _ _ _ _ _ _ _ _ _ _ _ _ _ _ _ _ _ _ _ _ _ _ _ _ _ _ _ _ _ _ _ _ _ _ _ _ _ _ _ _ _ _ _ _ _ _ _ _ _ _ _ _ _ _ _ _ _ _ _ _ _ _ _ _ _ _ _ _ _ _ _ _ _ _ _ _ _ _ _ _ _ _ _ _ _ _ _ _ _ _ _ _ _ _ _ _ _ _ _ _ _ _ _ _ _ _ _ _ _ _ _ _ _ _ _ _ _ _ _ _ _ _ _ _ _ _ _ _ _ _ _ _ _ _ _ _ _ _ _ _ _ _ _ _ _ _ _ _ _ _ _ _ _ _ _ _ _ _ _ _ _ _ _ _ _ _ _ _ _ _ _ _ _ _ _ _ _ _ _ _ _ _ _ _ _ _ _ _ _ _ _ _ _ _ _ _ _ _ _ _ _ _ _ _ _ _ _ _ _  _ _ ?_
 intros
 rename_i w3 h3' hb3
 rw [dropSeq_succ]
 refine wp_two (c:=dropSeq 3 tk0) ⟨_,_,rfl⟩ ?_
 have hs3:=(hb3.block gs hgs).trans hs
 refine take_11 w3 gs w.heap.size _ s.a s.b s.c s.d s.e s.f s.g s.h (fun i hi=>?_) _ _ _ _ _ _ _ _ _ _ _ _ _ _ _ _ _ _ _ _ _ _ _ _ _ _ _ _ _ _ _ _ _ _ _ _ _ _ _ _ _ _ _ _ _ _ _ _ _ _ _ _ _ _ _ _ _ _ _ _ _ _ _ _ _ _ _ _ _ _ _ _ _ _ _ _ _ _ _ _ _ _ _ _ _ _ _ _ _ _ _ _ _ _ _ _ _ _ _ _ _ _ _ _ _ _ _ _ _ _ _ _ _ _ _ _ _ _ _ _ _ _ _ _ _ _ _ _ _ _ _ _ _ _ _ _ _ _ _ _ _ _ _ _ _ _ _ _ _ _ _ _ _ _ _ _ _ _ _ _ _ _ _ _ _ _ _ _ _ _ _ _ _ _ _ _ _ _ _ _ _ _ _ _ _ _ _ _ _ _ _ _ _ _ _ _ _ _ _ _ _ _ _ _ _ _ _ _ _ _ _ _ _ _ _ _ _  _ _ ?_
 · rw [cell_of_row w3 gs i _ _ _ hs3,stC_get _ _ _ hi];rfl
 intros
 rename_i n
 rw [dropSeq_succ]
 refine wp_two (c:=dropSeq 4 tk0) ⟨_,_,rfl⟩ ?_
 have hb4:=below_drewN hb3 n
 refine take_c w (w3.drewN n) gs w.heap.size _ l s h3' hb4 (fun i hi=>?_) _ _ _ _ _ _ _ _ _ _ _ _ _ _ _ _ _ _ _ _ _ _ _ _ _ _ _ _ _ _ _ _ _ _ _ _ _ _ _ _ _ _ _ _ _ _ _ _ _ _ _ _ _ _ _ _ _ _ _ _ _ _ _ _ _ _ _ _ _ _ _ _ _ _ _ _ _ _ _ _ _ _ _ _ _ _ _ _ _ _ _ _ _ _ _ _ _ _ _ _ _ _ _ _ _ _ _ _ _ _ _ _ _ _ _ _ _ _ _ _ _ _ _ _ _ _ _ _ _ _ _ _ _ _ _ _ _ _ _ _ _ _ _ _ _ _ _ _ _ _ _ _ _ _ _ _ _ _ _ _ _ _ _ _ _ _ _ _ _ _ _ _ _ _ _ _ _ _ _ _ _ _ _ _ _ _ _ _ _ _ _ _ _ _ _ _ _ _ _ _ _ _ _ _ _ _ _ _ _  _ _ ?_
 · rw [hb4.cell (p:=⟨3,i,none⟩) h3];exact ht i hi
 intros
 rename_i w5 h5 hb5
 rw [dropSeq_succ]
 refine take_d w w5 gs _ _ s (rounds l s 64) tl ty (by rw [h5];exact hs3) ⟨hb5.os,hb5.tape,hb5.output,hb5.size,fun k hk _=>hb5.block k hk⟩ _ _ _ _ _ _ _ _ _ _ _ _ _ _ _ _ _ _ _ _ _ _ _ _ _ _ _ _ _ _ _ _ _ _ _ _ _ _ _ _ _ _ _ _ _ _ _ _ _ _ _ _ _ _ _ _ _ _ _ _ _ _ _ _ _ _ _ _ _ _ _ _ _ _ _ _ _ _ _ _ _ _ _ _ _ _ _ _ _ _ _ _ _ _ _ _ _ _ _ _ _ _ _ _ _ _ _ _ _ _ _ _ _ _ _ _ _ _ _ _ _ _ _ _ _ _ _ _ _ _ _ _ _ _ _ _ _ _ _ _ _ _ _ _ _ _ _ _ _ _ _ _ _ _ _ _ _ _ _ _ _ _ _ _ _ _ _ _ _ _ _ _ _ _ _ _ _ _ _ _ _ _ _ _ _ _ _ _ _ _ _ _ _ _ _ _ _ _ _ _ _ _ _ _ _ _ _ _ _  _ ?_
 exact fun w' h6 h7=>⟨rfl,h6,h7⟩
end
end Go.Proofs.YtgkehahklccacaaGreatDoor
