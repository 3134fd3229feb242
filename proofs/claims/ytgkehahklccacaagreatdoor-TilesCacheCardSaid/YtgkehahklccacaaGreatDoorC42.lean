import Derived.Test.YtgkehahklccacaaGreatDoorC41
namespace Go.Proofs.YtgkehahklccacaaGreatDoor
open Go Go.RowKit
open Go.Lib (hid)
set_option maxRecDepth 100000
set_option maxHeartbeats 1000000
set_option linter.unusedVariables false
set_option linter.unusedSimpArgs false
section
open Go.Maps Go.WideMaps Go.ChangeMaps
set_option maxHeartbeats 4000000
theorem cache_round (W wr:World) (gl n:Nat) (wd:Int) (ls:List Dg) (ak:Option Addr) (xl ck size old:Nat) (iI kI:Int) (h:RC W wr gl n wd ls ak xl ck size old iI) (hk:kI=0∨kI=1∨kI=2∨kI=3) (n2 n3 n4 n5 n6:Int) (hb2:-9223372036854775808≤n2∧n2≤9223372036854775807) (hb3:-9223372036854775808≤n3∧n3≤9223372036854775807) (hb4:-9223372036854775808≤n4∧n4≤9223372036854775807) (hb5:-9223372036854775808≤n5∧n5≤9223372036854775807) (hb6:-9223372036854775808≤n6∧n6≤9223372036854775807) (u0 yP yQ yR yS yT yU yV yW yX yY yZ zA zB zC zD zE zF zG zH zI zJ zK zL zM zN zO zP zQ zR zS zT zU zV zW zX zY zZ aA aB aC aD aE aF aG aH aI aJ aK aL aM aN aO aP aQ aR aS aT aU aV aW aX aY aZ bA bB bC bD bE bF bG bH bI bJ bK bL bM bN bO bP bQ bR bS bT bU bV bW uA uB uC uD uE uF uG uH uI uJ uK uL uM uN uO uP uQ uR uS uT uU uV uW uX uY uZ vA vB vC vD vE vF vG vH vI vJ vK vL vM vN vO vP vQ vR vS vT vU vV vW vX vY vZ qA qB qC qD qE qF qG qH qI qJ qK qL qM qN qO qP qQ qR qS qT qU qV qW qX qY qZ jA jB jC jD jE jF jG jH jI jJ jK jL jM jN jO jP jQ jR jS jT jU jV jW jX jY jZ yA yB yC yD yE yF yG yH yI yJ yK yL yM yN yO:Value) (R:Exit→Act→World→Prop) (hR:∀ c a a' w,R (.panic c) a w→a.defers=a'.defers→R (.panic c) a' w)
 (hK:∀ (yZ zC zD zE zF zG uG uH uI uJ uK uL uM uN uO uP uQ uR uS uT uU uV uW uX uY uZ vA vB vC vD vE vF vG vH vI vJ vK vL vM vN vO vP vQ vR vS vT vU vV vW vX vY vZ qA qB qC qD qE qF qG qH qI qJ qK qL qM qN qO qP qQ qR qS qT qU qV qW qX qY qZ jA jB jC jD jE jF jG jH jI jJ jK jL jM jN jO jP jQ jR jS jT jU jV jW jX jY jZ yA yB yC yD yE yF yG yH yI yJ yK yL yM yN yO:Value) (w':World),Below wr.heap.size wr w'→R .normal ⟨#[u0,.int .i64 (n:Int),.int .i64 n2,.int .i64 n3,.int .i64 n4,.int .i64 n5,.int .i64 n6,.int .i64 (size:Int),.int .i64 (old:Int),.int .i64 iI,yP,yQ,yR,yS,yT,yU,yV,yW,yX,yY,yZ,.slice (some ⟨gl,0,none⟩) n n,.int .i64 wd,zA,zB,zC,.slice ak xl ck,.int .i64 kI,zD,zE,zF,zG,zH,zI,zJ,zK,zL,zM,zN,zO,zP,zQ,zR,zS,zT,zU,zV,zW,zX,zY,zZ,aA,aB,aC,aD,aE,aF,aG,aH,aI,aJ,aK,aL,aM,aN,aO,aP,aQ,aR,aS,aT,aU,aV,aW,aX,aY,aZ,bA,bB,bC,bD,bE,bF,bG,bH,bI,bJ,bK,bL,bM,bN,bO,bP,bQ,bR,bS,bT,bU,bV,bW,uA,uB,uC,uD,uE,uF,uG,uH,uI,uJ,uK,uL,uM,uN,uO,uP,uQ,uR,uS,uT,uU,uV,uW,uX,uY,uZ,vA,vB,vC,vD,vE,vF,vG,vH,vI,vJ,vK,vL,vM,vN,vO,vP,vQ,vR,vS,vT,vU,vV,vW,vX,vY,vZ,qA,qB,qC,qD,qE,qF,qG,qH,qI,qJ,qK,qL,qM,qN,qO,qP,qQ,qR,qS,qT,qU,qV,qW,qX,qY,qZ,jA,jB,jC,jD,jE,jF,jG,jH,jI,jJ,jK,jL,jM,jN,jO,jP,jQ,jR,jS,jT,jU,jV,jW,jX,jY,jZ,yA,yB,yC,yD,yE,yF,yG,yH,yI,yJ,yK,yL,yM,yN,yO],[]⟩ w') :
 Code.wp Tryz.prog tcX R ⟨#[u0,.int .i64 (n:Int),.int .i64 n2,.int .i64 n3,.int .i64 n4,.int .i64 n5,.int .i64 n6,.int .i64 (size:Int),.int .i64 (old:Int),.int .i64 iI,yP,yQ,yR,yS,yT,yU,yV,yW,yX,yY,yZ,.slice (some ⟨gl,0,none⟩) n n,.int .i64 wd,zA,zB,zC,.slice ak xl ck,.int .i64 kI,zD,zE,zF,zG,zH,zI,zJ,zK,zL,zM,zN,zO,zP,zQ,zR,zS,zT,zU,zV,zW,zX,zY,zZ,aA,aB,aC,aD,aE,aF,aG,aH,aI,aJ,aK,aL,aM,aN,aO,aP,aQ,aR,aS,aT,aU,aV,aW,aX,aY,aZ,bA,bB,bC,bD,bE,bF,bG,bH,bI,bJ,bK,bL,bM,bN,bO,bP,bQ,bR,bS,bT,bU,bV,bW,uA,uB,uC,uD,uE,uF,uG,uH,uI,uJ,uK,uL,uM,uN,uO,uP,uQ,uR,uS,uT,uU,uV,uW,uX,uY,uZ,vA,vB,vC,vD,vE,vF,vG,vH,vI,vJ,vK,vL,vM,vN,vO,vP,vQ,vR,vS,vT,vU,vV,vW,vX,vY,vZ,qA,qB,qC,qD,qE,qF,qG,qH,qI,qJ,qK,qL,qM,qN,qO,qP,qQ,qR,qS,qT,qU,qV,qW,qX,qY,qZ,jA,jB,jC,jD,jE,jF,jG,jH,jI,jJ,jK,jL,jM,jN,jO,jP,jQ,jR,jS,jT,jU,jV,jW,jX,jY,jZ,yA,yB,yC,yD,yE,yF,yG,yH,yI,yJ,yK,yL,yM,yN,yO],[]⟩ wr:=by
 refine cache_copy W wr gl n wd ls ak xl ck size old iI kI h n2 n3 n4 n5 n6 u0 yP yQ yR yS yT yU yV yW yX yY yZ zA zB zC zD zE zF zG zH zI zJ zK zL zM zN zO zP zQ zR zS zT zU zV zW zX zY zZ aA aB aC aD aE aF aG aH aI aJ aK aL aM aN aO aP aQ aR aS aT aU aV aW aX aY aZ bA bB bC bD bE bF bG bH bI bJ bK bL bM bN bO bP bQ bR bS bT bU bV bW uA uB uC uD uE uF uG uH uI uJ uK uL uM uN uO uP uQ uR uS uT uU uV uW uX uY uZ vA vB vC vD vE vF vG vH vI vJ vK vL vM vN vO vP vQ vR vS vT vU vV vW vX vY vZ qA qB qC qD qE qF qG qH qI qJ qK qL qM qN qO qP qQ qR qS qT qU qV qW qX qY qZ jA jB jC jD jE jF jG jH jI jJ jK jL jM jN jO jP jQ jR jS jT jU jV jW jX jY jZ yA yB yC yD yE yF yG yH yI yJ yK yL yM yN yO (fun _ _=>True) R ?_
 intro yZ zC zF zG uG uH uI uJ uK uL uM uN uO uP uQ uR uS uT uU uV uW uX uY uZ vA vB vC vD vE vF vG vH vI vJ vK vL vM vN vO vP vQ vR vS vT vU vV vW vX vY vZ qA qB qC qD qE qF qG qH qI qJ qK qL qM qN qO qP qQ qR qS qT qU qV qW qX qY qZ jA jB jC jD jE jF jG jH jI jJ jK jL jM jN jO jP jQ jR jS jT jU jV jW jX jY jZ yA yB yC yD yE yF yG yH yI yJ yK yL yM yN yO a4 c4 w1 hw1 ho1
 refine cache_spoil W wr w1 gl n wd ls ak xl ck size old iI kI hk h hw1 n2 n3 n4 n5 n6 hb4 hb5 hb6 hb3 a4 c4 ho1 u0 yP yQ yR yS yT yU yV yW yX yY yZ zA zB zC zF zG zH zI zJ zK zL zM zN zO zP zQ zR zS zT zU zV zW zX zY zZ aA aB aC aD aE aF aG aH aI aJ aK aL aM aN aO aP aQ aR aS aT aU aV aW aX aY aZ bA bB bC bD bE bF bG bH bI bJ bK bL bM bN bO bP bQ bR bS bT bU bV bW uA uB uC uD uE uF uG uH uI uJ uK uL uM uN uO uP uQ uR uS uT uU uV uW uX uY uZ vA vB vC vD vE vF vG vH vI vJ vK vL vM vN vO vP vQ vR vS vT vU vV vW vX vY vZ qA qB qC qD qE qF qG qH qI qJ qK qL qM qN qO qP qQ qR qS qT qU qV qW qX qY qZ jA jB jC jD jE jF jG jH jI jJ jK jL jM jN jO jP jQ jR jS jT jU jV jW jX jY jZ yA yB yC yD yE yF yG yH yI yJ yK yL yM yN yO (fun _ _=>True) R hR ?_
 intro yZ zC zF zG uG uH uI uJ uK uL uM uN uO uP uQ uR uS uT uU uV uW uX uY uZ vA vB vC vD vE vF vG vH vI vJ vK vL vM vN vO vP vQ vR vS vT vU vV vW vX vY vZ qA qB qC qD qE qF qG qH qI qJ qK qL qM qN qO qP qQ qR qS qT qU qV qW qX qY qZ jA jB jC jD jE jF jG jH jI jJ jK jL jM jN jO jP jQ jR jS jT jU jV jW jX jY jZ yA yB yC yD yE yF yG yH yI yJ yK yL yM yN yO wd2 y a2 yl c2 w2 hyl hw2 ho2 hsp
 refine cache_disk W wr w2 gl n wd ls ak xl ck size old iI kI h n2 n3 n4 n5 n6 wd2 y a2 yl c2 hyl (by rw [← hyl];exact hsp.le) hw2 ho2 u0 yP yQ yR yS yT yU yV yW yX yY yZ zA zB zC zF zG zH zI zJ zK zL zM zN zO zP zQ zR zS zT zU zV zW zX zY zZ aA aB aC aD aE aF aG aH aI aJ aK aL aM aN aO aP aQ aR aS aT aU aV aW aX aY aZ bA bB bC bD bE bF bG bH bI bJ bK bL bM bN bO bP bQ bR bS bT bU bV bW uA uB uC uD uE uF uG uH uI uJ uK uL uM uN uO uP uQ uR uS uT uU uV uW uX uY uZ vA vB vC vD vE vF vG vH vI vJ vK vL vM vN vO vP vQ vR vS vT vU vV vW vX vY vZ qA qB qC qD qE qF qG qH qI qJ qK qL qM qN qO qP qQ qR qS qT qU qV qW qX qY qZ jA jB jC jD jE jF jG jH jI jJ jK jL jM jN jO jP jQ jR jS jT jU jV jW jX jY jZ yA yB yC yD yE yF yG yH yI yJ yK yL yM yN yO R ?_
 intro yZ zC zD zG uG uH uI uJ uK uL uM uN uO uP uQ uR uS uT uU uV uW uX uY uZ vA vB vC vD vE vF vG vH vI vJ vK vL vM vN vO vP vQ vR vS vT vU vV vW vX vY vZ qA qB qC qD qE qF qG qH qI qJ qK qL qM qN qO qP qQ qR qS qT qU qV qW qX qY qZ jA jB jC jD jE jF jG jH jI jJ jK jL jM jN jO jP jQ jR jS jT jU jV jW jX jY jZ yA yB yC yD yE yF yG yH yI yJ yK yL yM yN yO L gd w3 hw3 hd3 hl3
 refine cache_over W wr w3 gl n wd ls ak xl ck size old iI kI h n2 n3 n4 n5 n6 hb2 wd2 y hsp L gd hw3 hd3 hl3 u0 yP yQ yR yS yT yU yV yW yX yY yZ zA zB zC zD zG zH zI zJ zK zL zM zN zO zP zQ zR zS zT zU zV zW zX zY zZ aA aB aC aD aE aF aG aH aI aJ aK aL aM aN aO aP aQ aR aS aT aU aV aW aX aY aZ bA bB bC bD bE bF bG bH bI bJ bK bL bM bN bO bP bQ bR bS bT bU bV bW uA uB uC uD uE uF uG uH uI uJ uK uL uM uN uO uP uQ uR uS uT uU uV uW uX uY uZ vA vB vC vD vE vF vG vH vI vJ vK vL vM vN vO vP vQ vR vS vT vU vV vW vX vY vZ qA qB qC qD qE qF qG qH qI qJ qK qL qM qN qO qP qQ qR qS qT qU qV qW qX qY qZ jA jB jC jD jE jF jG jH jI jJ jK jL jM jN jO jP jQ jR jS jT jU jV jW jX jY jZ yA yB yC yD yE yF yG yH yI yJ yK yL yM yN yO R ?_
 intro yZ zD zG uG uH uI uJ uK uL uM uN uO uP uQ uR uS uT uU uV uW uX uY uZ vA vB vC vD vE vF vG vH vI vJ vK vL vM vN vO vP vQ vR vS vT vU vV vW vX vY vZ qA qB qC qD qE qF qG qH qI qJ qK qL qM qN qO qP qQ qR qS qT qU qV qW qX qY qZ jA jB jC jD jE jF jG jH jI jJ jK jL jM jN jO jP jQ jR jS jT jU jV jW jX jY jZ yA yB yC yD yE yF yG yH yI yJ yK yL yM yN yO τ gt T Y w4 ho4
 refine cache_ask W wr w4 gl n wd ls ak xl ck size old iI kI h n2 n3 n4 n5 n6 wd2 y hsp.le L τ gt gd T Y ho4 u0 yP yQ yR yS yT yU yV yW yX yY yZ zA zB zD zG zH zI zJ zK zL zM zN zO zP zQ zR zS zT zU zV zW zX zY zZ aA aB aC aD aE aF aG aH aI aJ aK aL aM aN aO aP aQ aR aS aT aU aV aW aX aY aZ bA bB bC bD bE bF bG bH bI bJ bK bL bM bN bO bP bQ bR bS bT bU bV bW uA uB uC uD uE uF uG uH uI uJ uK uL uM uN uO uP uQ uR uS uT uU uV uW uX uY uZ vA vB vC vD vE vF vG vH vI vJ vK vL vM vN vO vP vQ vR vS vT vU vV vW vX vY vZ qA qB qC qD qE qF qG qH qI qJ qK qL qM qN qO qP qQ qR qS qT qU qV qW qX qY qZ jA jB jC jD jE jF jG jH jI jJ jK jL jM jN jO jP jQ jR jS jT jU jV jW jX jY jZ yA yB yC yD yE yF yG yH yI yJ yK yL yM yN yO R ?_
 intro yZ zC zD zG uG uH uI uJ uK uL uM uN uO uP uQ uR uS uT uU uV uW uX uY uZ vA vB vC vD vE vF vG vH vI vJ vK vL vM vN vO vP vQ vR vS vT vU vV vW vX vY vZ qA qB qC qD qE qF qG qH qI qJ qK qL qM qN qO qP qQ qR qS qT qU qV qW qX qY qZ jA jB jC jD jE jF jG jH jI jJ jK jL jM jN jO jP jQ jR jS jT jU jV jW jX jY jZ yA yB yC yD yE yF yG yH yI yJ yK yL yM yN yO L' d' w5 hw5 hd5 hk5 hp5
 refine cache_end W wr w5 gl n wd ls ak xl ck size old iI kI h n2 n3 n4 n5 n6 wd2 L' gd d' hw5 hd5 hp5 hk5 u0 yP yQ yR yS yT yU yV yW yX yY yZ zA zB zC zD zG zH zI zJ zK zL zM zN zO zP zQ zR zS zT zU zV zW zX zY zZ aA aB aC aD aE aF aG aH aI aJ aK aL aM aN aO aP aQ aR aS aT aU aV aW aX aY aZ bA bB bC bD bE bF bG bH bI bJ bK bL bM bN bO bP bQ bR bS bT bU bV bW uA uB uC uD uE uF uG uH uI uJ uK uL uM uN uO uP uQ uR uS uT uU uV uW uX uY uZ vA vB vC vD vE vF vG vH vI vJ vK vL vM vN vO vP vQ vR vS vT vU vV vW vX vY vZ qA qB qC qD qE qF qG qH qI qJ qK qL qM qN qO qP qQ qR qS qT qU qV qW qX qY qZ jA jB jC jD jE jF jG jH jI jJ jK jL jM jN jO jP jQ jR jS jT jU jV jW jX jY jZ yA yB yC yD yE yF yG yH yI yJ yK yL yM yN yO R hR ?_
 intro yZ zC zD zE zF zG uG uH uI uJ uK uL uM uN uO uP uQ uR uS uT uU uV uW uX uY uZ vA vB vC vD vE vF vG vH vI vJ vK vL vM vN vO vP vQ vR vS vT vU vV vW vX vY vZ qA qB qC qD qE qF qG qH qI qJ qK qL qM qN qO qP qQ qR qS qT qU qV qW qX qY qZ jA jB jC jD jE jF jG jH jI jJ jK jL jM jN jO jP jQ jR jS jT jU jV jW jX jY jZ yA yB yC yD yE yF yG yH yI yJ yK yL yM yN yO w6 hw6
 exact hK yZ zC zD zE zF zG uG uH uI uJ uK uL uM uN uO uP uQ uR uS uT uU uV uW uX uY uZ vA vB vC vD vE vF vG vH vI vJ vK vL vM vN vO vP vQ vR vS vT vU vV vW vX vY vZ qA qB qC qD qE qF qG qH qI qJ qK qL qM qN qO qP qQ qR qS qT qU qV qW qX qY qZ jA jB jC jD jE jF jG jH jI jJ jK jL jM jN jO jP jQ jR jS jT jU jV jW jX jY jZ yA yB yC yD yE yF yG yH yI yJ yK yL yM yN yO w6 hw6
theorem KAt.look0 {w:World} {B b:Nat} {l:List (Nm × List UInt8)} (h:KAt w B b l) {s:Nm} (hs:s.length≤maxLen) :
 ∃ a c,(Instr.lookup 55 (.map (some b)) (.string (bs s)) false).run Tryz.prog w=.ok (.slice a ((lk l s).getD []).length c) w∧w.ownsRow B 5 1 (.slice a ((lk l s).getD []).length c) ((lk l s).getD []).length (((lk l s).getD []).map b8):=by
 cases hx:lk l s with
 | some x=>exact h.look hs hx
 | none =>
   obtain ⟨-,D,hm,-,h3⟩:=h
   obtain ⟨c,h4,h5,-⟩:=(h3 s).2
   obtain ⟨v,ps,hrun,hv⟩:=hm.lookup law9 Tryz.underlying55 (show (zeroValue 53).run Tryz.prog w=.ok (.slice Option.none 0 0) w from zero50 w) (zd:=.nil) (zp:=[]) rfl (key9 (s:=bs s) hs)
   have hc:=h5 hx
   subst hc
   have he:v=encS Option.none:=by
    obtain ⟨c',hc'⟩:=sliceR_inv hv
    rw [hc',sliceR_enc] at hv
    have h7:D.atKey (.string s) .nil=scD c':=by
     have:=congrArg (fun o=>o.map (·.1)) hv
     simpa using this.symm
    rw [h4] at h7
    rw [hc',scD_inj h7]
   subst he
   exact ⟨Option.none,0,hrun,World.ownsRow_nil _ _ _ _⟩
end
section
open Go.Maps Go.WideMaps Go.ChangeMaps
noncomputable def tcL:Code:=(Tryz.f6.body.bind firstLoop).getD .skip
def CRet (W:World) (e:Ending) (w':World):Prop:=e=.returned (.bool true)∧Below W.heap.size W w'
set_option maxHeartbeats 16000000
theorem cache_loop (W wr:World) (gl n:Nat) (wd:Int) (ls:List Dg) (ak:Option Addr) (xl ck size old:Nat) (iI:Int) (h:RC W wr gl n wd ls ak xl ck size old iI) (n2 n3 n4 n5 n6:Int) (hb2:-9223372036854775808≤n2∧n2≤9223372036854775807) (hb3:-9223372036854775808≤n3∧n3≤9223372036854775807) (hb4:-9223372036854775808≤n4∧n4≤9223372036854775807) (hb5:-9223372036854775808≤n5∧n5≤9223372036854775807) (hb6:-9223372036854775808≤n6∧n6≤9223372036854775807) (u0 yP yQ yR yS yT yU yV yW yX yY yZ zA zB zC zD zE zF zG zH zI zJ zK zL zM zN zO zP zQ zR zS zT zU zV zW zX zY zZ aA aB aC aD aE aF aG aH aI aJ aK aL aM aN aO aP aQ aR aS aT aU aV aW aX aY aZ bA bB bC bD bE bF bG bH bI bJ bK bL bM bN bO bP bQ bR bS bT bU bV bW bX uA uB uC uD uE uF uG uH uI uJ uK uL uM uN uO uP uQ uR uS uT uU uV uW uX uY uZ vA vB vC vD vE vF vG vH vI vJ vK vL vM vN vO vP vQ vR vS vT vU vV vW vX vY vZ qA qB qC qD qE qF qG qH qI qJ qK qL qM qN qO qP qQ qR qS qT qU qV qW qX qY qZ jA jB jC jD jE jF jG jH jI jJ jK jL jM jN jO jP jQ jR jS jT jU jV jW jX jY jZ yA yB yC yD yE yF yG yH yI yJ yK yL yM yN yO:Value) :
 Code.wp Tryz.prog (dropSeq 12 tc0) (bodyPost Tryz.prog Tryz.f6 (CRet W)) ⟨#[u0,.int .i64 (n:Int),.int .i64 n2,.int .i64 n3,.int .i64 n4,.int .i64 n5,.int .i64 n6,.int .i64 (size:Int),.int .i64 (old:Int),.int .i64 iI,yP,yQ,yR,yS,yT,yU,yV,yW,yX,yY,yZ,.slice (some ⟨gl,0,none⟩) n n,.int .i64 wd,zA,zB,zC,.slice ak xl ck,zD,zE,zF,zG,zH,zI,zJ,zK,zL,zM,zN,zO,zP,zQ,zR,zS,zT,zU,zV,zW,zX,zY,zZ,aA,aB,aC,aD,aE,aF,aG,aH,aI,aJ,aK,aL,aM,aN,aO,aP,aQ,aR,aS,aT,aU,aV,aW,aX,aY,aZ,bA,bB,bC,bD,bE,bF,bG,bH,bI,bJ,bK,bL,bM,bN,bO,bP,bQ,bR,bS,bT,bU,bV,bW,bX,uA,uB,uC,uD,uE,uF,uG,uH,uI,uJ,uK,uL,uM,uN,uO,uP,uQ,uR,uS,uT,uU,uV,uW,uX,uY,uZ,vA,vB,vC,vD,vE,vF,vG,vH,vI,vJ,vK,vL,vM,vN,vO,vP,vQ,vR,vS,vT,vU,vV,vW,vX,vY,vZ,qA,qB,qC,qD,qE,qF,qG,qH,qI,qJ,qK,qL,qM,qN,qO,qP,qQ,qR,qS,qT,qU,qV,qW,qX,qY,qZ,jA,jB,jC,jD,jE,jF,jG,jH,jI,jJ,jK,jL,jM,jN,jO,jP,jQ,jR,jS,jT,jU,jV,jW,jX,jY,jZ,yA,yB,yC,yD,yE,yF,yG,yH,yI,yJ,yK,yL,yM,yN,yO],[]⟩ wr:=by
 have HRC:=hid h
 have HBS:=hid (And.intro hb2 (And.intro hb3 (And.intro hb4 (And.intro hb5 hb6))))
 clear h hb2 hb3 hb4 hb5 hb6
 refine wp_two_k (c:=dropSeq 12 tc0) ⟨_,_,rfl⟩ fun K hK=>?_
 have HK:=hid hK
 clear hK
 conv=>arg 2;whnf
 go_wp2_with fail
 go_loopw [27] (fun v wr=>∃ k:Nat,k≤4∧v=.int .i64 (k:Int)∧RC W wr gl n wd ls ak xl ck size old iI) (fun v _=>4 - (intOf v).toNat)
 case atStart=>exact ⟨0,Nat.zero_le _,rfl,HRC.out⟩
 case round =>
  obtain ⟨k,hk,rfl,hrc⟩:=hrel
  have HR2:=hid hrc
  by_cases hlt:k < 4
  · have h9:decide ((k:Int) < 4)=true:=by simp;omega
    have h8:decide (k < 4)=true:=by simp;omega
    have HLT:=hid hlt
    clear hlt hrc hk
    change Code.wp Tryz.prog tcL _ _ _
    refine wp_two_k (c:=tcL) ⟨_,_,rfl⟩ fun K2 hK2=>?_
    have HK2:=hid hK2
    clear hK2
    conv=>arg 2;whnf
    go_wp2_with fail
    refine HK2.out _ _ ?_
    clear HK2 K2
    refine wp_two_k (c:=dropSeq 1 tcL) ⟨_,_,rfl⟩ fun K2 hK2=>?_
    have HK2:=hid hK2
    clear hK2
    conv=>arg 2;whnf
    refine wp_block ?_
    change Code.wp Tryz.prog tcX _ _ _
    refine cache_round W wr gl n wd ls ak xl ck size old iI (k:Int) HR2.out (by have:=HLT.out;omega) n2 n3 n4 n5 n6 HBS.out.1 HBS.out.2.1 HBS.out.2.2.1 HBS.out.2.2.2.1 HBS.out.2.2.2.2 _ _ _ _ _ _ _ _ _ _ _ _ _ _ _ _ _ _ _ _ _ _ _ _ _ _ _ _ _ _ _ _ _ _ _ _ _ _ _ _ _ _ _ _ _ _ _ _ _ _ _ _ _ _ _ _ _ _ _ _ _ _ _ _ _ _ _ _ _ _ _ _ _ _ _ _ _ _ _ _ _ _ _ _ _ _ _ _ _ _ _ _ _ _ _ _ _ _ _ _ _ _ _ _ _ _ _ _ _ _ _ _ _ _ _ _ _ _ _ _ _ _ _ _ _ _ _ _ _ _ _ _ _ _ _ _ _ _ _ _ _ _ _ _ _ _ _ _ _ _ _ _ _ _ _ _ _ _ _ _ _ _ _ _ _ _ _ _ _ _ _ _ _ _ _ _ _ _ _ _ _ _ _ _ _ _ _ _ _ _ _ _ _ _ _ _ _ _ _ _ _ _ _ _ _ _  _ (fun c a a' w h e=>⟨(show a'.defers=[] from e ▸ (show a.defers=[] from h.1)),h.2⟩) ?_
    intro yZ zC zE zF zG zH uG uH uI uJ uK uL uM uN uO uP uQ uR uS uT uU uV uW uX uY uZ vA vB vC vD vE vF vG vH vI vJ vK vL vM vN vO vP vQ vR vS vT vU vV vW vX vY vZ qA qB qC qD qE qF qG qH qI qJ qK qL qM qN qO qP qQ qR qS qT qU qV qW qX qY qZ jA jB jC jD jE jF jG jH jI jJ jK jL jM jN jO jP jQ jR jS jT jU jV jW jX jY jZ yA yB yC yD yE yF yG yH yI yJ yK yL yM yN yO w6 hb6
    refine HK2.out _ _ ?_
    clear HK2 K2
    rw [dropSeq_succ]
    have hkw:wrap64 ((k:Int)+1)=(k:Int)+1:=wrap64_small (by omega) (by have:=HLT.out;omega)
    conv=>arg 2;whnf
    go_wp2_with fail
    go_roundw
    case rel=>exact ⟨k+1,HLT.out,by rw [hkw];push_cast;rfl,HR2.out.below hb6⟩
    case measure =>
     have:=HLT.out
     rw [hkw]
     simp [intOf];omega
  · obtain rfl:k=4:=by omega
    clear hk hlt hrc
    go_wp2_with fail
    refine HK.out _ _ ?_
    clear HK
    rw [dropSeq_succ]
    conv=>arg 2;whnf
    go_wp2_with fail
    go_ret
    exact ⟨rfl,HR2.out.hb⟩
end
section
open Go.Maps Go.WideMaps Go.ChangeMaps
structure R0 (W w:World) (gl n:Nat) (wd:Int) (ls:List Dg) (size old:Nat) (iI:Int):Prop where
 hb:Below W.heap.size W w
 ds:DS w (some ⟨gl,0,none⟩) n n ls
 gls:gl < w.heap.size
 ll:ls.length=n
 n2:n≤2000
 wdb:1≤wd∧wd≤32
 sz:size≤n
 os:old≤size
 hi:0 < size→∃ i:Nat,iI=(i:Int)∧i < size
 tb:HalfTab W∧RoundTab W∧TabAt 1 Lib.deBruijn64tab W∧4≤W.heap.size
theorem R0.below {W w w':World} {gl n:Nat} {wd:Int} {ls:List Dg} {size old:Nat} {iI:Int} (h:R0 W w gl n wd ls size old iI) (hb:Below w.heap.size w w'):R0 W w' gl n wd ls size old iI :=
 ⟨h.hb.trans (hb.mono h.hb.size),RS.below h.ds hb,Nat.lt_of_lt_of_le h.gls hb.size,h.ll,h.n2,h.wdb,h.sz,h.os,h.hi,h.tb⟩
theorem new_end (T:TT) (cl:List (Nm × Int)) (hl:T.L.length≤2000) (hh:T.held=0):∃ r,r=flushP T.tls T.fs { Dm.new 1099511627776 with claims:=cl }∧P2 { Dm.new 1099511627776 with claims:=cl } T∧r.2.2=0∧r.1.held=T.tls.length∧(lk r.2.1.kept tlN).getD []=T.tls.flatten∧Pre r.2.1∧r.2.1.power=true:=by
 obtain ⟨h1,h2,h3⟩:=new_flush T cl hl hh
 refine ⟨_,rfl,h1,?_⟩
 by_cases e:T.tls=[]
 · rw [h3 e]
   exact ⟨rfl,by show T.held=_;rw [hh,e];rfl,by rw [e];rfl,h1.a,rfl⟩
 · have hE:=h2 e
   exact ⟨hE.e,hE.h,by rw [hE.k];simp [lk],hE.p,hE.w⟩
set_option maxHeartbeats 16000000
theorem cache_new (W wr:World) (gl n:Nat) (wd:Int) (ls:List Dg) (size old:Nat) (iI:Int) (h:R0 W wr gl n wd ls size old iI) (n2 n3 n4 n5 n6:Int) (hb2:-9223372036854775808≤n2∧n2≤9223372036854775807) (u0 yP yQ yR yS yT yU yV yW yX yY yZ zA zB zC zD zE zF zG zH zI zJ zK zL zM zN zO zP zQ zR zS zT zU zV zW zX zY zZ aA aB aC aD aE aF aG aH aI aJ aK aL aM aN aO aP aQ aR aS aT aU aV aW aX aY aZ bA bB bC bD bE bF bG bH bI bJ bK bL bM bN bO bP bQ bR bS bT bU bV bW bX bY uA uB uC uD uE uF uG uH uI uJ uK uL uM uN uO uP uQ uR uS uT uU uV uW uX uY uZ vA vB vC vD vE vF vG vH vI vJ vK vL vM vN vO vP vQ vR vS vT vU vV vW vX vY vZ qA qB qC qD qE qF qG qH qI qJ qK qL qM qN qO qP qQ qR qS qT qU qV qW qX qY qZ jA jB jC jD jE jF jG jH jI jJ jK jL jM jN jO jP jQ jR jS jT jU jV jW jX jY jZ yA yB yC yD yE yF yG yH yI yJ yK yL yM yN yO:Value) (R:Exit→Act→World→Prop)
 (hK:∀ (u0 yP yQ yR yS yT yU yV yW yX yY yZ zB zD zE zF zG zH zI zJ zK zL zM zN zO zP zQ zR zS zT zU zV zW zX zY zZ aA aB aC aD aE aF aG aH aI aJ aK aL aM aN aO aP aQ aR aS aT aU aV aW aX aY aZ bA bB bC bD bE bF bG bH bI bJ bK bL bM bN bO bP bQ bR bS bT bU bV bW bX bY uA uB uC uD uE uF uG uH uI uJ uK uL uM uN uO uP uQ uR uS uT uU uV uW uX uY uZ vA vB vC vD vE vF vG vH vI vJ vK vL vM vN vO vP vQ vR vS vT vU vV vW vX vY vZ qA qB qC qD qE qF qG qH qI qJ qK qL qM qN qO qP qQ qR qS qT qU qV qW qX qY qZ jA jB jC jD jE jF jG jH jI jJ jK jL jM jN jO jP jQ jR jS jT jU jV jW jX jY jZ yA yB yC yD yE yF yG yH yI yJ yK yL yM yN yO:Value) (L:Lay) (τ:Nat→Nat) (gt gd:Nat) (T:TT) (Y:TY) (w':World),BT w' L τ gt gd ((Dm.new 1099511627776).claim tlN) T Y→(∀ k,k < wr.heap.size→L.ρ k=0∧τ k=0)→Below wr.heap.size wr w'→T.L=ls→T.wd=wd→T.held=0→T.live ((Dm.new 1099511627776).claim tlN) tlN=0→Code.wp Tryz.prog (dropSeq 10 tc0) R ⟨#[u0,.int .i64 (n:Int),.int .i64 n2,.int .i64 n3,.int .i64 n4,.int .i64 n5,.int .i64 n6,.int .i64 (size:Int),.int .i64 (old:Int),.int .i64 iI,yP,yQ,yR,yS,yT,yU,yV,yW,yX,yY,yZ,.slice (some ⟨gl,0,none⟩) n n,.int .i64 wd,.pointer (some ⟨gd,0,none⟩),zB,.pointer (some ⟨gt,0,none⟩),zD,zE,zF,zG,zH,zI,zJ,zK,zL,zM,zN,zO,zP,zQ,zR,zS,zT,zU,zV,zW,zX,zY,zZ,aA,aB,aC,aD,aE,aF,aG,aH,aI,aJ,aK,aL,aM,aN,aO,aP,aQ,aR,aS,aT,aU,aV,aW,aX,aY,aZ,bA,bB,bC,bD,bE,bF,bG,bH,bI,bJ,bK,bL,bM,bN,bO,bP,bQ,bR,bS,bT,bU,bV,bW,bX,bY,uA,uB,uC,uD,uE,uF,uG,uH,uI,uJ,uK,uL,uM,uN,uO,uP,uQ,uR,uS,uT,uU,uV,uW,uX,uY,uZ,vA,vB,vC,vD,vE,vF,vG,vH,vI,vJ,vK,vL,vM,vN,vO,vP,vQ,vR,vS,vT,vU,vV,vW,vX,vY,vZ,qA,qB,qC,qD,qE,qF,qG,qH,qI,qJ,qK,qL,qM,qN,qO,qP,qQ,qR,qS,qT,qU,qV,qW,qX,qY,qZ,jA,jB,jC,jD,jE,jF,jG,jH,jI,jJ,jK,jL,jM,jN,jO,jP,jQ,jR,jS,jT,jU,jV,jW,jX,jY,jZ,yA,yB,yC,yD,yE,yF,yG,yH,yI,yJ,yK,yL,yM,yN,yO],[]⟩ w') :
 Code.wp Tryz.prog (dropSeq 7 tc0) R ⟨#[u0,.int .i64 (n:Int),.int .i64 n2,.int .i64 n3,.int .i64 n4,.int .i64 n5,.int .i64 n6,.int .i64 (size:Int),.int .i64 (old:Int),.int .i64 iI,yP,yQ,yR,yS,yT,yU,yV,yW,yX,yY,yZ,.slice (some ⟨gl,0,none⟩) n n,.int .i64 wd,zA,zB,zC,zD,zE,zF,zG,zH,zI,zJ,zK,zL,zM,zN,zO,zP,zQ,zR,zS,zT,zU,zV,zW,zX,zY,zZ,aA,aB,aC,aD,aE,aF,aG,aH,aI,aJ,aK,aL,aM,aN,aO,aP,aQ,aR,aS,aT,aU,aV,aW,aX,aY,aZ,bA,bB,bC,bD,bE,bF,bG,bH,bI,bJ,bK,bL,bM,bN,bO,bP,bQ,bR,bS,bT,bU,bV,bW,bX,bY,uA,uB,uC,uD,uE,uF,uG,uH,uI,uJ,uK,uL,uM,uN,uO,uP,uQ,uR,uS,uT,uU,uV,uW,uX,uY,uZ,vA,vB,vC,vD,vE,vF,vG,vH,vI,vJ,vK,vL,vM,vN,vO,vP,vQ,vR,vS,vT,vU,vV,vW,vX,vY,vZ,qA,qB,qC,qD,qE,qF,qG,qH,qI,qJ,qK,qL,qM,qN,qO,qP,qQ,qR,qS,qT,qU,qV,qW,qX,qY,qZ,jA,jB,jC,jD,jE,jF,jG,jH,jI,jJ,jK,jL,jM,jN,jO,jP,jQ,jR,jS,jT,jU,jV,jW,jX,jY,jZ,yA,yB,yC,yD,yE,yF,yG,yH,yI,yJ,yK,yL,yM,yN,yO],[]⟩ wr:=by
 obtain ⟨m0,hm0,hm1,hm2⟩:=wi_nat n2 0 n (Nat.zero_le _)
 have hn2:=h.n2
 have WN:=hid (fun w=>within_any w n2 0 (n:Int) hb2.1 hb2.2 (by decide) (by omega) (by omega))
 rw [← show (m0:Int)=wiP n2 0 n from hm0] at WN
 have HN:=hid (newdisk_any wr 1099511627776 (by decide) (by decide))
 have HR0:=hid h
 have HKK:=hid hK
 have HM:=hid hm2
 clear h hK hm0 hm1 hm2 hn2
 refine wp_two_k (c:=dropSeq 7 tc0) ⟨_,_,rfl⟩ fun K hK=>?_
 have HK:=hid hK
 clear hK
 conv=>arg 2;whnf
 go_wp2_with (go_at_call 10;refine HN.out.mono ?_;rintro e w2 ⟨hb2,L0,gd,rfl,hd2,hlo2⟩;have HB2:=hid hb2;have HD2:=hid hd2;have HLO2:=hid hlo2;clear hb2 hd2 hlo2)
 refine HK.out _ _ ?_
 clear HK K
 rw [dropSeq_succ]
 refine wp_two_k (c:=dropSeq 8 tc0) ⟨_,_,rfl⟩ fun K hK=>?_
 have HK:=hid hK
 clear hK
 conv=>arg 2;whnf
 go_wp2_with fail
 refine HK.out _ _ ?_
 clear HK K
 rw [dropSeq_succ]
 have HOV:=hid (show Calls Tryz.prog 11 #[.pointer (some ⟨gd,0,none⟩),.int .i64 wd,.slice (some ⟨gl,0,none⟩) n n,.int .i64 (m0:Int)] w2 (OvRet w2 L0 gd (Dm.new 1099511627776) ⟨(Dm.new 1099511627776).epoch,(Dm.new 1099511627776).claimOf tlN+1,wd,0,looseB (Dm.new 1099511627776),looseB (Dm.new 1099511627776),ls⟩) by
  have hX:=HR0.out.below HB2.out;have hT:=hX.tb
  have hwh:wholeD (Dm.new 1099511627776)=([],0):=by
   unfold wholeD
   rw [length_t (d:=Dm.new 1099511627776) rfl]
   rfl
  have hlen:(Dm.new 1099511627776).length tlN=(0,32):=by rw [length_t (d:=Dm.new 1099511627776) rfl];rfl
  exact over_any w2 L0 gd (Dm.new 1099511627776) HD2.out ((SD.new [] 1099511627776).pre (by decide) (by decide)) rfl (fun i hi=>absurd hi (Nat.not_lt_zero i)) (by show 0 < 1000000;decide) ⟨by show -4611686018427387904≤(0:Int);decide,by show (0:Int)≤4611686018427387904;decide⟩ wd hX.wdb ls (some ⟨gl,0,none⟩) n n m0 hX.ds (by have:=hX.n2;omega) HM.out 0 (Nat.zero_le _) [] (by rw [hwh];rfl) (by rw [hwh]) (by rw [hlen];decide) (by rw [hlen];decide) (by rw [hwh];show 0≤_;exact Nat.zero_le _) (fun _ q=>by simp at q) (hT.1.below hX.hb (by omega)) (rt_below hT.2.1 hX.hb (by omega)) (by have:=hX.hb.size;omega) (HLO2.out 3 (by have:=HR0.out.hb.size;omega)) (fun b off e _=>by cases e;exact HLO2.out gl HR0.out.gls))
 refine wp_two_k (c:=dropSeq 9 tc0) ⟨_,_,rfl⟩ fun K hK=>?_
 have HK:=hid hK
 clear hK
 conv=>arg 2;whnf
 go_wp2_with (first
  | (go_at_call 8;(with_reducible refine (WN.out _).mono ?_);rintro e wx ⟨rfl,hw⟩;have hw:=hw.symm;subst hw)
  | (go_at_call 11;refine HOV.out.mono ?_;rintro e w3 ⟨gt,τ,Y,rfl,hbt,hu,hnw⟩;have HBT:=hid hbt;have HU:=hid hu;have HNW:=hid hnw;clear hbt hu hnw))
 refine HK.out _ _ ?_
 clear HK K
 rw [dropSeq_succ]
 have hu:=HU.out
 have hb:=HB2.out
 refine HKK.out _ _ _ _ _ _ _ _ _ _ _ _ _ _ _ _ _ _ _ _ _ _ _ _ _ _ _ _ _ _ _ _ _ _ _ _ _ _ _ _ _ _ _ _ _ _ _ _ _ _ _ _ _ _ _ _ _ _ _ _ _ _ _ _ _ _ _ _ _ _ _ _ _ _ _ _ _ _ _ _ _ _ _ _ _ _ _ _ _ _ _ _ _ _ _ _ _ _ _ _ _ _ _ _ _ _ _ _ _ _ _ _ _ _ _ _ _ _ _ _ _ _ _ _ _ _ _ _ _ _ _ _ _ _ _ _ _ _ _ _ _ _ _ _ _ _ _ _ _ _ _ _ _ _ _ _ _ _ _ _ _ _ _ _ _ _ _ _ _ _ _ _ _ _ _ _ _ _ _ _ _ _ _ _ _ _ _ _ _ _ _ _ _ _ _ _ _ _ _ _ _ _ _ _ _ _  L0 τ gt gd _ Y w3 HBT.out (fun k hk=>⟨HLO2.out k hk,?_⟩) ⟨hu.os.trans hb.os,hu.tape.trans hb.tape,hu.output.trans hb.output,Nat.le_trans hb.size hu.size,fun k hk=>(hu.block k (Nat.lt_of_lt_of_le hk hb.size) (HLO2.out k hk)).trans (hb.block k hk)⟩ rfl rfl rfl (live_fresh (Dm.new 1099511627776) rfl wd 0 _ _ ls)
 rcases Nat.eq_zero_or_pos (τ k) with e | e
 · exact e
 · have:=HNW.out k (by omega);have:=hb.size;omega
theorem cache_first (W wB wr:World) (gl n:Nat) (wd:Int) (ls:List Dg) (size old:Nat) (iI:Int) (h:R0 W wB gl n wd ls size old iI) (n2 n3 n4 n5 n6:Int) (L:Lay) (τ:Nat→Nat) (gt gd:Nat) (T:TT) (Y:TY) (hbt:BT wr L τ gt gd ((Dm.new 1099511627776).claim tlN) T Y) (hlo:∀ k,k < wB.heap.size→L.ρ k=0∧τ k=0) (hb0:Below wB.heap.size wB wr) (htl:T.L=ls) (htw:T.wd=wd) (hh0:T.held=0) (hlv:T.live ((Dm.new 1099511627776).claim tlN) tlN=0) (u0 yP yQ yR yS yT yU yV yW yX yY yZ zB zD zE zF zG zH zI zJ zK zL zM zN zO zP zQ zR zS zT zU zV zW zX zY zZ aA aB aC aD aE aF aG aH aI aJ aK aL aM aN aO aP aQ aR aS aT aU aV aW aX aY aZ bA bB bC bD bE bF bG bH bI bJ bK bL bM bN bO bP bQ bR bS bT bU bV bW bX bY uA uB uC uD uE uF uG uH uI uJ uK uL uM uN uO uP uQ uR uS uT uU uV uW uX uY uZ vA vB vC vD vE vF vG vH vI vJ vK vL vM vN vO vP vQ vR vS vT vU vV vW vX vY vZ qA qB qC qD qE qF qG qH qI qJ qK qL qM qN qO qP qQ qR qS qT qU qV qW qX qY qZ jA jB jC jD jE jF jG jH jI jJ jK jL jM jN jO jP jQ jR jS jT jU jV jW jX jY jZ yA yB yC yD yE yF yG yH yI yJ yK yL yM yN yO:Value) (R:Exit→Act→World→Prop)
 (hK:∀ (u0 yP yQ yR yS yT yU yV yW yX yY yZ zB zD zE zF zG zH zI zJ zK zL zM zN zO zP zQ zR zS zT zU zV zW zX zY zZ aA aB aC aD aE aF aG aH aI aJ aK aL aM aN aO aP aQ aR aS aT aU aV aW aX aY aZ bA bB bC bD bE bF bG bH bI bJ bK bL bM bN bO bP bQ bR bS bT bU bV bW bX bY uA uB uC uD uE uF uG uH uI uJ uK uL uM uN uO uP uQ uR uS uT uU uV uW uX uY uZ vA vB vC vD vE vF vG vH vI vJ vK vL vM vN vO vP vQ vR vS vT vU vV vW vX vY vZ qA qB qC qD qE qF qG qH qI qJ qK qL qM qN qO qP qQ qR qS qT qU qV qW qX qY qZ jA jB jC jD jE jF jG jH jI jJ jK jL jM jN jO jP jQ jR jS jT jU jV jW jX jY jZ yA yB yC yD yE yF yG yH yI yJ yK yL yM yN yO:Value) (L':Lay) (d':Dm) (w':World),Below wB.heap.size wB w'→DAt w' L' gd d'→(lk d'.kept tlN).getD []=tqF wd ls→Pre d'→Code.wp Tryz.prog (dropSeq 11 tc0) R ⟨#[u0,.int .i64 (n:Int),.int .i64 n2,.int .i64 n3,.int .i64 n4,.int .i64 n5,.int .i64 n6,.int .i64 (size:Int),.int .i64 (old:Int),.int .i64 iI,yP,yQ,yR,yS,yT,yU,yV,yW,yX,yY,yZ,.slice (some ⟨gl,0,none⟩) n n,.int .i64 wd,.pointer (some ⟨gd,0,none⟩),zB,.pointer (some ⟨gt,0,none⟩),zD,zE,zF,zG,zH,zI,zJ,zK,zL,zM,zN,zO,zP,zQ,zR,zS,zT,zU,zV,zW,zX,zY,zZ,aA,aB,aC,aD,aE,aF,aG,aH,aI,aJ,aK,aL,aM,aN,aO,aP,aQ,aR,aS,aT,aU,aV,aW,aX,aY,aZ,bA,bB,bC,bD,bE,bF,bG,bH,bI,bJ,bK,bL,bM,bN,bO,bP,bQ,bR,bS,bT,bU,bV,bW,bX,bY,uA,uB,uC,uD,uE,uF,uG,uH,uI,uJ,uK,uL,uM,uN,uO,uP,uQ,uR,uS,uT,uU,uV,uW,uX,uY,uZ,vA,vB,vC,vD,vE,vF,vG,vH,vI,vJ,vK,vL,vM,vN,vO,vP,vQ,vR,vS,vT,vU,vV,vW,vX,vY,vZ,qA,qB,qC,qD,qE,qF,qG,qH,qI,qJ,qK,qL,qM,qN,qO,qP,qQ,qR,qS,qT,qU,qV,qW,qX,qY,qZ,jA,jB,jC,jD,jE,jF,jG,jH,jI,jJ,jK,jL,jM,jN,jO,jP,jQ,jR,jS,jT,jU,jV,jW,jX,jY,jZ,yA,yB,yC,yD,yE,yF,yG,yH,yI,yJ,yK,yL,yM,yN,yO],[]⟩ w') :
 Code.wp Tryz.prog (dropSeq 10 tc0) R ⟨#[u0,.int .i64 (n:Int),.int .i64 n2,.int .i64 n3,.int .i64 n4,.int .i64 n5,.int .i64 n6,.int .i64 (size:Int),.int .i64 (old:Int),.int .i64 iI,yP,yQ,yR,yS,yT,yU,yV,yW,yX,yY,yZ,.slice (some ⟨gl,0,none⟩) n n,.int .i64 wd,.pointer (some ⟨gd,0,none⟩),zB,.pointer (some ⟨gt,0,none⟩),zD,zE,zF,zG,zH,zI,zJ,zK,zL,zM,zN,zO,zP,zQ,zR,zS,zT,zU,zV,zW,zX,zY,zZ,aA,aB,aC,aD,aE,aF,aG,aH,aI,aJ,aK,aL,aM,aN,aO,aP,aQ,aR,aS,aT,aU,aV,aW,aX,aY,aZ,bA,bB,bC,bD,bE,bF,bG,bH,bI,bJ,bK,bL,bM,bN,bO,bP,bQ,bR,bS,bT,bU,bV,bW,bX,bY,uA,uB,uC,uD,uE,uF,uG,uH,uI,uJ,uK,uL,uM,uN,uO,uP,uQ,uR,uS,uT,uU,uV,uW,uX,uY,uZ,vA,vB,vC,vD,vE,vF,vG,vH,vI,vJ,vK,vL,vM,vN,vO,vP,vQ,vR,vS,vT,vU,vV,vW,vX,vY,vZ,qA,qB,qC,qD,qE,qF,qG,qH,qI,qJ,qK,qL,qM,qN,qO,qP,qQ,qR,qS,qT,qU,qV,qW,qX,qY,qZ,jA,jB,jC,jD,jE,jF,jG,jH,jI,jJ,jK,jL,jM,jN,jO,jP,jQ,jR,jS,jT,jU,jV,jW,jX,jY,jZ,yA,yB,yC,yD,yE,yF,yG,yH,yI,yJ,yK,yL,yM,yN,yO],[]⟩ wr:=by
 have ht:=h.tb
 have hll:=h.ll;have hn2:=h.n2
 have hlen:T.L.length=n:=by rw [htl];exact hll
 have HA1:=hid (show Calls Tryz.prog 33 #[.pointer (some ⟨gt,0,none⟩),.int .i64 wd,.slice (some ⟨gl,0,none⟩) n n,.int .i64 (size:Int),.int .i64 (old:Int),.int .i64 iI] wr (AnRet wr) by
  have hbw:=h.hb.trans (hb0.mono h.hb.size)
  rw [← htw]
  exact answers_any wr L τ gt gd _ T Y hbt hlv (rt_below ht.2.1 hbw (by omega)) (tab_below ht.2.2.1 hbw (by omega)) _ n n (by rw [htl];exact RS.below h.ds hb0) size old iI h.os (by rw [hlen];exact h.sz) h.hi)
 obtain ⟨r,hr,hp2,e1,e2,e3,e4,e5⟩:=new_end T ((tlN,(Dm.new 1099511627776).claimOf tlN+1) :: []) (by omega) hh0
 have hp2:P2 ((Dm.new 1099511627776).claim tlN) T:=hp2
 have hr:r=flushP T.tls T.fs ((Dm.new 1099511627776).claim tlN):=hr
 have hec:=flushP_ec T.tls T.fs ((Dm.new 1099511627776).claim tlN)
 rw [← hr] at hec
 have hm:T.held≤T.L.length / 256:=by omega
 have hheld:(T.put r.1).held=T.L.length / 256:=by show r.1.held=_;rw [e2,tls_len]
 have htq:T.tls.flatten=tqF wd ls:=by rw [tls_tqF,htw,htl]
 have HFL:=hid (fun (w5:World) (hb5:Below wr.heap.size wr w5)=>show Calls Tryz.prog 12 #[.pointer (some ⟨gt,0,none⟩)] w5 (fun e w'=>e=.returned .nilIface∧∃ L',BT w' L' τ gt gd r.2.1 (T.put r.1) Y∧Below wB.heap.size wB w') by
  have hb05:=hb0.trans (hb5.mono hb0.size)
  have hbw:=h.hb.trans (hb05.mono h.hb.size)
  refine (flush_any w5 L τ gt gd _ T Y (hbt.below hb5) hm (ht.1.below hbw (by omega)) (hlo 2 (by have:=h.hb.size;omega)).1 hp2).mono ?_
  rintro e1' w' ⟨v,rfl,h1,L',h3,h5⟩
  rw [flush_eq _ T hm hlv,← hr] at h1 h3
  have h1:TV v w' r.2.2:=h1
  rw [e1] at h1
  obtain rfl:v=.nilIface:=(h1.resolve_right fun q=>q.1 rfl).2
  exact ⟨rfl,L',h3,⟨h5.os.trans hb05.os,h5.tape.trans hb05.tape,h5.output.trans hb05.output,Nat.le_trans hb05.size h5.size,fun k hk=>(h5.block k (Nat.lt_of_lt_of_le hk hb05.size) (hlo k hk).1 (hlo k hk).2).trans (hb05.block k hk)⟩⟩)
 have HA2:=hid (fun (w6:World) (L':Lay) (hbt:BT w6 L' τ gt gd r.2.1 (T.put r.1) Y) (hb6:Below wB.heap.size wB w6)=>show Calls Tryz.prog 33 #[.pointer (some ⟨gt,0,none⟩),.int .i64 wd,.slice (some ⟨gl,0,none⟩) n n,.int .i64 (size:Int),.int .i64 (old:Int),.int .i64 iI] w6 (AnRet w6) by
  have hbw:=h.hb.trans (hb6.mono h.hb.size)
  have:=answers_any w6 L' τ gt gd r.2.1 (T.put r.1) Y hbt (live_ec (T':=T.put r.1) hlv hec e5 rfl rfl) (rt_below ht.2.1 hbw (by omega)) (tab_below ht.2.2.1 hbw (by omega)) (some ⟨gl,0,none⟩) n n (by show DS w6 _ n n T.L;rw [htl];exact RS.below h.ds hb6) size old iI h.os (by show size≤T.L.length;rw [hlen];exact h.sz) h.hi
  rw [← htw]
  exact this)
 obtain ⟨nd,hnd⟩:∃ nd,nd=n / 256:=⟨_,rfl⟩
 obtain ⟨fl,hfl⟩:∃ fl,fl=256 * nd:=⟨_,rfl⟩
 have HF2:=hid (fun (w7:World) (L':Lay) (hbt:BT w7 L' τ gt gd r.2.1 (T.put r.1) Y)=>show Calls Tryz.prog 19 #[.pointer (some ⟨gt,0,none⟩)] w7 (fun e w'=>e=.returned (.int .i64 (fl:Int))∧Below w7.heap.size w7 w') by
  have:=flushed_any w7 τ gt gd (T.put r.1) Y hbt.t (by rw [hheld];exact Nat.le_refl _)
  rw [hheld,hlen,← hnd,← hfl] at this
  exact this)
 have d1:(n:Int).tdiv 256=(nd:Int):=by rw [hnd];rfl
 have d2:(n:Int) / 256=(nd:Int):=by omega
 have d5:IntKind.i64.wrap (nd:Int)=(nd:Int):=IntWalk.i64_in _ (by omega)
 have d6:(nd:Int) * 256=(fl:Int):=by omega
 have d7:IntKind.i64.wrap (fl:Int)=(fl:Int):=IntWalk.i64_in _ (by omega)
 have d8:((fl:Int) == (fl:Int))=true:=by simp
 have HKP:=hid (show (lk r.2.1.kept tlN).getD []=tqF wd ls by rw [e3,htq])
 have HPR:=hid e4
 have HKK:=hid hK
 clear h ht hll hn2 hlen hbt hlo hb0 htl htw hh0 hlv hr hp2 e1 e2 e3 e4 e5 hec hm hheld htq hnd hfl hK
 refine wp_two_k (c:=dropSeq 10 tc0) ⟨_,_,rfl⟩ fun K hK=>?_
 have HK:=hid hK
 clear hK
 conv=>arg 2;whnf
 go_wp2_with (first
  | (go_at_call 33;refine HA1.out.mono ?_;rintro e w5 ⟨rfl,hb5⟩;have HB5:=hid hb5;clear hb5)
  | (go_at_call 12;refine (HFL.out w5 HB5.out).mono ?_;rintro e w6 ⟨rfl,L6,hbt6,hb6⟩;have HT6:=hid hbt6;have HB6:=hid hb6;clear hbt6 hb6)
  | (go_at_call 33;refine (HA2.out w6 L6 HT6.out HB6.out).mono ?_;rintro e w7 ⟨rfl,hb7⟩;have HB7:=hid hb7;clear hb7)
  | (go_at_call 19;(with_reducible refine (HF2.out w7 L6 (HT6.out.below HB7.out)).mono ?_);rintro e w8 ⟨rfl,hb8⟩;have HB8:=hid hb8;clear hb8))
 refine HK.out _ _ ?_
 clear HK K
 rw [dropSeq_succ]
 exact HKK.out _ _ _ _ _ _ _ _ _ _ _ _ _ _ _ _ _ _ _ _ _ _ _ _ _ _ _ _ _ _ _ _ _ _ _ _ _ _ _ _ _ _ _ _ _ _ _ _ _ _ _ _ _ _ _ _ _ _ _ _ _ _ _ _ _ _ _ _ _ _ _ _ _ _ _ _ _ _ _ _ _ _ _ _ _ _ _ _ _ _ _ _ _ _ _ _ _ _ _ _ _ _ _ _ _ _ _ _ _ _ _ _ _ _ _ _ _ _ _ _ _ _ _ _ _ _ _ _ _ _ _ _ _ _ _ _ _ _ _ _ _ _ _ _ _ _ _ _ _ _ _ _ _ _ _ _ _ _ _ _ _ _ _ _ _ _ _ _ _ _ _ _ _ _ _ _ _ _ _ _ _ _ _ _ _ _ _ _ _ _ _ _ _ _ _ _ _ _ _ _ _ _ _ _ _ _  L6 r.2.1 w8 ((HB6.out.trans (HB7.out.mono HB6.out.size)).trans (HB8.out.mono (Nat.le_trans HB6.out.size HB7.out.size))) ((HT6.out.below HB7.out).below HB8.out).d HKP.out HPR.out
end
section
open Go.Maps Go.WideMaps Go.ChangeMaps
set_option maxHeartbeats 16000000
theorem cache_rest (W wr:World) (gl n:Nat) (wd:Int) (ls:List Dg) (size old:Nat) (iI:Int) (h:R0 W wr gl n wd ls size old iI) (n2 n3 n4 n5 n6:Int) (hb2:-9223372036854775808≤n2∧n2≤9223372036854775807) (hb3:-9223372036854775808≤n3∧n3≤9223372036854775807) (hb4:-9223372036854775808≤n4∧n4≤9223372036854775807) (hb5:-9223372036854775808≤n5∧n5≤9223372036854775807) (hb6:-9223372036854775808≤n6∧n6≤9223372036854775807) (u0 yP yQ yR yS yT yU yV yW yX yY yZ zA zB zC zD zE zF zG zH zI zJ zK zL zM zN zO zP zQ zR zS zT zU zV zW zX zY zZ aA aB aC aD aE aF aG aH aI aJ aK aL aM aN aO aP aQ aR aS aT aU aV aW aX aY aZ bA bB bC bD bE bF bG bH bI bJ bK bL bM bN bO bP bQ bR bS bT bU bV bW bX bY uA uB uC uD uE uF uG uH uI uJ uK uL uM uN uO uP uQ uR uS uT uU uV uW uX uY uZ vA vB vC vD vE vF vG vH vI vJ vK vL vM vN vO vP vQ vR vS vT vU vV vW vX vY vZ qA qB qC qD qE qF qG qH qI qJ qK qL qM qN qO qP qQ qR qS qT qU qV qW qX qY qZ jA jB jC jD jE jF jG jH jI jJ jK jL jM jN jO jP jQ jR jS jT jU jV jW jX jY jZ yA yB yC yD yE yF yG yH yI yJ yK yL yM yN yO:Value) :
 Code.wp Tryz.prog (dropSeq 7 tc0) (bodyPost Tryz.prog Tryz.f6 (CRet W)) ⟨#[u0,.int .i64 (n:Int),.int .i64 n2,.int .i64 n3,.int .i64 n4,.int .i64 n5,.int .i64 n6,.int .i64 (size:Int),.int .i64 (old:Int),.int .i64 iI,yP,yQ,yR,yS,yT,yU,yV,yW,yX,yY,yZ,.slice (some ⟨gl,0,none⟩) n n,.int .i64 wd,zA,zB,zC,zD,zE,zF,zG,zH,zI,zJ,zK,zL,zM,zN,zO,zP,zQ,zR,zS,zT,zU,zV,zW,zX,zY,zZ,aA,aB,aC,aD,aE,aF,aG,aH,aI,aJ,aK,aL,aM,aN,aO,aP,aQ,aR,aS,aT,aU,aV,aW,aX,aY,aZ,bA,bB,bC,bD,bE,bF,bG,bH,bI,bJ,bK,bL,bM,bN,bO,bP,bQ,bR,bS,bT,bU,bV,bW,bX,bY,uA,uB,uC,uD,uE,uF,uG,uH,uI,uJ,uK,uL,uM,uN,uO,uP,uQ,uR,uS,uT,uU,uV,uW,uX,uY,uZ,vA,vB,vC,vD,vE,vF,vG,vH,vI,vJ,vK,vL,vM,vN,vO,vP,vQ,vR,vS,vT,vU,vV,vW,vX,vY,vZ,qA,qB,qC,qD,qE,qF,qG,qH,qI,qJ,qK,qL,qM,qN,qO,qP,qQ,qR,qS,qT,qU,qV,qW,qX,qY,qZ,jA,jB,jC,jD,jE,jF,jG,jH,jI,jJ,jK,jL,jM,jN,jO,jP,jQ,jR,jS,jT,jU,jV,jW,jX,jY,jZ,yA,yB,yC,yD,yE,yF,yG,yH,yI,yJ,yK,yL,yM,yN,yO],[]⟩ wr:=by
 refine cache_new W wr gl n wd ls size old iI h n2 n3 n4 n5 n6 hb2 u0 yP yQ yR yS yT yU yV yW yX yY yZ zA zB zC zD zE zF zG zH zI zJ zK zL zM zN zO zP zQ zR zS zT zU zV zW zX zY zZ aA aB aC aD aE aF aG aH aI aJ aK aL aM aN aO aP aQ aR aS aT aU aV aW aX aY aZ bA bB bC bD bE bF bG bH bI bJ bK bL bM bN bO bP bQ bR bS bT bU bV bW bX bY uA uB uC uD uE uF uG uH uI uJ uK uL uM uN uO uP uQ uR uS uT uU uV uW uX uY uZ vA vB vC vD vE vF vG vH vI vJ vK vL vM vN vO vP vQ vR vS vT vU vV vW vX vY vZ qA qB qC qD qE qF qG qH qI qJ qK qL qM qN qO qP qQ qR qS qT qU qV qW qX qY qZ jA jB jC jD jE jF jG jH jI jJ jK jL jM jN jO jP jQ jR jS jT jU jV jW jX jY jZ yA yB yC yD yE yF yG yH yI yJ yK yL yM yN yO _ ?_
 intro u0 yP yQ yR yS yT yU yV yW yX yY yZ zB zD zE zF zG zH zI zJ zK zL zM zN zO zP zQ zR zS zT zU zV zW zX zY zZ aA aB aC aD aE aF aG aH aI aJ aK aL aM aN aO aP aQ aR aS aT aU aV aW aX aY aZ bA bB bC bD bE bF bG bH bI bJ bK bL bM bN bO bP bQ bR bS bT bU bV bW bX bY uA uB uC uD uE uF uG uH uI uJ uK uL uM uN uO uP uQ uR uS uT uU uV uW uX uY uZ vA vB vC vD vE vF vG vH vI vJ vK vL vM vN vO vP vQ vR vS vT vU vV vW vX vY vZ qA qB qC qD qE qF qG qH qI qJ qK qL qM qN qO qP qQ qR qS qT qU qV qW qX qY qZ jA jB jC jD jE jF jG jH jI jJ jK jL jM jN jO jP jQ jR jS jT jU jV jW jX jY jZ yA yB yC yD yE yF yG yH yI yJ yK yL yM yN yO L τ gt gd T Y w3 hbt hlo hb htl htw hh hlv
 refine cache_first W wr w3 gl n wd ls size old iI h n2 n3 n4 n5 n6 L τ gt gd T Y hbt hlo hb htl htw hh hlv u0 yP yQ yR yS yT yU yV yW yX yY yZ zB zD zE zF zG zH zI zJ zK zL zM zN zO zP zQ zR zS zT zU zV zW zX zY zZ aA aB aC aD aE aF aG aH aI aJ aK aL aM aN aO aP aQ aR aS aT aU aV aW aX aY aZ bA bB bC bD bE bF bG bH bI bJ bK bL bM bN bO bP bQ bR bS bT bU bV bW bX bY uA uB uC uD uE uF uG uH uI uJ uK uL uM uN uO uP uQ uR uS uT uU uV uW uX uY uZ vA vB vC vD vE vF vG vH vI vJ vK vL vM vN vO vP vQ vR vS vT vU vV vW vX vY vZ qA qB qC qD qE qF qG qH qI qJ qK qL qM qN qO qP qQ qR qS qT qU qV qW qX qY qZ jA jB jC jD jE jF jG jH jI jJ jK jL jM jN jO jP jQ jR jS jT jU jV jW jX jY jZ yA yB yC yD yE yF yG yH yI yJ yK yL yM yN yO _ ?_
 intro u0 yP yQ yR yS yT yU yV yW yX yY yZ zB zD zE zF zG zH zI zJ zK zL zM zN zO zP zQ zR zS zT zU zV zW zX zY zZ aA aB aC aD aE aF aG aH aI aJ aK aL aM aN aO aP aQ aR aS aT aU aV aW aX aY aZ bA bB bC bD bE bF bG bH bI bJ bK bL bM bN bO bP bQ bR bS bT bU bV bW bX bY uA uB uC uD uE uF uG uH uI uJ uK uL uM uN uO uP uQ uR uS uT uU uV uW uX uY uZ vA vB vC vD vE vF vG vH vI vJ vK vL vM vN vO vP vQ vR vS vT vU vV vW vX vY vZ qA qB qC qD qE qF qG qH qI qJ qK qL qM qN qO qP qQ qR qS qT qU qV qW qX qY qZ jA jB jC jD jE jF jG jH jI jJ jK jL jM jN jO jP jQ jR jS jT jU jV jW jX jY jZ yA yB yC yD yE yF yG yH yI yJ yK yL yM yN yO L' d' w8 hb8 hd8 hk8 hp8
 have HKP:=hid (kept_any w8 L' gd d' hd8 hp8)
 have h8:=h.below hb8
 have HH:=hid h8
 have HKE:=hid hk8
 clear h hbt hlo hb htl htw hh hlv hb8 hd8 hp8 hk8 h8
 refine wp_two_k (c:=dropSeq 11 tc0) ⟨_,_,rfl⟩ fun K hK=>?_
 have HK:=hid hK
 clear hK
 conv=>arg 2;whnf
 go_wp2_with (go_at_call 18;refine HKP.out.mono ?_;rintro e w9 ⟨hb9,b9,rfl,hk9⟩;obtain ⟨ak,ck,hlk,hok⟩:=hk9.look0 (s:=tlN) (by decide);rw [show bs tlN=⟨#[116,105,108,101,115]⟩ from rfl] at hlk;rw [HKE.out] at hlk hok;have HB9:=hid hb9;have HOK:=hid hok;clear hb9 hk9 hok)
 refine HK.out _ _ ?_
 clear HK K
 rw [dropSeq_succ]
 have h9:=HH.out.below HB9.out
 exact cache_loop W w9 gl n wd ls ak _ ck size old iI ⟨h9.hb,h9.ds,h9.gls,h9.ll,h9.n2,h9.wdb,owns_mono HOK.out (Nat.zero_le _),h9.sz,h9.os,h9.hi,h9.tb⟩ n2 n3 n4 n5 n6 hb2 hb3 hb4 hb5 hb6 _ _ _ _ _ _ _ _ _ _ _ _ _ _ _ _ _ _ _ _ _ _ _ _ _ _ _ _ _ _ _ _ _ _ _ _ _ _ _ _ _ _ _ _ _ _ _ _ _ _ _ _ _ _ _ _ _ _ _ _ _ _ _ _ _ _ _ _ _ _ _ _ _ _ _ _ _ _ _ _ _ _ _ _ _ _ _ _ _ _ _ _ _ _ _ _ _ _ _ _ _ _ _ _ _ _ _ _ _ _ _ _ _ _ _ _ _ _ _ _ _ _ _ _ _ _ _ _ _ _ _ _ _ _ _ _ _ _ _ _ _ _ _ _ _ _ _ _ _ _ _ _ _ _ _ _ _ _ _ _ _ _ _ _ _ _ _ _ _ _ _ _ _ _ _ _ _ _ _ _ _ _ _ _ _ _ _ _ _ _ _ _ _ _ _ _ _ _ _ _ _ _ _ _ _ _ _ 
end
end Go.Proofs.YtgkehahklccacaaGreatDoor
