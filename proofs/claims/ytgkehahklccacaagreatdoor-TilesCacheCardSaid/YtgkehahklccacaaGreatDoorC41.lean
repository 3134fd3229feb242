import Derived.Test.YtgkehahklccacaaGreatDoorC40
import Derived.Test.YtgkehahklccacaaGreatDoorC38
import Derived.Lib.SlBytesRow
namespace Go.Proofs.YtgkehahklccacaaGreatDoor
open Go Go.RowKit
open Go.Lib (hid)
set_option maxRecDepth 100000
set_option maxHeartbeats 1000000
set_option linter.unusedVariables false
set_option linter.unusedSimpArgs false
section
open Go.Maps Go.WideMaps Go.ChangeMaps
theorem tiles_map (w:World) (B:Nat) (hB:B≤w.heap.size) (a:Option Addr) (n c:Nat) (y:List UInt8) (ho:w.ownsRow B 5 1 (.slice a n c) n (y.map b8)) (hy:y.length=n) :
 ∃ w',(Instr.mapUpdate 55 (.map (some w.heap.size)) (.string (bs tlN)) (.slice a n c)).run Tryz.prog (w.alloc (.map #[] 0))=.ok () w'∧KAt w' B w.heap.size [(tlN,y)]∧Below B w w':=by
 have hk1:KAt (w.alloc (.map #[] 0)) B w.heap.size []:=⟨hB,_,World.ownsMap_made w Tryz.prog 9 sliceR,rfl,fun s=>⟨rfl,Option.none,rfl,fun _=>rfl,fun x h=>by cases h⟩⟩
 obtain ⟨D,hm,hput⟩:=hk1.map
 have hsc:∃ sc,Value.slice a n c=encS sc:=by
  rcases ho.2 with ⟨e1,e2⟩ | ⟨g,cap,cur,e1,-⟩
  · exact ⟨none,e1⟩
  · exact ⟨some (g,n,cap),e1⟩
 obtain ⟨sc,hsc⟩:=hsc
 obtain ⟨w',hrun,h5,h6⟩:=hm.update law9 Tryz.underlying55 (by unfold maxLen;decide) (key9 (s:=bs tlN) (lenBs (by decide))) (sliceR_enc sc)
 rw [show kL (bs tlN)=.string tlN from kL_bs tlN] at h5
 refine ⟨w',by rw [hsc];exact hrun,?_,?_⟩
 · have:=hput tlN sc y w' (by rw [← hsc,hy];exact ho.alloc _) h6 h5
   exact this
 · exact ((Below.refl B w).alloc hB _).grown h6 (by rw [World.size_alloc];omega) (fun k hk=>by cases hk;exact hB)
set_option maxHeartbeats 16000000
theorem cache_disk (W wB wr:World) (gl n:Nat) (wd:Int) (ls:List Dg) (ak:Option Addr) (xl ck size old:Nat) (iI kI:Int) (h:RC W wB gl n wd ls ak xl ck size old iI) (n2 n3 n4 n5 n6:Int) (wd2:Int) (y:List UInt8) (a2:Option Addr) (yl c2:Nat) (hyl:y.length=yl) (hy6:yl≤60000) (hb0:Below wB.heap.size wB wr) (ho:wr.ownsRow wB.heap.size 5 1 (.slice a2 yl c2) yl (y.map b8)) (u0 yP yQ yR yS yT yU yV yW yX yY yZ zA zB zC zE zF zG zH zI zJ zK zL zM zN zO zP zQ zR zS zT zU zV zW zX zY zZ aA aB aC aD aE aF aG aH aI aJ aK aL aM aN aO aP aQ aR aS aT aU aV aW aX aY aZ bA bB bC bD bE bF bG bH bI bJ bK bL bM bN bO bP bQ bR bS bT bU bV uA uB uC uD uE uF uG uH uI uJ uK uL uM uN uO uP uQ uR uS uT uU uV uW uX uY uZ vA vB vC vD vE vF vG vH vI vJ vK vL vM vN vO vP vQ vR vS vT vU vV vW vX vY vZ qA qB qC qD qE qF qG qH qI qJ qK qL qM qN qO qP qQ qR qS qT qU qV qW qX qY qZ jA jB jC jD jE jF jG jH jI jJ jK jL jM jN jO jP jQ jR jS jT jU jV jW jX jY jZ yA yB yC yD yE yF yG yH yI yJ yK yL yM yN yO:Value) (R:Exit→Act→World→Prop)
 (hK:∀ (yZ zC zD zF uG uH uI uJ uK uL uM uN uO uP uQ uR uS uT uU uV uW uX uY uZ vA vB vC vD vE vF vG vH vI vJ vK vL vM vN vO vP vQ vR vS vT vU vV vW vX vY vZ qA qB qC qD qE qF qG qH qI qJ qK qL qM qN qO qP qQ qR qS qT qU qV qW qX qY qZ jA jB jC jD jE jF jG jH jI jJ jK jL jM jN jO jP jQ jR jS jT jU jV jW jX jY jZ yA yB yC yD yE yF yG yH yI yJ yK yL yM yN yO:Value) (L:Lay) (gd:Nat) (w':World),Below wB.heap.size wB w'→DAt w' L gd (imgT y)→(∀ k,k < wB.heap.size→L.ρ k=0)→Code.wp Tryz.prog (dropSeq 5 tcX) R ⟨#[u0,.int .i64 (n:Int),.int .i64 n2,.int .i64 n3,.int .i64 n4,.int .i64 n5,.int .i64 n6,.int .i64 (size:Int),.int .i64 (old:Int),.int .i64 iI,yP,yQ,yR,yS,yT,yU,yV,yW,yX,yY,yZ,.slice (some ⟨gl,0,none⟩) n n,.int .i64 wd,zA,zB,zC,.slice ak xl ck,.int .i64 kI,zD,.int .i64 wd2,.pointer (some ⟨gd,0,none⟩),zF,zG,zH,zI,zJ,zK,zL,zM,zN,zO,zP,zQ,zR,zS,zT,zU,zV,zW,zX,zY,zZ,aA,aB,aC,aD,aE,aF,aG,aH,aI,aJ,aK,aL,aM,aN,aO,aP,aQ,aR,aS,aT,aU,aV,aW,aX,aY,aZ,bA,bB,bC,bD,bE,bF,bG,bH,bI,bJ,bK,bL,bM,bN,bO,bP,bQ,bR,bS,bT,bU,bV,uA,uB,uC,uD,uE,uF,uG,uH,uI,uJ,uK,uL,uM,uN,uO,uP,uQ,uR,uS,uT,uU,uV,uW,uX,uY,uZ,vA,vB,vC,vD,vE,vF,vG,vH,vI,vJ,vK,vL,vM,vN,vO,vP,vQ,vR,vS,vT,vU,vV,vW,vX,vY,vZ,qA,qB,qC,qD,qE,qF,qG,qH,qI,qJ,qK,qL,qM,qN,qO,qP,qQ,qR,qS,qT,qU,qV,qW,qX,qY,qZ,jA,jB,jC,jD,jE,jF,jG,jH,jI,jJ,jK,jL,jM,jN,jO,jP,jQ,jR,jS,jT,jU,jV,jW,jX,jY,jZ,yA,yB,yC,yD,yE,yF,yG,yH,yI,yJ,yK,yL,yM,yN,yO],[]⟩ w') :
 Code.wp Tryz.prog (dropSeq 3 tcX) R ⟨#[u0,.int .i64 (n:Int),.int .i64 n2,.int .i64 n3,.int .i64 n4,.int .i64 n5,.int .i64 n6,.int .i64 (size:Int),.int .i64 (old:Int),.int .i64 iI,yP,yQ,yR,yS,yT,yU,yV,yW,yX,yY,yZ,.slice (some ⟨gl,0,none⟩) n n,.int .i64 wd,zA,zB,zC,.slice ak xl ck,.int .i64 kI,.slice a2 yl c2,.int .i64 wd2,zE,zF,zG,zH,zI,zJ,zK,zL,zM,zN,zO,zP,zQ,zR,zS,zT,zU,zV,zW,zX,zY,zZ,aA,aB,aC,aD,aE,aF,aG,aH,aI,aJ,aK,aL,aM,aN,aO,aP,aQ,aR,aS,aT,aU,aV,aW,aX,aY,aZ,bA,bB,bC,bD,bE,bF,bG,bH,bI,bJ,bK,bL,bM,bN,bO,bP,bQ,bR,bS,bT,bU,bV,uA,uB,uC,uD,uE,uF,uG,uH,uI,uJ,uK,uL,uM,uN,uO,uP,uQ,uR,uS,uT,uU,uV,uW,uX,uY,uZ,vA,vB,vC,vD,vE,vF,vG,vH,vI,vJ,vK,vL,vM,vN,vO,vP,vQ,vR,vS,vT,vU,vV,vW,vX,vY,vZ,qA,qB,qC,qD,qE,qF,qG,qH,qI,qJ,qK,qL,qM,qN,qO,qP,qQ,qR,qS,qT,qU,qV,qW,qX,qY,qZ,jA,jB,jC,jD,jE,jF,jG,jH,jI,jJ,jK,jL,jM,jN,jO,jP,jQ,jR,jS,jT,jU,jV,jW,jX,jY,jZ,yA,yB,yC,yD,yE,yF,yG,yH,yI,yJ,yK,yL,yM,yN,yO],[]⟩ wr:=by
 obtain ⟨w2,hup,hka,hb2⟩:=tiles_map wr wB.heap.size hb0.size a2 yl c2 y ho hyl
 rw [show bs tlN=⟨#[116,105,108,101,115]⟩ from rfl] at hup
 have him:=image_any w2 wB.heap.size wr.heap.size [(tlN,y)] hka (fun s x hx=>by
  have hx:(if s=tlN then some y else lk ([]:List (Nm × List UInt8)) s)=some x:=hx
  split at hx
  · rename_i e;cases hx;subst e;exact ⟨tN_legal,by omega⟩
  · cases hx) (by show 1≤4096;decide) (List.nodup_cons.2 ⟨by simp,List.nodup_nil⟩) [tlN] (by simp [keysOf])
 rw [imgD_one y (by omega)] at him
 have hbw2:Below wB.heap.size wB w2:=hb0.trans hb2
 have HIM:=hid him
 have HB2:=hid hbw2
 have HKK:=hid hK
 have hmm:=@run_makeMap Tryz.prog
 clear h hb0 ho hK hka hb2 him hbw2 hy6
 refine wp_two_k (c:=dropSeq 3 tcX) ⟨_,_,rfl⟩ fun K hK=>?_
 have HK:=hid hK
 clear hK
 conv=>arg 2;whnf
 go_wp2_with (go_at_call 34;refine HIM.out.mono ?_;rintro e w3 ⟨hb3,L,gd,rfl,hd3,hl3⟩;have HB3:=hid hb3;have HD3:=hid hd3;have HL3:=hid hl3;clear hb3 hd3 hl3)
 refine HK.out _ _ ?_
 clear HK K
 rw [dropSeq_succ]
 refine wp_two_k (c:=dropSeq 4 tcX) ⟨_,_,rfl⟩ fun K hK=>?_
 have HK:=hid hK
 clear hK
 conv=>arg 2;whnf
 go_wp2_with fail
 refine HK.out _ _ ?_
 clear HK K
 rw [dropSeq_succ]
 exact HKK.out _ _ _ _ _ _ _ _ _ _ _ _ _ _ _ _ _ _ _ _ _ _ _ _ _ _ _ _ _ _ _ _ _ _ _ _ _ _ _ _ _ _ _ _ _ _ _ _ _ _ _ _ _ _ _ _ _ _ _ _ _ _ _ _ _ _ _ _ _ _ _ _ _ _ _ _ _ _ _ _ _ _ _ _ _ _ _ _ _ _ _ _ _ _ _ _ _ _ _ _ _ _ _ _ _ _ _ _ _ _ _ _ _ _ _ _ _  L gd w3 (HB2.out.trans (HB3.out.mono HB2.out.size)) HD3.out (fun k hk=>HL3.out k (Nat.lt_of_lt_of_le hk HB2.out.size))
structure OpenC (wB w:World) (L:Lay) (τ:Nat→Nat) (gt gd:Nat) (y:List UInt8) (T:TT) (Y:TY) (wd2:Int) (ls:List Dg):Prop where
 bt:BT w L τ gt gd ((imgT y).claim tlN) T Y
 lo:∀ k,k < wB.heap.size→L.ρ k=0∧τ k=0
 hb:Below wB.heap.size wB w
 tl:T.L=ls
 tw:T.wd=wd2
 l1:T.l1=false
 hm:T.held≤T.L.length / 256
 lv:T.live ((imgT y).claim tlN) tlN=0
 hy:T.held * 8207≤y.length
 hp:y.take (T.held * 8207)=(T.tls.take T.held).flatten
theorem img_whole (y:List UInt8) (hy:y.length≤60000):wholeD (imgT y)=(y,0):=by
 have hl:(imgT y).length tlN=((y.length:Int),0):=one_len (a:=0) (u:=y.length) (f:=⟨y,y,[]⟩) (sf:=[(tlN,0)]) (ch:=[]) (cl:=[])
 have hf:((imgT y).file 0).now=y:=rfl
 unfold wholeD
 rw [hl]
 dsimp only
 rw [if_neg (by decide),if_neg (fun q=>q rfl)]
 unfold Dm.read
 rw [ask_t rfl,show lk (imgT y).names tlN=some 0 from one_lk (a:=0) (u:=y.length) (f:=⟨y,y,[]⟩) (sf:=[(tlN,0)]) (ch:=[]) (cl:=[])]
 dsimp only
 rw [hf,Int.sub_zero,wrap64_small (by omega) (by omega),if_neg (by omega)]
 simp
theorem img_loose (y:List UInt8):looseB (imgT y)=false:=by
 have h:(imgT y).loose.2=[0]:=by
  show (imgT y).reach.map (fun i=>((imgT y).file i).units)=[0]
  rw [show (imgT y).reach=[0] by unfold Dm.reach;show ([0]++[]).mergeSort _=[0];simp]
  rfl
 unfold looseB
 rw [h];rfl
theorem cache_over (W wB wr:World) (gl n:Nat) (wd:Int) (ls:List Dg) (ak:Option Addr) (xl ck size old:Nat) (iI kI:Int) (h:RC W wB gl n wd ls ak xl ck size old iI) (n2 n3 n4 n5 n6:Int) (hb2:-9223372036854775808≤n2∧n2≤9223372036854775807) (wd2:Int) (y:List UInt8) (hsp:Spoilt ls wd2 y) (L:Lay) (gd:Nat) (hb0:Below wB.heap.size wB wr) (hd:DAt wr L gd (imgT y)) (hlo:∀ k,k < wB.heap.size→L.ρ k=0) (u0 yP yQ yR yS yT yU yV yW yX yY yZ zA zB zC zD zF zG zH zI zJ zK zL zM zN zO zP zQ zR zS zT zU zV zW zX zY zZ aA aB aC aD aE aF aG aH aI aJ aK aL aM aN aO aP aQ aR aS aT aU aV aW aX aY aZ bA bB bC bD bE bF bG bH bI bJ bK bL bM bN bO bP bQ bR bS bT bU bV uA uB uC uD uE uF uG uH uI uJ uK uL uM uN uO uP uQ uR uS uT uU uV uW uX uY uZ vA vB vC vD vE vF vG vH vI vJ vK vL vM vN vO vP vQ vR vS vT vU vV vW vX vY vZ qA qB qC qD qE qF qG qH qI qJ qK qL qM qN qO qP qQ qR qS qT qU qV qW qX qY qZ jA jB jC jD jE jF jG jH jI jJ jK jL jM jN jO jP jQ jR jS jT jU jV jW jX jY jZ yA yB yC yD yE yF yG yH yI yJ yK yL yM yN yO:Value) (R:Exit→Act→World→Prop)
 (hK:∀ (yZ zD zF uG uH uI uJ uK uL uM uN uO uP uQ uR uS uT uU uV uW uX uY uZ vA vB vC vD vE vF vG vH vI vJ vK vL vM vN vO vP vQ vR vS vT vU vV vW vX vY vZ qA qB qC qD qE qF qG qH qI qJ qK qL qM qN qO qP qQ qR qS qT qU qV qW qX qY qZ jA jB jC jD jE jF jG jH jI jJ jK jL jM jN jO jP jQ jR jS jT jU jV jW jX jY jZ yA yB yC yD yE yF yG yH yI yJ yK yL yM yN yO:Value) (τ:Nat→Nat) (gt:Nat) (T:TT) (Y:TY) (w':World),OpenC wB w' L τ gt gd y T Y wd2 ls→Code.wp Tryz.prog (dropSeq 6 tcX) R ⟨#[u0,.int .i64 (n:Int),.int .i64 n2,.int .i64 n3,.int .i64 n4,.int .i64 n5,.int .i64 n6,.int .i64 (size:Int),.int .i64 (old:Int),.int .i64 iI,yP,yQ,yR,yS,yT,yU,yV,yW,yX,yY,yZ,.slice (some ⟨gl,0,none⟩) n n,.int .i64 wd,zA,zB,.pointer (some ⟨gt,0,none⟩),.slice ak xl ck,.int .i64 kI,zD,.int .i64 wd2,.pointer (some ⟨gd,0,none⟩),zF,zG,zH,zI,zJ,zK,zL,zM,zN,zO,zP,zQ,zR,zS,zT,zU,zV,zW,zX,zY,zZ,aA,aB,aC,aD,aE,aF,aG,aH,aI,aJ,aK,aL,aM,aN,aO,aP,aQ,aR,aS,aT,aU,aV,aW,aX,aY,aZ,bA,bB,bC,bD,bE,bF,bG,bH,bI,bJ,bK,bL,bM,bN,bO,bP,bQ,bR,bS,bT,bU,bV,uA,uB,uC,uD,uE,uF,uG,uH,uI,uJ,uK,uL,uM,uN,uO,uP,uQ,uR,uS,uT,uU,uV,uW,uX,uY,uZ,vA,vB,vC,vD,vE,vF,vG,vH,vI,vJ,vK,vL,vM,vN,vO,vP,vQ,vR,vS,vT,vU,vV,vW,vX,vY,vZ,qA,qB,qC,qD,qE,qF,qG,qH,qI,qJ,qK,qL,qM,qN,qO,qP,qQ,qR,qS,qT,qU,qV,qW,qX,qY,qZ,jA,jB,jC,jD,jE,jF,jG,jH,jI,jJ,jK,jL,jM,jN,jO,jP,jQ,jR,jS,jT,jU,jV,jW,jX,jY,jZ,yA,yB,yC,yD,yE,yF,yG,yH,yI,yJ,yK,yL,yM,yN,yO],[]⟩ w') :
 Code.wp Tryz.prog (dropSeq 5 tcX) R ⟨#[u0,.int .i64 (n:Int),.int .i64 n2,.int .i64 n3,.int .i64 n4,.int .i64 n5,.int .i64 n6,.int .i64 (size:Int),.int .i64 (old:Int),.int .i64 iI,yP,yQ,yR,yS,yT,yU,yV,yW,yX,yY,yZ,.slice (some ⟨gl,0,none⟩) n n,.int .i64 wd,zA,zB,zC,.slice ak xl ck,.int .i64 kI,zD,.int .i64 wd2,.pointer (some ⟨gd,0,none⟩),zF,zG,zH,zI,zJ,zK,zL,zM,zN,zO,zP,zQ,zR,zS,zT,zU,zV,zW,zX,zY,zZ,aA,aB,aC,aD,aE,aF,aG,aH,aI,aJ,aK,aL,aM,aN,aO,aP,aQ,aR,aS,aT,aU,aV,aW,aX,aY,aZ,bA,bB,bC,bD,bE,bF,bG,bH,bI,bJ,bK,bL,bM,bN,bO,bP,bQ,bR,bS,bT,bU,bV,uA,uB,uC,uD,uE,uF,uG,uH,uI,uJ,uK,uL,uM,uN,uO,uP,uQ,uR,uS,uT,uU,uV,uW,uX,uY,uZ,vA,vB,vC,vD,vE,vF,vG,vH,vI,vJ,vK,vL,vM,vN,vO,vP,vQ,vR,vS,vT,vU,vV,vW,vX,vY,vZ,qA,qB,qC,qD,qE,qF,qG,qH,qI,qJ,qK,qL,qM,qN,qO,qP,qQ,qR,qS,qT,qU,qV,qW,qX,qY,qZ,jA,jB,jC,jD,jE,jF,jG,jH,jI,jJ,jK,jL,jM,jN,jO,jP,jQ,jR,jS,jT,jU,jV,jW,jX,jY,jZ,yA,yB,yC,yD,yE,yF,yG,yH,yI,yJ,yK,yL,yM,yN,yO],[]⟩ wr:=by
 have hw64:-9223372036854775808≤wrap64 (n2+kI)∧wrap64 (n2+kI)≤9223372036854775807:=by
  unfold wrap64;omega
 obtain ⟨n0,hn0,hn1,hn9⟩:=wi_nat (wrap64 (n2+kI)) 0 n (Nat.zero_le _)
 have WN:=hid (fun w=>within_any w (wrap64 (n2+kI)) 0 (n:Int) hw64.1 hw64.2 (by decide) (by omega) (by have:=h.n2;omega))
 rw [← show (n0:Int)=wiP (wrap64 (n2+kI)) 0 n from hn0] at WN
 obtain ⟨m,rest,hs⟩:=hsp.ok n0 (by rw [h.ll];exact hn9)
 have hll:=h.ll;have hn2:=h.n2
 have hwy:=img_whole y hsp.le
 have hln:(imgT y).length tlN=((y.length:Int),0):=one_len (a:=0) (u:=y.length) (f:=⟨y,y,[]⟩) (sf:=[(tlN,0)]) (ch:=[]) (cl:=[])
 have hle:=hsp.le
 have hpre:Pre (imgT y):=one_pre (a:=0) (u:=y.length) (f:=⟨y,y,[]⟩) (cl:=[]) (Nat.zero_le _) (.inr ⟨rfl,rfl⟩) ⟨by show y.length≤_;omega,by show y.length≤_;omega,Nat.zero_le _⟩
 have hds:=RS.below h.ds hb0
 have hbw:=h.hb.trans (hb0.mono h.hb.size)
 have ht:=h.tb
 have HOV:=hid (show Calls Tryz.prog 11 #[.pointer (some ⟨gd,0,none⟩),.int .i64 wd2,.slice (some ⟨gl,0,none⟩) n n,.int .i64 (n0:Int)] wr (fun e w'=>∃ τ gt T Y,e=.returned (.pointer (some ⟨gt,0,none⟩))∧OpenC wB w' L τ gt gd y T Y wd2 ls) by
  have:=over_any wr L gd (imgT y) hd hpre rfl (fun i hi=>by
   have hi:i < 1:=hi
   obtain rfl:i=0:=by omega
   show Fl.units ⟨y,y,[]⟩≤_
   exact Nat.zero_le _) (by show 0 < 1000000;decide) ⟨by show -4611686018427387904≤(0:Int);decide,by show (0:Int)≤4611686018427387904;decide⟩ wd2 hsp.wb ls (some ⟨gl,0,none⟩) n n n0 hds (by omega) hn9 m hs.le rest (by rw [hwy,tq_pre _ _ _ (by omega) hs.le];exact hs.eq) (by rw [hwy]) (by rw [hln];dsimp only;omega) (by rw [hln];dsimp only;omega) (by rw [hwy];dsimp only;omega) hs.no (ht.1.below hbw (by omega)) (rt_below ht.2.1 hbw (by omega)) (by have:=hbw.size;omega) (hlo 3 (by have:=h.hb.size;omega)) (fun b off e _=>by cases e;exact hlo gl h.gls)
  refine this.mono ?_
  rintro e w' ⟨gt,τ,Y,rfl,hbt,hu,hnw⟩
  have hτ:∀ k,k < wr.heap.size→τ k=0:=fun k hk=>by
   rcases Nat.eq_zero_or_pos (τ k) with e | e
   · exact e
   · have:=hnw k (by omega);omega
  have hm8:8207 * m≤y.length:=by
   have:=congrArg List.length hs.eq
   rw [List.length_append,tq_ch (by omega) hs.le] at this;omega
  refine ⟨τ,gt,_,Y,rfl,hbt,fun k hk=>⟨hlo k hk,hτ k (Nat.lt_of_lt_of_le hk hb0.size)⟩,⟨hu.os.trans hb0.os,hu.tape.trans hb0.tape,hu.output.trans hb0.output,Nat.le_trans hb0.size hu.size,fun k hk=>(hu.block k (Nat.lt_of_lt_of_le hk hb0.size) (hlo k hk)).trans (hb0.block k hk)⟩,rfl,rfl,img_loose y,by show m≤ls.length / 256;have:=hs.le;omega,live_fresh (imgT y) rfl wd2 m _ _ ls,by show m * 8207≤_;omega,?_⟩
  rw [tls_take _ (by show m≤ls.length / 256;have:=hs.le;omega)]
  show y.take (m * 8207)=tilesQ wd2.toNat (chunk ls) m
  rw [hs.eq,List.take_left' (by rw [tq_ch (by omega) hs.le];omega)])
 have HKK:=hid hK
 clear h hb0 hK hd hlo hs hsp hw64 hn0 hn1 hn9 hll hn2 hwy hln hle hpre hds hbw ht
 refine wp_two_k (c:=dropSeq 5 tcX) ⟨_,_,rfl⟩ fun K hK=>?_
 have HK:=hid hK
 clear hK
 conv=>arg 2;whnf
 go_wp2_with (first
  | (go_at_call 8;(with_reducible refine (WN.out _).mono ?_);rintro e wx ⟨rfl,hw⟩;have hw:=hw.symm;subst hw)
  | (go_at_call 11;refine HOV.out.mono ?_;rintro e w3 ⟨τ,gt,T,Y,rfl,ho⟩;have HO:=hid ho;clear ho))
 refine HK.out _ _ ?_
 clear HK K
 rw [dropSeq_succ]
 exact HKK.out _ _ _ _ _ _ _ _ _ _ _ _ _ _ _ _ _ _ _ _ _ _ _ _ _ _ _ _ _ _ _ _ _ _ _ _ _ _ _ _ _ _ _ _ _ _ _ _ _ _ _ _ _ _ _ _ _ _ _ _ _ _ _ _ _ _ _ _ _ _ _ _ _ _ _ _ _ _ _ _ _ _ _ _ _ _ _ _ _ _ _ _ _ _ _ _ _ _ _ _ _ _ _ _ _ _ _ _ _ _ _ _ _ _ _ _  τ gt T Y w3 HO.out
end
section
open Go.Maps Go.WideMaps Go.ChangeMaps
theorem conv_nil (w:World):(convert 53 9 (.slice none 0 0)).run Tryz.prog w=.ok (.string (bs [])) w:=by kernel_rfl
theorem conv_row {w:World} {B n c:Nat} {a:Option Addr} {l:List UInt8} (h:w.ownsRow B 5 1 (.slice a n c) n (l.map b8)):(convert 53 9 (.slice a n c)).run Tryz.prog w=.ok (.string (bs l)) w:=by
 have hl:n=l.length:=by have:=h.1;simpa using this.symm
 rcases h.2 with ⟨h1,h2⟩ | ⟨g,cap,cur,h1,-,h2,-⟩
 · injection h1 with h3 h4 h5
   subst h3 h4 h5
   obtain rfl:l=[]:=List.eq_nil_of_length_eq_zero hl.symm
   exact conv_nil _
 · injection h1 with h3 _ h5
   subst h3 h5
   have hc:∀ j u,(l.map b8)[j]?=some u→w.cell? ((⟨g,0,none⟩:Addr).add j)=some u:=h.cells (g:=g) rfl
   have:=Go.Lib.run_convert_whole (P:=Tryz.prog) w 53 5 9 (by kernel_rfl) (by kernel_rfl) (by kernel_rfl) g 0 (bs l) (by
    intro i hi
    have hi2:i < l.length:=hi
    have h9:=hc i (b8 l[i]) (by simp [hi2])
    rw [Addr.add_lit,Nat.zero_add] at h9
    rw [Nat.zero_add]
    exact h9) c
   rw [show (bs l).size=n from hl.symm] at this
   exact this
end
section
open Go.Maps Go.WideMaps Go.ChangeMaps
set_option maxHeartbeats 16000000
theorem OpenC.below {wB w w':World} {L:Lay} {τ:Nat→Nat} {gt gd:Nat} {y:List UInt8} {T:TT} {Y:TY} {wd2:Int} {ls:List Dg} (h:OpenC wB w L τ gt gd y T Y wd2 ls) (hb:Below w.heap.size w w'):OpenC wB w' L τ gt gd y T Y wd2 ls :=
 ⟨h.bt.below hb,h.lo,h.hb.trans (hb.mono h.hb.size),h.tl,h.tw,h.l1,h.hm,h.lv,h.hy,h.hp⟩
theorem cache_ask (W wB wr:World) (gl n:Nat) (wd:Int) (ls:List Dg) (ak:Option Addr) (xl ck size old:Nat) (iI kI:Int) (h:RC W wB gl n wd ls ak xl ck size old iI) (n2 n3 n4 n5 n6:Int) (wd2:Int) (y:List UInt8) (hy:y.length≤60000) (L:Lay) (τ:Nat→Nat) (gt gd:Nat) (T:TT) (Y:TY) (ho:OpenC wB wr L τ gt gd y T Y wd2 ls) (u0 yP yQ yR yS yT yU yV yW yX yY yZ zA zB zD zG zH zI zJ zK zL zM zN zO zP zQ zR zS zT zU zV zW zX zY zZ aA aB aC aD aE aF aG aH aI aJ aK aL aM aN aO aP aQ aR aS aT aU aV aW aX aY aZ bA bB bC bD bE bF bG bH bI bJ bK bL bM bN bO bP bQ bR bS bT bU bV bW uA uB uC uD uE uF uG uH uI uJ uK uL uM uN uO uP uQ uR uS uT uU uV uW uX uY uZ vA vB vC vD vE vF vG vH vI vJ vK vL vM vN vO vP vQ vR vS vT vU vV vW vX vY vZ qA qB qC qD qE qF qG qH qI qJ qK qL qM qN qO qP qQ qR qS qT qU qV qW qX qY qZ jA jB jC jD jE jF jG jH jI jJ jK jL jM jN jO jP jQ jR jS jT jU jV jW jX jY jZ yA yB yC yD yE yF yG yH yI yJ yK yL yM yN yO:Value) (R:Exit→Act→World→Prop)
 (hK:∀ (yZ zC zD zG uG uH uI uJ uK uL uM uN uO uP uQ uR uS uT uU uV uW uX uY uZ vA vB vC vD vE vF vG vH vI vJ vK vL vM vN vO vP vQ vR vS vT vU vV vW vX vY vZ qA qB qC qD qE qF qG qH qI qJ qK qL qM qN qO qP qQ qR qS qT qU qV qW qX qY qZ jA jB jC jD jE jF jG jH jI jJ jK jL jM jN jO jP jQ jR jS jT jU jV jW jX jY jZ yA yB yC yD yE yF yG yH yI yJ yK yL yM yN yO:Value) (L':Lay) (d':Dm) (w':World),Below wB.heap.size wB w'→DAt w' L' gd d'→d'.kept=[(tlN,tqF wd2 ls)]→Pre d'→Code.wp Tryz.prog (dropSeq 7 tcX) R ⟨#[u0,.int .i64 (n:Int),.int .i64 n2,.int .i64 n3,.int .i64 n4,.int .i64 n5,.int .i64 n6,.int .i64 (size:Int),.int .i64 (old:Int),.int .i64 iI,yP,yQ,yR,yS,yT,yU,yV,yW,yX,yY,yZ,.slice (some ⟨gl,0,none⟩) n n,.int .i64 wd,zA,zB,zC,.slice ak xl ck,.int .i64 kI,zD,.int .i64 wd2,.pointer (some ⟨gd,0,none⟩),zG,zH,zI,zJ,zK,zL,zM,zN,zO,zP,zQ,zR,zS,zT,zU,zV,zW,zX,zY,zZ,aA,aB,aC,aD,aE,aF,aG,aH,aI,aJ,aK,aL,aM,aN,aO,aP,aQ,aR,aS,aT,aU,aV,aW,aX,aY,aZ,bA,bB,bC,bD,bE,bF,bG,bH,bI,bJ,bK,bL,bM,bN,bO,bP,bQ,bR,bS,bT,bU,bV,bW,uA,uB,uC,uD,uE,uF,uG,uH,uI,uJ,uK,uL,uM,uN,uO,uP,uQ,uR,uS,uT,uU,uV,uW,uX,uY,uZ,vA,vB,vC,vD,vE,vF,vG,vH,vI,vJ,vK,vL,vM,vN,vO,vP,vQ,vR,vS,vT,vU,vV,vW,vX,vY,vZ,qA,qB,qC,qD,qE,qF,qG,qH,qI,qJ,qK,qL,qM,qN,qO,qP,qQ,qR,qS,qT,qU,qV,qW,qX,qY,qZ,jA,jB,jC,jD,jE,jF,jG,jH,jI,jJ,jK,jL,jM,jN,jO,jP,jQ,jR,jS,jT,jU,jV,jW,jX,jY,jZ,yA,yB,yC,yD,yE,yF,yG,yH,yI,yJ,yK,yL,yM,yN,yO],[]⟩ w') :
 Code.wp Tryz.prog (dropSeq 6 tcX) R ⟨#[u0,.int .i64 (n:Int),.int .i64 n2,.int .i64 n3,.int .i64 n4,.int .i64 n5,.int .i64 n6,.int .i64 (size:Int),.int .i64 (old:Int),.int .i64 iI,yP,yQ,yR,yS,yT,yU,yV,yW,yX,yY,yZ,.slice (some ⟨gl,0,none⟩) n n,.int .i64 wd,zA,zB,.pointer (some ⟨gt,0,none⟩),.slice ak xl ck,.int .i64 kI,zD,.int .i64 wd2,.pointer (some ⟨gd,0,none⟩),zG,zH,zI,zJ,zK,zL,zM,zN,zO,zP,zQ,zR,zS,zT,zU,zV,zW,zX,zY,zZ,aA,aB,aC,aD,aE,aF,aG,aH,aI,aJ,aK,aL,aM,aN,aO,aP,aQ,aR,aS,aT,aU,aV,aW,aX,aY,aZ,bA,bB,bC,bD,bE,bF,bG,bH,bI,bJ,bK,bL,bM,bN,bO,bP,bQ,bR,bS,bT,bU,bV,bW,uA,uB,uC,uD,uE,uF,uG,uH,uI,uJ,uK,uL,uM,uN,uO,uP,uQ,uR,uS,uT,uU,uV,uW,uX,uY,uZ,vA,vB,vC,vD,vE,vF,vG,vH,vI,vJ,vK,vL,vM,vN,vO,vP,vQ,vR,vS,vT,vU,vV,vW,vX,vY,vZ,qA,qB,qC,qD,qE,qF,qG,qH,qI,qJ,qK,qL,qM,qN,qO,qP,qQ,qR,qS,qT,qU,qV,qW,qX,qY,qZ,jA,jB,jC,jD,jE,jF,jG,jH,jI,jJ,jK,jL,jM,jN,jO,jP,jQ,jR,jS,jT,jU,jV,jW,jX,jY,jZ,yA,yB,yC,yD,yE,yF,yG,yH,yI,yJ,yK,yL,yM,yN,yO],[]⟩ wr:=by
 have ht:=h.tb
 have hll:=h.ll;have hn2:=h.n2
 have hlen:T.L.length=n:=by rw [ho.tl];exact hll
 have HA1:=hid (show Calls Tryz.prog 33 #[.pointer (some ⟨gt,0,none⟩),.int .i64 wd2,.slice (some ⟨gl,0,none⟩) n n,.int .i64 (size:Int),.int .i64 (old:Int),.int .i64 iI] wr (AnRet wr) by
  have hbw:=h.hb.trans (ho.hb.mono h.hb.size)
  rw [← ho.tw]
  exact answers_any wr L τ gt gd _ T Y ho.bt ho.lv (rt_below ht.2.1 hbw (by omega)) (tab_below ht.2.2.1 hbw (by omega)) _ n n (by rw [ho.tl];exact RS.below h.ds ho.hb) size old iI h.os (by rw [hlen];exact h.sz) h.hi)
 obtain ⟨hp2,hE⟩:=img_flush T y ((tlN,(imgT y).claimOf tlN+1) :: []) (by omega) ho.hm (by omega) ho.hy ho.hp ho.l1
 have hp2:P2 ((imgT y).claim tlN) T:=hp2
 have hE:OneE T.tls (flushP T.tls T.fs ((imgT y).claim tlN)):=hE
 obtain ⟨r,hr⟩:∃ r,r=flushP T.tls T.fs ((imgT y).claim tlN):=⟨_,rfl⟩
 have hec:=flushP_ec T.tls T.fs ((imgT y).claim tlN)
 rw [← hr] at hE hec
 have hheld:(T.put r.1).held=T.L.length / 256:=by show r.1.held=_;rw [hE.h,tls_len]
 have htq:T.tls.flatten=tqF wd2 ls:=by rw [tls_tqF,ho.tw,ho.tl]
 have HFL:=hid (fun (w5:World) (hb5:Below wr.heap.size wr w5)=>show Calls Tryz.prog 12 #[.pointer (some ⟨gt,0,none⟩)] w5 (fun e w'=>e=.returned .nilIface∧∃ L',BT w' L' τ gt gd r.2.1 (T.put r.1) Y∧Below wB.heap.size wB w') by
  have ho5:=ho.below hb5
  have hbw:=h.hb.trans (ho5.hb.mono h.hb.size)
  refine (flush_any w5 L τ gt gd _ T Y ho5.bt ho.hm (ht.1.below hbw (by omega)) (ho.lo 2 (by have:=h.hb.size;omega)).1 hp2).mono ?_
  rintro e1 w' ⟨v,rfl,h1,L',h3,h5⟩
  rw [flush_eq _ T ho.hm ho.lv,← hr] at h1 h3
  have h1:TV v w' r.2.2:=h1
  rw [hE.e] at h1
  obtain rfl:v=.nilIface:=(h1.resolve_right fun q=>q.1 rfl).2
  exact ⟨rfl,L',h3,⟨h5.os.trans ho5.hb.os,h5.tape.trans ho5.hb.tape,h5.output.trans ho5.hb.output,Nat.le_trans ho5.hb.size h5.size,fun k hk=>(h5.block k (Nat.lt_of_lt_of_le hk ho5.hb.size) (ho.lo k hk).1 (ho.lo k hk).2).trans (ho5.hb.block k hk)⟩⟩)
 have HA2:=hid (fun (w6:World) (L':Lay) (hbt:BT w6 L' τ gt gd r.2.1 (T.put r.1) Y) (hb6:Below wB.heap.size wB w6)=>show Calls Tryz.prog 33 #[.pointer (some ⟨gt,0,none⟩),.int .i64 wd2,.slice (some ⟨gl,0,none⟩) n n,.int .i64 (size:Int),.int .i64 (old:Int),.int .i64 iI] w6 (AnRet w6) by
  have hbw:=h.hb.trans (hb6.mono h.hb.size)
  have:=answers_any w6 L' τ gt gd r.2.1 (T.put r.1) Y hbt (live_ec (T':=T.put r.1) ho.lv hec hE.w rfl rfl) (rt_below ht.2.1 hbw (by omega)) (tab_below ht.2.2.1 hbw (by omega)) (some ⟨gl,0,none⟩) n n (by show DS w6 _ n n T.L;rw [ho.tl];exact RS.below h.ds hb6) size old iI h.os (by show size≤T.L.length;rw [hlen];exact h.sz) h.hi
  rw [← ho.tw]
  exact this)
 obtain ⟨nd,hnd⟩:∃ nd,nd=n / 256:=⟨_,rfl⟩
 obtain ⟨fl,hfl⟩:∃ fl,fl=256 * nd:=⟨_,rfl⟩
 have HF2:=hid (fun (w7:World) (L':Lay) (hbt:BT w7 L' τ gt gd r.2.1 (T.put r.1) Y)=>show Calls Tryz.prog 19 #[.pointer (some ⟨gt,0,none⟩)] w7 (fun e w'=>e=.returned (.int .i64 (fl:Int))∧Below w7.heap.size w7 w') by
  have:=flushed_any w7 τ gt gd (T.put r.1) Y hbt.t (by rw [hheld];exact Nat.le_refl _)
  rw [hheld,hlen,← hnd,← hfl] at this
  exact this)
 have d1:(n:Int).tdiv 256=(nd:Int):=by rw [hnd];rfl
 have d2:(n:Int) / 256=(nd:Int):=by omega
 have d5:IntKind.i64.wrap (nd:Int)=(nd:Int):=IntWalk.i64_in _ (by omega)
 have d6:(nd:Int) * 256=(fl:Int):=by omega
 have d7:IntKind.i64.wrap (fl:Int)=(fl:Int):=IntWalk.i64_in _ (by omega)
 have d8:((fl:Int) == (fl:Int))=true:=by simp
 have HKP:=hid (show r.2.1.kept=[(tlN,tqF wd2 ls)] by rw [hE.k,htq])
 have HPR:=hid hE.p
 have HKK:=hid hK
 clear h ht hll hn2 hlen ho hp2 hE hr hec hheld htq hnd hfl hK hy
 refine wp_two_k (c:=dropSeq 6 tcX) ⟨_,_,rfl⟩ fun K hK=>?_
 have HK:=hid hK
 clear hK
 conv=>arg 2;whnf
 go_wp2_with (first
  | (go_at_call 33;refine HA1.out.mono ?_;rintro e w5 ⟨rfl,hb5⟩;have HB5:=hid hb5;clear hb5)
  | (go_at_call 12;refine (HFL.out w5 HB5.out).mono ?_;rintro e w6 ⟨rfl,L6,hbt6,hb6⟩;have HT6:=hid hbt6;have HB6:=hid hb6;clear hbt6 hb6)
  | (go_at_call 33;refine (HA2.out w6 L6 HT6.out HB6.out).mono ?_;rintro e w7 ⟨rfl,hb7⟩;have HB7:=hid hb7;clear hb7)
  | (go_at_call 19;(with_reducible refine (HF2.out w7 L6 (HT6.out.below HB7.out)).mono ?_);rintro e w8 ⟨rfl,hb8⟩;have HB8:=hid hb8;clear hb8))
 refine HK.out _ _ ?_
 clear HK K
 rw [dropSeq_succ]
 exact HKK.out _ _ _ _ _ _ _ _ _ _ _ _ _ _ _ _ _ _ _ _ _ _ _ _ _ _ _ _ _ _ _ _ _ _ _ _ _ _ _ _ _ _ _ _ _ _ _ _ _ _ _ _ _ _ _ _ _ _ _ _ _ _ _ _ _ _ _ _ _ _ _ _ _ _ _ _ _ _ _ _ _ _ _ _ _ _ _ _ _ _ _ _ _ _ _ _ _ _ _ _ _ _ _ _ _ _ _ _ _ _ _ _ _ _ _ _ _  L6 r.2.1 w8 ((HB6.out.trans (HB7.out.mono HB6.out.size)).trans (HB8.out.mono (Nat.le_trans HB6.out.size HB7.out.size))) ((HT6.out.below HB7.out).below HB8.out).d HKP.out HPR.out
theorem exec_convert {P:Program} {ρ:Operand→Value} {o:Oper} {t u:TypeId} {x:Operand} {v:Value} {w:World} (ho:o.op=.convert t u x) (h:(convert t u (ρ x)).run P w=.ok v w):(execOp ρ o).run P w=.ok (.value v) w:=by
 unfold execOp
 simp only [ho,Sem.run_bind,h,Result.andThen_ok,Sem.run_pure]
theorem str_neq (B:ByteArray) (w:World):(binOp .neq 9 (.string B) (.string B)).run Tryz.prog w=.ok (.bool false) w:=by
 simp [go_sem]
theorem cache_end (W wB wr:World) (gl n:Nat) (wd:Int) (ls:List Dg) (ak:Option Addr) (xl ck size old:Nat) (iI kI:Int) (h:RC W wB gl n wd ls ak xl ck size old iI) (n2 n3 n4 n5 n6:Int) (wd2:Int) (L:Lay) (gd:Nat) (d:Dm) (hb0:Below wB.heap.size wB wr) (hd:DAt wr L gd d) (hp:Pre d) (hkp:d.kept=[(tlN,tqF wd2 ls)]) (u0 yP yQ yR yS yT yU yV yW yX yY yZ zA zB zC zD zG zH zI zJ zK zL zM zN zO zP zQ zR zS zT zU zV zW zX zY zZ aA aB aC aD aE aF aG aH aI aJ aK aL aM aN aO aP aQ aR aS aT aU aV aW aX aY aZ bA bB bC bD bE bF bG bH bI bJ bK bL bM bN bO bP bQ bR bS bT bU bV bW uA uB uC uD uE uF uG uH uI uJ uK uL uM uN uO uP uQ uR uS uT uU uV uW uX uY uZ vA vB vC vD vE vF vG vH vI vJ vK vL vM vN vO vP vQ vR vS vT vU vV vW vX vY vZ qA qB qC qD qE qF qG qH qI qJ qK qL qM qN qO qP qQ qR qS qT qU qV qW qX qY qZ jA jB jC jD jE jF jG jH jI jJ jK jL jM jN jO jP jQ jR jS jT jU jV jW jX jY jZ yA yB yC yD yE yF yG yH yI yJ yK yL yM yN yO:Value) (R:Exit→Act→World→Prop) (hR:∀ c a a' w,R (.panic c) a w→a.defers=a'.defers→R (.panic c) a' w)
 (hK:∀ (yZ zC zD zE zF zG uG uH uI uJ uK uL uM uN uO uP uQ uR uS uT uU uV uW uX uY uZ vA vB vC vD vE vF vG vH vI vJ vK vL vM vN vO vP vQ vR vS vT vU vV vW vX vY vZ qA qB qC qD qE qF qG qH qI qJ qK qL qM qN qO qP qQ qR qS qT qU qV qW qX qY qZ jA jB jC jD jE jF jG jH jI jJ jK jL jM jN jO jP jQ jR jS jT jU jV jW jX jY jZ yA yB yC yD yE yF yG yH yI yJ yK yL yM yN yO:Value) (w':World),Below wB.heap.size wB w'→R .normal ⟨#[u0,.int .i64 (n:Int),.int .i64 n2,.int .i64 n3,.int .i64 n4,.int .i64 n5,.int .i64 n6,.int .i64 (size:Int),.int .i64 (old:Int),.int .i64 iI,yP,yQ,yR,yS,yT,yU,yV,yW,yX,yY,yZ,.slice (some ⟨gl,0,none⟩) n n,.int .i64 wd,zA,zB,zC,.slice ak xl ck,.int .i64 kI,zD,zE,zF,zG,zH,zI,zJ,zK,zL,zM,zN,zO,zP,zQ,zR,zS,zT,zU,zV,zW,zX,zY,zZ,aA,aB,aC,aD,aE,aF,aG,aH,aI,aJ,aK,aL,aM,aN,aO,aP,aQ,aR,aS,aT,aU,aV,aW,aX,aY,aZ,bA,bB,bC,bD,bE,bF,bG,bH,bI,bJ,bK,bL,bM,bN,bO,bP,bQ,bR,bS,bT,bU,bV,bW,uA,uB,uC,uD,uE,uF,uG,uH,uI,uJ,uK,uL,uM,uN,uO,uP,uQ,uR,uS,uT,uU,uV,uW,uX,uY,uZ,vA,vB,vC,vD,vE,vF,vG,vH,vI,vJ,vK,vL,vM,vN,vO,vP,vQ,vR,vS,vT,vU,vV,vW,vX,vY,vZ,qA,qB,qC,qD,qE,qF,qG,qH,qI,qJ,qK,qL,qM,qN,qO,qP,qQ,qR,qS,qT,qU,qV,qW,qX,qY,qZ,jA,jB,jC,jD,jE,jF,jG,jH,jI,jJ,jK,jL,jM,jN,jO,jP,jQ,jR,jS,jT,jU,jV,jW,jX,jY,jZ,yA,yB,yC,yD,yE,yF,yG,yH,yI,yJ,yK,yL,yM,yN,yO],[]⟩ w') :
 Code.wp Tryz.prog (dropSeq 7 tcX) R ⟨#[u0,.int .i64 (n:Int),.int .i64 n2,.int .i64 n3,.int .i64 n4,.int .i64 n5,.int .i64 n6,.int .i64 (size:Int),.int .i64 (old:Int),.int .i64 iI,yP,yQ,yR,yS,yT,yU,yV,yW,yX,yY,yZ,.slice (some ⟨gl,0,none⟩) n n,.int .i64 wd,zA,zB,zC,.slice ak xl ck,.int .i64 kI,zD,.int .i64 wd2,.pointer (some ⟨gd,0,none⟩),zG,zH,zI,zJ,zK,zL,zM,zN,zO,zP,zQ,zR,zS,zT,zU,zV,zW,zX,zY,zZ,aA,aB,aC,aD,aE,aF,aG,aH,aI,aJ,aK,aL,aM,aN,aO,aP,aQ,aR,aS,aT,aU,aV,aW,aX,aY,aZ,bA,bB,bC,bD,bE,bF,bG,bH,bI,bJ,bK,bL,bM,bN,bO,bP,bQ,bR,bS,bT,bU,bV,bW,uA,uB,uC,uD,uE,uF,uG,uH,uI,uJ,uK,uL,uM,uN,uO,uP,uQ,uR,uS,uT,uU,uV,uW,uX,uY,uZ,vA,vB,vC,vD,vE,vF,vG,vH,vI,vJ,vK,vL,vM,vN,vO,vP,vQ,vR,vS,vT,vU,vV,vW,vX,vY,vZ,qA,qB,qC,qD,qE,qF,qG,qH,qI,qJ,qK,qL,qM,qN,qO,qP,qQ,qR,qS,qT,qU,qV,qW,qX,qY,qZ,jA,jB,jC,jD,jE,jF,jG,jH,jI,jJ,jK,jL,jM,jN,jO,jP,jQ,jR,jS,jT,jU,jV,jW,jX,jY,jZ,yA,yB,yC,yD,yE,yF,yG,yH,yI,yJ,yK,yL,yM,yN,yO],[]⟩ wr:=by
 have HKK:=hid hK
 have HB0:=hid hb0
 have hxo:=own_below h.xo hb0
 by_cases hw:wd2=wd
 · subst hw
   have h9:((wd2:Int) == wd2)=true:=by simp
   obtain ⟨X,hX⟩:∃ X,X=bs (tqF wd2 ls):=⟨_,rfl⟩
   have hs0:(fun x=>(convert 53 9 (.slice ak xl ck)).run Tryz.prog x=.ok (.string X) x) wr.drew:=by rw [hX];exact conv_row (w:=wr.drew) hxo
   have HKP:=hid (kept_any wr.drew L gd d (hd.below (below_drewN (Below.refl _ _) 1)) hp)
   have HXO:=hid hxo
   have HXE:=hid hX
   have HKE:=hid hkp
   clear h hb0 hd hp hK hxo hX hkp
   refine wp_two_k (c:=dropSeq 7 tcX) ⟨_,_,rfl⟩ fun K hK=>?_
   have HK:=hid hK
   clear hK
   conv=>arg 2;whnf
   go_upto_region 32 with (fail)
   refine wp_region_held_drew (S:=fun x=>(convert 53 9 (.slice ak xl ck)).run Tryz.prog x=.ok (.string X) x) (by kernel_rfl) hs0 (fun hHeld=>?_)
   apply wpTR hR 0
   apply wpTR hR 1
   apply wpTR hR 2
   apply wpTR hR 3
   apply wpTR hR 4
   apply wpTR hR 8
   apply wpLR hR 9 (.string X)
   · intro w hS
     exact exec_convert rfl hS
   apply wpR 5
   intro K' hK'
   go_simp
   refine HKP.out.mono ?_
   rintro e w6 ⟨hb6,b6,rfl,hk6⟩
   have hs6:(fun x=>(convert 53 9 (.slice ak xl ck)).run Tryz.prog x=.ok (.string X) x) w6:=by rw [HXE.out];exact conv_row (w:=w6) (own_below (w:=wr.drew) HXO.out hb6)
   rw [HKE.out] at hk6
   obtain ⟨a6,c6,hlk,ho6⟩:=hk6.look (s:=tlN) (x:=tqF wd2 ls) (by decide) (by simp [lk])
   rw [show bs tlN=⟨#[116,105,108,101,115]⟩ from rfl] at hlk
   have hc6:=conv_row ho6
   rw [← HXE.out] at hc6
   have HB6:=hid (show Below wB.heap.size wB w6 from HB0.out.trans ((below_drewN (Below.refl _ wr) 1).trans (hb6.mono HB0.out.size)))
   clear hk6 ho6 hb6
   apply bk hK'
   · exact hs6
   intro hHeld
   clear hK' K'
   apply wpR 6
   intro K' hK'
   go_simp
   apply bk hK'
   · exact hs6
   intro hHeld
   clear hK' K'
   apply wpR 7
   intro K' hK'
   go_simp
   apply bk hK'
   · exact hs6
   intro hHeld
   clear hK' K'
   apply wpLR hR 10 (.bool false)
   · intro w hS
     refine exec_bin (b:=.neq) (t:=9) (u:=9) (x:=.tmp 214) (y:=.tmp 216) rfl (str_neq X w) ?_
     rfl
   apply wpTR hR 11
   refine wpAnyH_done (by kernel_rfl) ?_ _
   refine HK.out _ _ ?_
   clear HK K hs0 hs6
   rw [dropSeq_succ]
   conv=>arg 2;whnf
   go_wp2_with fail
   exact HKK.out _ _ _ _ _ _ _ _ _ _ _ _ _ _ _ _ _ _ _ _ _ _ _ _ _ _ _ _ _ _ _ _ _ _ _ _ _ _ _ _ _ _ _ _ _ _ _ _ _ _ _ _ _ _ _ _ _ _ _ _ _ _ _ _ _ _ _ _ _ _ _ _ _ _ _ _ _ _ _ _ _ _ _ _ _ _ _ _ _ _ _ _ _ _ _ _ _ _ _ _ _ _ _ _ _ _ _ _ _ _ _ _ _ _ _ _ _ _ _  w6 HB6.out
 · have h9:((wd2:Int) == wd)=false:=by simp;exact hw
   clear h hb0 hd hp hK hxo hkp hw
   refine wp_two_k (c:=dropSeq 7 tcX) ⟨_,_,rfl⟩ fun K hK=>?_
   have HK:=hid hK
   clear hK
   conv=>arg 2;whnf
   go_upto_region 32 with (fail)
   refine wp_region_held_drew (S:=fun _=>True) (by kernel_rfl) trivial (fun hHeld=>?_)
   apply wpTR hR 0
   apply wpTR hR 1
   apply wpTR hR 2
   apply wpTR hR 3
   apply wpUR hR 4
   apply wpUR hR 5
   apply wpUR hR 6
   apply wpUR hR 7
   apply wpUR hR 8
   apply wpUR hR 9
   apply wpUR hR 10
   apply wpTR hR 11
   refine wpAnyH_done (by kernel_rfl) ?_ _
   refine HK.out _ _ ?_
   clear HK K
   rw [dropSeq_succ]
   conv=>arg 2;whnf
   go_wp2_with fail
   exact HKK.out _ _ _ _ _ _ _ _ _ _ _ _ _ _ _ _ _ _ _ _ _ _ _ _ _ _ _ _ _ _ _ _ _ _ _ _ _ _ _ _ _ _ _ _ _ _ _ _ _ _ _ _ _ _ _ _ _ _ _ _ _ _ _ _ _ _ _ _ _ _ _ _ _ _ _ _ _ _ _ _ _ _ _ _ _ _ _ _ _ _ _ _ _ _ _ _ _ _ _ _ _ _ _ _ _ _ _ _ _ _ _ _ _ _ _ _ _ _ _  _ (below_drewN HB0.out 1)
end
end Go.Proofs.YtgkehahklccacaaGreatDoor
