import Derived.Test.YtcnckjlmldnblaaGreatDoorR15g
import Derived.Test.YtcnckjlmldnblaaGreatDoorD1
import Derived.BigGuardPart
import Derived.IntWalk
import Derived.Handy
import Derived.OrdersHeld
import Derived.Deep.RegionHeld3
import Derived.WalkLawsBesides
import Derived.Test.YtcnckjlmldnblaaGreatDoorE33
import Derived.Test.YtcnckjlmldnblaaGreatDoorE54
import Derived.Test.YtcnckjlmldnblaaGreatDoorE43
import Derived.Test.YtcnckjlmldnblaaGreatDoorX5
import Derived.Maps.AppendAt
namespace Go.Proofs.YtcnckjlmldnblaaGreatDoor
open Go Go.RowKit
set_option maxRecDepth 100000
set_option maxHeartbeats 16000000
set_option linter.unusedVariables false
set_option linter.unusedSimpArgs false
open List renaming setIfInBounds_toArray → pa, set_cons_zero → pb, set_cons_succ → pc, getElem_toArray → pd, getElem_cons_succ → pe, getElem_cons_zero → pf
/-- A worth of the document's, or its refusal. -/
def RRet (e:Ending) (w0 w':World) (B:Nat) (r:Wr):Prop:=match r with
 | .ok x=>∃ v,e=.returned (.tuple #[v,.int .i64 0])∧RV w0 w' B v x
 | .error er=>e=.returned (.tuple #[VA v0 none 0 0,.int .i64 er])
theorem RRet.err {e:Ending} {w0 w':World} {B:Nat} {r:Wr} {er:Int} (h:r=.error er) (he:e=.returned (.tuple #[VA v0 none 0 0,.int .i64 er])):RRet e w0 w' B r:=by subst h;exact he
theorem RRet.ok {e:Ending} {w0 w':World} {B:Nat} {r:Wr} {x:Vl} {v:Value} (h:r=.ok x) (he:e=.returned (.tuple #[v,.int .i64 0])) (hv:RV w0 w' B v x):RRet e w0 w' B r:=by subst h;exact ⟨v,he,hv⟩
/-- All that the document's Worth leans on, in the elder world. -/
structure RefEnv (w0:World) (na:Option Addr) (nl nc:Nat) (ns:List Nd) (p:Pd):Prop where
 e:EnvR w0 na nl nc ns p
 v:VwOk p.vw
 n:∀ x ∈ ns,x.ks.length=x.kl∧I64 x.vn
 t:ResTab w0 0
 h:0 < w0.heap.size
 l:nl≤5000
 s:∀ nd ∈ ns,nd.kl≤1000000
 w:∀ d,RefAt w0 na nl nc ns p d
theorem EnvT.of {w0 w:World} {na:Option Addr} {nl nc:Nat} {ns:List Nd} {p:Pd} (h:RefEnv w0 na nl nc ns p) (hb:Below w0.heap.size w0 w):EnvT w na nl nc ns :=
 ⟨h.e.r.below hb,fun nd hnd=>((h.e.n nd hnd).below hb).ok,h.t.below hb h.h h.h,by have:=hb.size;have:=h.h;omega⟩
theorem refworth_any (w0:World) (na:Option Addr) (nl nc:Nat) (ns:List Nd) (p:Pd) (hE:RefEnv w0 na nl nc ns p) (w:World) (hbw:Below w0.heap.size w0 w) (root:Int) :
 Calls Tryz.prog 19 #[.slice na nl nc,.int .i64 root,.agg p.cs] w fun e w'=>RRet e w0 w' w.heap.size (worthR ns root p.vw)∧Below w.heap.size w w':=by
 obtain ⟨w2,hw2⟩:∃ w2,w2=(w.alloc (boxR p)).alloc boxZ:=⟨_,rfl⟩
 have g0:w2.heap[w.heap.size]?=some (boxR p):=by rw [hw2];exact heap_alloc2_old w _ _
 have g1:w2.heap[w.heap.size+1]?=some boxZ:=by rw [hw2];exact heap_alloc2_new w _ _
 have hb2:Below w.heap.size w w2:=by rw [hw2];exact bel2 _ _ _
 have z2:w2.heap.size=w.heap.size+2:=by rw [hw2];simp
 have hz0:=hbw.size
 have hln:=hE.e.r.1
 have hnl:=hE.l
 have hn48:=hE.e.r.2.2.1
 have HLN:=Lib.hid hln
 have HE:=Lib.hid hE
 have G0:=Lib.hid g0
 have G1:=Lib.hid g1
 have HB2:=Lib.hid hb2
 have HW2:=Lib.hid (hbw.trans (hb2.mono hz0))
 obtain ⟨c0,c1,c2,c3,f0,f1,f2,f3⟩:=box4 g1
 have Z0:w.heap.size < w2.heap.size:=by omega
 have Z1:w.heap.size+1 < w2.heap.size:=by omega
 clear g0 g1 hb2 hbw hE hln z2
 by_cases hneg:root < 0
 · have HS:=Lib.hid (show worthR ns root p.vw=.error 1 by unfold worthR;rw [if_pos (.inl hneg)])
   go_enter Tryz.func19,Tryz.ntmps19
   go_upto_region 1 with (fail)
   rw [← hw2]
   clear hw2
   go_wp2_with fail
   refine bodyPost_ret (res2c Tryz.results19 _ _ (w.heap.size+1) _ _ _ _ _ (heap_box G1.out _ _ _ _) rfl rfl) rfl ?_
   exact ⟨.err HS.out rfl,below_box (by omega) HB2.out _ _ _ _⟩
 by_cases hge:(nl:Int)≤root
 · have HS:=Lib.hid (show worthR ns root p.vw=.error 1 by unfold worthR;rw [if_pos (.inr (by rw [HLN.out];exact hge))])
   go_enter Tryz.func19,Tryz.ntmps19
   go_upto_region 1 with (fail)
   rw [← hw2]
   clear hw2
   go_wp2_with fail
   refine bodyPost_ret (res2c Tryz.results19 _ _ (w.heap.size+1) _ _ _ _ _ (heap_box G1.out _ _ _ _) rfl rfl) rfl ?_
   exact ⟨.err HS.out rfl,below_box (by omega) HB2.out _ _ _ _⟩
 obtain ⟨q,rfl⟩:∃ q:Nat,root=q:=⟨root.toNat,by omega⟩
 have hq:q < nl:=by omega
 have hqI:(q:Int) < (nl:Int):=by omega
 have hq0:(0:Int)≤(q:Int):=by omega
 have HS:=Lib.hid (show worthR ns q p.vw=if treeR ns q=true then wK ns p.vw (q+1) q else .error 8 by
  unfold worthR
  rw [if_neg (by rw [HLN.out];omega),Int.toNat_natCast])
 have HD:=Lib.hid (show (dfsR ns nl q nl (List.replicate nl false)).isSome=treeR ns q by
  have:=dfs_tree ns q nl (by rw [HLN.out];exact hq) hq
  rwa [HLN.out] at this)
 have HTA:=Lib.hid (reftree_all w2 na nl nc ns (EnvT.of HE.out HW2.out) nl)
 clear hneg hge
 go_enter Tryz.func19,Tryz.ntmps19
 go_upto_region 1 with (fail)
 rw [← hw2]
 clear hw2
 go_upto_region 4 with (at_make;refine L_make rfl _ _ _ rfl sl93 w2.heap.size .i64 .i64 _ nl rfl rfl (by omega) (by omega) (by simp [maxLen];omega) (Nat.le_refl _) (fun w3 ho3 hg3=>?_)
                        have hb3:=(Below.refl w2.heap.size w2).grown hg3 (Nat.le_refl _) (by intro k hk;cases hk)
                        have HO3:=Lib.hid (show w3.ownsRow w2.heap.size 4 1 (.slice (some ⟨w2.heap.size,0,none⟩) nl nl) nl ((List.replicate nl false).map Value.bool) by
                         have e:=ho3
                         rw [show (madeCells (Value.bool false).cells (nl * 1)).toList=(List.replicate nl false).map Value.bool from madeB nl] at e
                         exact e)
                        have HB3:=Lib.hid hb3
                        clear ho3 hg3 hb3)
 have HTC:=Lib.hid (HTA.out w3 q nl (List.replicate nl false) w2.heap.size HB3.out (Int.le_refl _) (Int.le_refl _) HO3.out)
 with_reducible refine HTC.out.mono ?_
 rintro e w4 ⟨rfl,-,hb4⟩
 rw [HD.out]
 have HB4:=Lib.hid (HB2.out.trans (hb4.mono (by omega)))
 have HW4:=Lib.hid (HW2.out.trans (hb4.mono HW2.out.size))
 have G14:=Lib.hid ((hb4.block _ Z1).trans G1.out)
 have G04:=Lib.hid ((hb4.block _ Z0).trans G0.out)
 have z4:=hb4.size
 clear hb4
 clear c0 c1 c2 c3 f0 f1 f2 f3
 cases htr:treeR ns q
 · have HS2:=Lib.hid (show worthR ns q p.vw=.error 8 by rw [HS.out,htr];rfl)
   obtain ⟨d0,d1,d2,d3,f0,f1,f2,f3⟩:=box4 G14.out
   go_wp2_with fail
   refine bodyPost_ret (res2c Tryz.results19 _ _ (w.heap.size+1) _ _ _ _ _ (heap_box G14.out _ _ _ _) rfl rfl) rfl ?_
   exact ⟨.err HS2.out rfl,below_box (by omega) HB4.out _ _ _ _⟩
 have HS2:=Lib.hid (show worthR ns q p.vw=wK ns p.vw (q+1) q by rw [HS.out,htr];rfl)
 have HG:=Lib.hid (treeR_good (fun i nd _ hnd=>HE.out.s nd (List.mem_of_getElem? hnd)) htr)
 have v0':=cell_of_row _ _ 0 _ _ _ G04.out
 have v1':=cell_of_row _ _ 1 _ _ _ G04.out
 have v2':=cell_of_row _ _ 2 _ _ _ G04.out
 have v3':=cell_of_row _ _ 3 _ _ _ G04.out
 have v4':=cell_of_row _ _ 4 _ _ _ G04.out
 simp only [List.getElem?_toArray,List.getElem?_cons_zero,List.getElem?_cons_succ] at v0' v1' v2' v3' v4'
 go_upto_region 6 with (fail)
 refine (HE.out.w (q+1) w4 q HW4.out HG.out).mono ?_
 rintro e w5 ⟨⟨v,z,er,rfl,⟨za,zl,zc,rfl,hrv⟩,hr⟩,hb5⟩
 have HRR:=Lib.hid hr
 have HRV:=Lib.hid (hrv.imp id (fun h=>h.mono (show w.heap.size≤w4.heap.size by omega)):RZ w0 za zl zc z.ss∨SV w5 w.heap.size (VA z za zl zc) z)
 have HB5:=Lib.hid (HB4.out.trans (hb5.mono (by omega)))
 have G15:=Lib.hid ((hb5.block _ (by omega)).trans G14.out)
 have z5:=hb5.size
 clear hr hrv hb5 v0' v1' v2' v3' v4'
 go_upto_region 6 with (fail)
 obtain ⟨w6,hw6⟩:∃ w6,w6=w5.alloc (.cells #[.int .i64 z.k,.int .i64 z.n,.string z.t,.slice za zl zc] 43):=⟨_,rfl⟩
 rw [← hw6]
 have hb6:Below w5.heap.size w5 w6:=by rw [hw6];exact bel1 _ _
 have g6:w6.heap[w5.heap.size]?=some (.cells #[.int .i64 z.k,.int .i64 z.n,.string z.t,.slice za zl zc] 43):=by rw [hw6];exact heap_alloc_new w5 _
 have HB6:=Lib.hid (HB5.out.trans (hb6.mono (by have:=HB5.out.size;omega)))
 have G16:=Lib.hid ((hb6.block _ (by omega)).trans G15.out)
 have HRV6:=Lib.hid (HRV.out.imp (fun h=>h) (fun h=>h.below hb6))
 obtain ⟨x0,x1,x2,x3,-⟩:=box4 g6
 obtain ⟨d0,d1,d2,d3,f0,f1,f2,f3⟩:=box4 G16.out
 clear hw6 hb6 g6
 cases he:(er != 0)
 · have hez:er=0:=by simpa using he
   have HQ:=Lib.hid (show worthR ns q p.vw=.ok z by
    rcases HRR.out with ⟨h,-⟩ | ⟨-,h⟩
    · rw [HS2.out,h]
    · exact absurd hez h)
   subst hez
   go_wp2_with fail
   refine bodyPost_ret (res2c Tryz.results19 _ _ (w.heap.size+1) _ _ _ _ _ (heap_box G16.out _ _ _ _) rfl rfl) rfl ?_
   have hrv2:RV w0 _ w.heap.size (VA z za zl zc) z:=⟨za,zl,zc,rfl,HRV6.out.imp (fun h=>h) (fun h=>SV.setbox h G16.out (by decide) (.int .i64 z.k) (.int .i64 z.n) (.string z.t) (.slice za zl zc))⟩
   exact ⟨.ok HQ.out rfl hrv2,below_box (by omega) HB6.out _ _ _ _⟩
 · have HQ:=Lib.hid (show worthR ns q p.vw=.error er by
    rcases HRR.out with ⟨-,h⟩ | ⟨h,-⟩
    · rw [h] at he;cases he
    · rw [HS2.out,h])
   go_wp2_with fail
   refine bodyPost_ret (res2c Tryz.results19 _ _ (w.heap.size+1) _ _ _ _ _ (heap_box G16.out _ _ _ _) rfl rfl) rfl ?_
   exact ⟨.err HQ.out rfl,below_box (by omega) HB6.out _ _ _ _⟩
theorem RRet.shape {e:Ending} {w0 w':World} {B:Nat} {r:Wr} (h:RRet e w0 w' B r):∃ x a l c er,e=.returned (.tuple #[VA x a l c,.int .i64 er])∧holdsB r=((er == 0) && (x.k == 2) && (x.n == 1)):=by
 cases r with
 | ok x =>
   obtain ⟨v,rfl,a,l,c,rfl,-⟩:=h
   exact ⟨x,a,l,c,0,rfl,by simp [holdsB]⟩
 | error er =>
   exact ⟨v0,none,0,0,er,h,by simp [holdsB,v0]⟩
theorem refholds_any (w0:World) (na:Option Addr) (nl nc:Nat) (ns:List Nd) (p:Pd) (hE:RefEnv w0 na nl nc ns p) (w:World) (hbw:Below w0.heap.size w0 w) (root:Int) :
 Calls Tryz.prog 22 #[.slice na nl nc,.int .i64 root,.agg p.cs] w fun e w'=>e=.returned (.bool (if root=-1 then true else holdsB (worthR ns root p.vw)))∧Below w.heap.size w w':=by
 obtain ⟨w2,hw2⟩:∃ w2,w2=w.alloc (boxR p):=⟨_,rfl⟩
 have g0:w2.heap[w.heap.size]?=some (boxR p):=by rw [hw2];exact heap_alloc_new w _
 have hb2:Below w.heap.size w w2:=by rw [hw2];exact bel1 _ _
 have hz0:=hbw.size
 have HB2:=Lib.hid hb2
 have HC:=Lib.hid (refworth_any w0 na nl nc ns p hE w2 (hbw.trans (hb2.mono hz0)) root)
 have v0':=cell_of_row _ _ 0 _ _ _ g0
 have v1':=cell_of_row _ _ 1 _ _ _ g0
 have v2':=cell_of_row _ _ 2 _ _ _ g0
 have v3':=cell_of_row _ _ 3 _ _ _ g0
 have v4':=cell_of_row _ _ 4 _ _ _ g0
 simp only [List.getElem?_toArray,List.getElem?_cons_zero,List.getElem?_cons_succ] at v0' v1' v2' v3' v4'
 clear g0 hb2 hbw hE
 by_cases h1:root=-1
 · subst h1
   go_enter Tryz.func22,Tryz.ntmps22
   go_upto_region 1 with (fail)
   rw [← hw2]
   clear hw2
   go_wp2_with fail
   go_ret
   exact ⟨rfl,HB2.out⟩
 have hr1:(root == -1)=false:=by simp [h1]
 have H1:=Lib.hid h1
 rw [if_neg H1.out]
 clear h1
 go_enter Tryz.func22,Tryz.ntmps22
 go_upto_region 1 with (fail)
 rw [← hw2]
 clear hw2
 go_upto_region 4 with (go_at_call 19;(with_reducible refine HC.out.mono ?_);rintro e w3 ⟨hr,hb3⟩;have HB3:=Lib.hid (HB2.out.trans (hb3.mono HB2.out.size));have HR:=Lib.hid hr;clear hb3 hr v0' v1' v2' v3' v4';obtain ⟨x,xa,xl,xc,er,rfl,hh⟩:=HR.out.shape;have HH:=Lib.hid hh;clear hh)
 obtain ⟨w4,hw4⟩:∃ w4,w4=w3.alloc (.cells #[.int .i64 x.k,.int .i64 x.n,.string x.t,.slice xa xl xc] 43):=⟨_,rfl⟩
 have g4:w4.heap[w3.heap.size]?=some (.cells #[.int .i64 x.k,.int .i64 x.n,.string x.t,.slice xa xl xc] 43):=by rw [hw4];exact heap_alloc_new w3 _
 have HB4:=Lib.hid (show Below w.heap.size w w4 by rw [hw4];exact HB3.out.trans ((bel1 w3 _).mono HB3.out.size))
 rw [← hw4]
 clear hw4
 obtain ⟨x0,x1,x2,x3,-⟩:=box4 g4
 clear g4
 have HV:=Lib.hid (show holdsB (worthR ns root p.vw)=((er == 0) && (x.k == 2) && (x.n == 1)) from HH.out)
 cases he:(er == 0)
 · go_wp2_with fail
   go_ret
   exact ⟨by rw [HV.out,he];rfl,HB4.out⟩
 cases hk:(x.k == 2)
 · go_wp2_with fail
   go_ret
   exact ⟨by rw [HV.out,he,hk];rfl,HB4.out⟩
 · go_wp2_with fail
   go_ret
   exact ⟨by rw [HV.out,he,hk];simp,HB4.out⟩
theorem viewplain_any (w:World) (p:Pd):Calls Tryz.prog 20 #[.agg p.cs] w fun e w'=>e=.returned (.agg p.cs)∧Below w.heap.size w w':=by
 go_enter Tryz.func20,Tryz.ntmps20
 go_wp2
 go_returns
 refine ⟨rfl,?_⟩
 exact bel2 _ _ _
/-- A node without where its rows lie. -/
def Nd.bone (nd:Nd):Nd:={ nd with ka:=none,kc:=0,sa:=none,sc:=0 }
theorem nodeW_bone (f:Int→Wr) (nd:Nd) (v:Vw):nodeW f nd.bone v=nodeW f nd v:=rfl
theorem wK_bone (ns:List Nd) (v:Vw):∀ (d:Nat) (r:Int),wK (ns.map Nd.bone) v d r=wK ns v d r
 | 0,r=>rfl
 | d+1,r=>by
   rw [wK,wK,List.getElem?_map]
   have e:wK (ns.map Nd.bone) v d=wK ns v d:=funext (wK_bone ns v d)
   cases ns[r.toNat]? with
   | none=>rfl
   | some nd =>
     simp only [Option.map_some]
     rw [nodeW_bone,e]
theorem treeG_bone (ns:List Nd):∀ (k:Nat) (s:List Bool),treeG (ns.map Nd.bone) k s=treeG ns k s
 | 0,_=>rfl
 | k+1,s=>by
   simp only [treeG,List.getElem?_map]
   rw [treeG_bone ns k s]
   cases ns[k]? with
   | none=>rfl
   | some nd =>
     simp only [Option.map_some]
     rw [show nd.bone.right=nd.right from rfl,show nd.bone.ks=nd.ks from rfl]
     cases kidsF k s nd.ks with
     | none=>rfl
     | some s'=>simp only [treeG_bone ns k s']
theorem worthR_bone (ns:List Nd) (r:Int) (v:Vw):worthR (ns.map Nd.bone) r v=worthR ns r v:=by
 unfold worthR treeR
 rw [List.length_map,treeG_bone,wK_bone]
theorem worthR_like {ns ms:List Nd} (h:ns.map Nd.bone=ms.map Nd.bone) (r:Int) (v:Vw):worthR ns r v=worthR ms r v:=by
 rw [← worthR_bone ns,h,worthR_bone]
theorem WhoI.bone {w0 w:World} {u nd:Nd} (h:WhoI w0 w u nd):u.bone=nd.bone:=by
 obtain ⟨h1,h2,h3,h4,h5,h6,h7,h8,-⟩:=h
 cases u;cases nd
 simp only at h1 h2 h3 h4 h5 h6 h7 h8
 subst h1 h2 h3 h4 h5 h6 h7 h8
 rfl
theorem whole_bone {w0 w:World} {us ns:List Nd} (hl:us.length=ns.length) (h:∀ (i:Nat) (u nd:Nd),us[i]?=some u→ns[i]?=some nd→WhoI w0 w u nd):us.map Nd.bone=ns.map Nd.bone:=by
 apply List.ext_getElem?
 intro i
 rw [List.getElem?_map,List.getElem?_map]
 cases hu:us[i]? with
 | none =>
   have:us.length≤i:=List.getElem?_eq_none_iff.1 hu
   rw [List.getElem?_eq_none (by omega)]
 | some u =>
   have hi:=(List.getElem?_eq_some_iff.1 hu).1
   have hn:ns[i]?=some ns[i]:=List.getElem?_eq_getElem (by omega)
   rw [hn]
   simp only [Option.map_some]
   rw [(h i u _ hu hn).bone]
theorem who_ndw {w0 w:World} {u nd:Nd} (h:WhoI w0 w u nd) (hok:nd.ok w0) (hk:nd.kl≤20000) (hs:nd.sl≤20000):NdW w u:=by
 obtain ⟨h1,h2,h3,h4,h5,h6,h7,h8,h9,h10,hkr,ss,hsl,hrs,hsr⟩:=h
 have a1:=(RS.of_owns hkr (by decide) Iv_len (by omega)).cut
 have a2:=(RS.of_owns hsr (by decide) Sv_len (by omega)).cut
 rw [hok.1.1] at a1
 rw [hsl] at a2
 refine ⟨⟨by rw [h7,h8,h9];exact a1,by rw [h2];exact hok.2.1,by rw [h4];exact hok.2.2⟩,ss,by rw [h6,h10];exact a2,fun hn=>?_⟩
 obtain ⟨g,hg⟩:=own_some hsr (by omega)
 rw [hg] at hn
 cases hn
def valOf (r:Wr):Vl:=match r with | .ok x=>x | .error _=>v0
def erOf (r:Wr):Int:=match r with | .ok _=>0 | .error e=>e
theorem WRet.is {e:Ending} {w':World} {B:Nat} {r:Wr} (h:WRet e w' B r) {X:Vl} {E:Int} {L:Nat} (hX:X=valOf r) (hE:E=erOf r) (hL:L=X.ss.length):∃ a c,e=.returned (.tuple #[VA X a L c,.int .i64 E])∧SO w' B (VA X a L c) X:=by
 subst hX hE hL
 cases r with
 | ok x =>
   obtain ⟨v,he,a,l,c,rfl,rfl,hh⟩:=h
   exact ⟨a,c,he,a,_,c,rfl,rfl,hh⟩
 | error er=>exact ⟨none,0,h,none,0,0,rfl,rfl,World.ownsRow_nil _ _ _ _⟩
theorem RRet.is {e:Ending} {w0 w':World} {B:Nat} {r:Wr} (h:RRet e w0 w' B r) {X:Vl} {E:Int} {L:Nat} (hX:X=valOf r) (hE:E=erOf r) (hL:L=X.ss.length):∃ a c,e=.returned (.tuple #[VA X a L c,.int .i64 E])∧(RZ w0 a L c X.ss∨SV w' B (VA X a L c) X):=by
 subst hX hE hL
 cases r with
 | ok x =>
   obtain ⟨v,he,a,l,c,rfl,hh⟩:=h
   have hl:l=x.ss.length:=by
    rcases hh with hh | ⟨a',l',c',e',hl,-⟩
    · exact hh.rs.1.symm
    · simp only [VA,Value.agg.injEq,Array.mk.injEq,List.cons.injEq,Value.slice.injEq,true_and,and_true] at e'
      rw [e'.2.1];exact hl
   subst hl
   exact ⟨a,c,he,hh⟩
 | error er=>exact ⟨none,0,h,.inl (rz_nil1 w0)⟩
theorem SV.rsL {w W:World} {B:Nat} {X:Vl} {b:Option Addr} {L d:Nat} (h:SV w B (VA X b L d) X) (hb:Below w.heap.size w W) (hL:L≤281474976710656):RS 1 Sv W b L d X.ss:=(h.rz hL).rs.below hb
theorem rv_rs {w W:World} {B:Nat} {X:Vl} {b:Option Addr} {L d:Nat} (h:RZ w b L d X.ss∨SV W B (VA X b L d) X) (hb:Below w.heap.size w W) (hL:L≤281474976710656):RS 1 Sv W b L d X.ss:=h.elim (fun h=>h.rs.below hb) (fun h=>(h.rz hL).rs)
theorem val_small {ns:List Nd} {v:Vw} (hv:VwOk v) (hn:∀ nd ∈ ns,nd.ks.length=nd.kl∧I64 nd.vn) (hs:∀ nd ∈ ns,nd.kl≤1000000) (r:Int):(valOf (worthR ns r v)).ss.length≤64:=by
 have h0:v0.ss.length≤64:=by simp [v0]
 unfold worthR
 split
 · exact h0
 · split
   · rename_i h1 h2
     have hg:=treeR_good (fun i nd _ hnd=>hs nd (List.mem_of_getElem? hnd)) h2
     have hf:=fit_wK hv hn (r.toNat+1) r.toNat hg
     have e:((r.toNat:Nat):Int)=r:=by omega
     rw [e] at hf
     cases hw:wK ns v (r.toNat+1) r with
     | ok x=>exact (right_parts (hf x hw).r).2.2.2.2
     | error e=>exact h0
   · exact h0
theorem heap_box_ne {w1:World} {g h:Nat} {o:Obj} (hh:w1.heap[h]?=some o) (hne:h ≠ g) (x0 x1 x2 x3:Value):((((w1.setCell ⟨g,0,none⟩ x0).setCell ⟨g,1,none⟩ x1).setCell ⟨g,2,none⟩ x2).setCell ⟨g,3,none⟩ x3).heap[h]?=some o :=
 (heap_setCell_other _ ⟨g,3,none⟩ h x3 hne).trans ((heap_setCell_other _ ⟨g,2,none⟩ h x2 hne).trans ((heap_setCell_other _ ⟨g,1,none⟩ h x1 hne).trans ((heap_setCell_other w1 ⟨g,0,none⟩ h x0 hne).trans hh)))
def holdE (r:Wr) (root:Int):Bool:=if root=-1 then true else holdsB r
theorem holds_neg (w:World) (na:Option Addr) (nl nc:Nat) (p:Pd):Calls Tryz.prog 14 #[.slice na nl nc,.int .i64 (-1),.iface 72 (.agg p.cs)] w fun e w'=>e=.returned (.bool true)∧Below w.heap.size w w':=by
 go_enter Tryz.func14,Tryz.ntmps14
 go_wp2
 go_ret
 exact ⟨rfl,Below.refl _ _⟩
theorem holds_two (w:World) (na:Option Addr) (nl nc:Nat) (ns:List Nd) (p:Pd) (hE:EnvW w na nl nc ns p) (hv:VwOk p.vw) (hn:∀ x ∈ ns,x.ks.length=x.kl∧I64 x.vn) (ht:ResTab w 1) (h2:1 < w.heap.size) (root:Int) (hroot:I64 root) (hsm:∀ (i:Nat) (nd:Nd),(i:Int)≤root→ns[i]?=some nd→nd.kl≤1000000) (r:Wr) (hr:worthR ns root p.vw=r) :
 Calls Tryz.prog 14 #[.slice na nl nc,.int .i64 root,.iface 72 (.agg p.cs)] w fun e w'=>e=.returned (.bool (holdE r root))∧Below w.heap.size w w':=by
 subst hr
 unfold holdE
 by_cases h:root=-1
 · subst h
   rw [if_pos rfl]
   exact holds_neg w na nl nc p
 · rw [if_neg h]
   exact holds_any w na nl nc ns p hE hv hn ht h2 root hroot h hsm
end Go.Proofs.YtcnckjlmldnblaaGreatDoor
