import Derived.Test.YtgkehahklccacaaGreatDoorC36
import Derived.Test.YtgkehahklccacaaGreatDoorC03
namespace Go.Proofs.YtgkehahklccacaaGreatDoor
open Go Go.RowKit
open Go.Lib (hid)
set_option maxRecDepth 100000
set_option maxHeartbeats 1000000
set_option linter.unusedVariables false
set_option linter.unusedSimpArgs false
section
open Go.Maps Go.WideMaps Go.ChangeMaps
theorem L_loadW {P:Program} {ops:Array Oper} {rest:List Oper} {o:Oper} {a:Act} {w:World} {Q:Exit→Act→World→Prop} (hw:Region.wanted o (yielded ops a.tmps)=true) (ty:TypeId) (x:Operand) (ho:o.op=.load ty x)
 (g:Nat) (hx:a.eval x=.pointer (some ⟨g,0,none⟩)) (t:TypeId) (cs:Array Value) (fr:Nat × Nat) (d:TypeDesc) (hg:w.heap[g]?=some (.cells cs t fr))
 (hu:P.underlying ty=some d) (hd:(match d with | .struct _ | .array _ _=>true | _=>false)=true) (hi:(P.info? ty).map (·.size)=some cs.size)
 (h:wpList P ops Q rest (a.put o.dst (.agg cs)) w):wpList P ops Q (o :: rest) a w :=
 wpList_step fun K hK=>by rw [if_pos hw];exact wp_load_row ty x ho g hx t cs fr d hg hu hd hi (hK _ _ h)
theorem zip_map' {α β:Type} (f:α→β):∀ l:List α,l.zip (l.map f)=l.map fun p=>(p,f p)
 | []=>rfl
 | a :: r=>by rw [List.map_cons,List.zip_cons_cons,zip_map' f r,List.map_cons]
theorem ahead_root (wd:Int) (L:List Dg) (old size:Nat) (ho:0 < old) (hos:old < size) (hsl:size≤L.length) (hs:size≤1000000) :
 ∃ (lo:Bool) (d0:Dg),(lo=true ↔ old &&& (old - 1)=0)∧(lo=false→((partsP old size).map (partD wd L))[0]?=some d0) ∧
   aheadW wd old (((partsP old size).zip ((partsP old size).map (partD wd L))).drop (if lo then 0 else 1)) (if lo then (rootP wd (L.take old),rootP wd (L.take old)) else (d0,d0))=(rootP wd (L.take old),rootP wd (L.take size)):=by
 have hp:partsP old size=jointP size 0 size old true:=by unfold partsP;rw [if_neg (by omega)]
 have hr:∀ b,rng L 0 b=L.take b:=fun b=>by unfold rng;rw [List.drop_zero,Nat.sub_zero]
 obtain ⟨j1,j2⟩:=joint_root wd L old size 0 size true (by omega) (Al.zero _) ho (Nat.le_of_lt hos) hsl hs
 have hlp:=low_pow old size size (Nat.le_refl _) ho (Nat.le_of_lt hos) hs (fun e=>by omega)
 have hpw:lowP size 0 size old true=true ↔ old &&& (old - 1)=0:=by
  rw [hlp]
  exact ⟨fun ⟨q,e⟩=>by rw [e];exact pow_and q,fun e=>and_pow ho (by omega) e⟩
 rw [hr,hr] at j1 j2
 cases hlo:lowP size 0 size old true with
 | true =>
   refine ⟨true,rootP wd (L.take old),by rw [← hpw,hlo],fun h=>(by cases h),?_⟩
   rw [if_pos rfl,if_pos rfl,List.drop_zero,zip_map',hp]
   exact (j1 hlo).2
 | false =>
   obtain ⟨p,r,e1,e2⟩:=j2 hlo
   refine ⟨false,partD wd L p,by rw [← hpw,hlo],fun _=>by rw [hp,e1];rfl,?_⟩
   rw [if_neg (by decide),if_neg (by decide),zip_map',hp,e1]
   exact e2
noncomputable def ag0:Code:=Tryz.f81.body.getD .skip
def AgRet (W:World) (e:Ending) (w':World):Prop:=e=.returned (.int .i64 0)∧Below W.heap.size W w'
set_option maxHeartbeats 16000000
theorem agree_end (W w:World) (ob rb ga gb:Nat) (O R:Dg) (hgo:w.heap[ob]?=some (.cells (dgA O.1) 38 (0,0))) (hgr:w.heap[rb]?=some (.cells (dgA R.1) 38 (0,0))) (hga:w.heap[ga]?=some (.cells (dgA O.1) 38 (0,0))) (hgb:w.heap[gb]?=some (.cells (dgA R.1) 38 (0,0))) (hb:Below W.heap.size W w) (u0 u1 u2 u3 u4 u5 u6 u7 u8 uA uB uC uD uE uF uG uH uI uJ uK uL uM uN uO uP uQ uR uS uT uU uV uW uX uY uZ vA vB vC vD vE vF vG vH vI vJ vK vL vM vN vO vP vQ vR vS vT vU vV vW vX:Value) :
 Code.wp Tryz.prog (dropSeq 5 ag0) (bodyPost Tryz.prog Tryz.f81 (AgRet W)) ⟨#[u0,u1,u2,u3,u4,u5,u6,u7,u8,.pointer (some ⟨ob,0,none⟩),.pointer (some ⟨rb,0,none⟩),uA,.int .i64 0,.pointer (some ⟨ga,0,none⟩),.pointer (some ⟨gb,0,none⟩),uB,uC,uD,uE,uF,uG,uH,uI,uJ,uK,uL,uM,uN,uO,uP,uQ,uR,uS,uT,uU,uV,uW,uX,uY,uZ,vA,vB,vC,vD,vE,vF,vG,vH,vI,vJ,vK,vL,vM,vN,vO,vP,vQ,vR,vS,vT,vU,vV,vW,vX],[]⟩ w:=by
 have hq1:∀ wx,(binOp .neq 38 (.agg (dgA O.1)) (.agg (dgA O.1))).run Tryz.prog wx=.ok (.bool false) wx:=fun wx=>by rw [neq_dg];simp
 have hq2:∀ wx,(binOp .neq 38 (.agg (dgA R.1)) (.agg (dgA R.1))).run Tryz.prog wx=.ok (.bool false) wx:=fun wx=>by rw [neq_dg];simp
 obtain ⟨A,hA⟩:∃ A,A=dgA O.1:=⟨_,rfl⟩
 obtain ⟨B,hB⟩:∃ B,B=dgA R.1:=⟨_,rfl⟩
 have HAS:=hid (show A.size=32 by rw [hA,dgA_size,O.2])
 have HBS:=hid (show B.size=32 by rw [hB,dgA_size,R.2])
 rw [← hA] at hgo hga hq1
 rw [← hB] at hgr hgb hq2
 have HGO:=hid hgo;have HGR:=hid hgr;have HGA:=hid hga;have HGB:=hid hgb;have HB:=hid hb
 clear hgo hgr hga hgb hb hA hB
 refine wp_two_k (c:=dropSeq 5 ag0) ⟨_,_,rfl⟩ fun K hK=>?_
 have HK:=hid hK
 clear hK
 conv=>arg 2;whnf
 go_wp2_with (first
  | (refine wpList_load_row rfl 38 (.tmp 13) (by rfl) ga (by rfl) 38 A (0,0) _ HGA.out Tryz.underlying38 rfl (by rw [HAS.out];exact info38) ?_)
  | (refine wpList_load_row rfl 38 (.tmp 9) (by rfl) ob (by rfl) 38 A (0,0) _ HGO.out Tryz.underlying38 rfl (by rw [HAS.out];exact info38) ?_)
  | (refine L_loadW (by rfl) 38 (.tmp 14) (by rfl) gb (by rfl) 38 B (0,0) _ HGB.out Tryz.underlying38 rfl (by rw [HBS.out];exact info38) ?_)
  | (refine L_loadW (by rfl) 38 (.tmp 10) (by rfl) rb (by rfl) 38 B (0,0) _ HGR.out Tryz.underlying38 rfl (by rw [HBS.out];exact info38) ?_))
 refine HK.out _ _ ?_
 clear HK K
 rw [dropSeq_succ]
 conv=>arg 2;whnf
 go_wp2_with fail
 go_ret
 exact ⟨rfl,HB.out⟩
theorem agree_mid (W w:World) (wd:Int) (hwd:1≤wd∧wd≤32) (L:List Dg) (old size:Nat) (hos:old≤size) (hsl:size≤L.length) (hs:size≤60000) (a:Option Addr) (n c:Nat) (hds:DS W a n c ((partsP old size).map (partD wd L))) (ht:RoundTab W) (h4:4≤W.heap.size)
 (ob rb ga gb:Nat) (hW:W.heap.size≤ob) (h1:ob < rb) (h2:rb < ga) (h3:rb < gb) (h5:ga ≠ gb) (hgo:w.heap[ob]?=some (.cells (dgA (rootP wd (L.take old)).1) 38 (0,0))) (hgr:w.heap[rb]?=some (.cells (dgA (rootP wd (L.take size)).1) 38 (0,0))) (hga:w.heap[ga]?=some (.cells (dgA (rootP wd (L.take old)).1) 38 (0,0))) (hgb:w.heap[gb]?=some (.cells (dgA (rootP wd (L.take size)).1) 38 (0,0))) (hb:Below W.heap.size W w) (u3 u4 u6 u7 u8 uA uB uC uD uE uF uG uH uI uJ uK uL uM uN uO uP uQ uR uS uT uU uV uW uX uY uZ vA vB vC vD vE vF vG vH vI vJ vK vL vM vN vO vP vQ vR vS vT vU vV vW vX:Value) :
 Code.wp Tryz.prog (dropSeq 4 ag0) (bodyPost Tryz.prog Tryz.f81 (AgRet W)) ⟨#[.int .i64 wd,.int .i64 (old:Int),.int .i64 (size:Int),u3,u4,.slice a n c,u6,u7,u8,.pointer (some ⟨ob,0,none⟩),.pointer (some ⟨rb,0,none⟩),uA,.int .i64 0,.pointer (some ⟨ga,0,none⟩),.pointer (some ⟨gb,0,none⟩),uB,uC,uD,uE,uF,uG,uH,uI,uJ,uK,uL,uM,uN,uO,uP,uQ,uR,uS,uT,uU,uV,uW,uX,uY,uZ,vA,vB,vC,vD,vE,vF,vG,vH,vI,vJ,vK,vL,vM,vN,vO,vP,vQ,vR,vS,vT,vU,vV,vW,vX],[]⟩ w:=by
 obtain ⟨O,hO⟩:∃ O,O=rootP wd (L.take old):=⟨_,rfl⟩
 obtain ⟨R,hR⟩:∃ R,R=rootP wd (L.take size):=⟨_,rfl⟩
 rw [← hO] at hgo hga
 rw [← hR] at hgr hgb
 have hlt:ob < w.heap.size∧rb < w.heap.size∧ga < w.heap.size∧gb < w.heap.size:=⟨(Array.getElem?_eq_some_iff.1 hgo).1,(Array.getElem?_eq_some_iff.1 hgr).1,(Array.getElem?_eq_some_iff.1 hga).1,(Array.getElem?_eq_some_iff.1 hgb).1⟩
 have HLT:=hid hlt
 have HN:=hid (show W.heap.size≤ob∧ob < rb∧rb < ga∧rb < gb∧ga ≠ gb from ⟨hW,h1,h2,h3,h5⟩)
 have HGO:=hid hgo;have HGR:=hid hgr;have HGA:=hid hga;have HGB:=hid hgb;have HB:=hid hb
 have HST:=hid (fun (wx:World) (hbx:Below w.heap.size w wx) (D:Dg)=>show wx.there ga 0 (dgA D.1).size∧(D=O→(wx.setCells ga 0 (dgA D.1).toList).heap[ga]?=some (.cells (dgA O.1) 38 (0,0)))∧Below W.heap.size W (wx.setCells ga 0 (dgA D.1).toList)∧∀ k,k < w.heap.size→k ≠ ga→(wx.setCells ga 0 (dgA D.1).toList).heap[k]?=w.heap[k]? from by
  have hg:=(hbx.block ga HLT.out.2.2.1).trans HGA.out
  have hth:=there_block hg
  have hgr:=setCells_grown ga (dgA D.1).toList 0 wx
  refine ⟨by rw [dgA_size,D.2];rw [dgA_size,O.2] at hth;exact hth,fun e=>?_,(HB.out.trans (hbx.mono HB.out.size)).grown hgr (Nat.le_trans HB.out.size hbx.size) (fun k hk=>by rw [← Option.some.inj hk];have:=HN.out;omega),fun k hk hn=>(hgr.block k (Nat.lt_of_lt_of_le hk hbx.size) (fun e=>hn (Option.some.inj e))).trans (hbx.block k hk)⟩
  have:=setCells_all hg (dgA D.1).toList (by rw [Array.length_toList,dgA_size,dgA_size,D.2,O.2])
  rw [← e];simpa using this)
 have HSTB:=hid (fun (wx:World) (hbx:Below W.heap.size W wx) (hg:wx.heap[gb]?=some (.cells (dgA R.1) 38 (0,0))) (D:Dg)=>show wx.there gb 0 (dgA D.1).size∧(D=R→(wx.setCells gb 0 (dgA D.1).toList).heap[gb]?=some (.cells (dgA R.1) 38 (0,0)))∧Below W.heap.size W (wx.setCells gb 0 (dgA D.1).toList)∧∀ k,k < wx.heap.size→k ≠ gb→(wx.setCells gb 0 (dgA D.1).toList).heap[k]?=wx.heap[k]? from by
  have hth:=there_block hg
  have hgr:=setCells_grown gb (dgA D.1).toList 0 wx
  refine ⟨by rw [dgA_size,D.2];rw [dgA_size,R.2] at hth;exact hth,fun e=>?_,hbx.grown hgr hbx.size (fun k hk=>by rw [← Option.some.inj hk];have:=HN.out;omega),fun k hk hn=>hgr.block k hk (fun e=>hn (Option.some.inj e))⟩
  have:=setCells_all hg (dgA D.1).toList (by rw [Array.length_toList,dgA_size,dgA_size,D.2,R.2])
  rw [← e];simpa using this)
 by_cases c1:old=0∧0 < size
 · obtain ⟨rfl,c2⟩:=c1
   have b1:((0:Nat):Int)=0:=rfl
   have b2:decide ((0:Int) < (size:Int))=true:=by simp;omega
   have b3:decide ((size:Int) > (0:Int))=true:=by simp;omega
   have b4:decide (0 < size)=true:=by simp;omega
   have b5:(0 < size)=True:=by simp;omega
   have hO0:O=nothingD wd:=by rw [hO,List.take_zero];rfl
   have HNT:=hid (show Calls Tryz.prog 60 #[.int .i64 wd] w (fun e w'=>e=.returned (.agg (dgA O.1))∧Below w.heap.size w w') by
    rw [hO0]
    exact nothing_dg w wd (by omega) (by omega) (rt_below ht hb (by omega)) (by have:=hb.size;omega))
   clear hos hsl hs hds ht h4 hW h1 h2 h3 h5 hO hR hgo hgr hga hgb hlt hb hO0 c2
   refine wp_two_k (c:=dropSeq 4 ag0) ⟨_,_,rfl⟩ fun K hK=>?_
   have HK:=hid hK
   clear hK
   conv=>arg 2;whnf
   go_wp2_with (first
    | (go_at_call 60;refine HNT.out.mono ?_;rintro e w6 ⟨rfl,hb6⟩;have HB6:=hid hb6;clear hb6)
    | (refine wpList_store_mid rfl 38 (.tmp 13) (.tmp 46) (by rfl) ga 0 (dgA O.1) (by rfl) (by rfl) (HST.out w6 HB6.out O).1 (by rw [dgA_size,O.2];exact info38) (dgA_all _) ?_))
   obtain ⟨-,s2,s3,s4⟩:=HST.out w6 HB6.out O
   refine HK.out _ _ ?_
   clear HK K
   rw [dropSeq_succ]
   exact agree_end W _ ob rb ga gb O R ((s4 ob HLT.out.1 (by have:=HN.out;omega)).trans HGO.out) ((s4 rb HLT.out.2.1 (by have:=HN.out;omega)).trans HGR.out) (s2 rfl) ((s4 gb HLT.out.2.2.2 (by have:=HN.out;omega)).trans HGB.out) s3 _ _ _ _ _ _ _ _ _ _ _ _ _ _ _ _ _ _ _ _ _ _ _ _ _ _ _ _ _ _ _ _ _ _ _ _ _ _ _ _ _ _ _ _ _ _ _ _ _ _ _ _ _ _ _ _ _ _ _
 · by_cases c3:old=size
   · subst c3
     have hRO:R=O:=by rw [hR,hO]
     subst hRO
     have HLO:=hid (show ∀ wx,wx.heap[ob]?=w.heap[ob]?→(Instr.loadAt 38 (.pointer (some ⟨ob,0,none⟩))).run Tryz.prog wx=.ok (.agg (dgA R.1)) wx from fun wx hx=>load_dg wx ob _ (hx.trans HGO.out) (by rw [dgA_size,R.2]))
     have hgbw:=HSTB.out w HB.out HGB.out R
     have HG1:=hid hgbw
     by_cases c4:old=0
     · subst c4
       have hO0:R=nothingD wd:=by rw [hR,List.take_zero];rfl
       have HNT:=hid (fun wx (hbx:Below W.heap.size W wx)=>show Calls Tryz.prog 60 #[.int .i64 wd] wx (fun e w'=>e=.returned (.agg (dgA R.1))∧Below wx.heap.size wx w') by
        rw [hO0]
        exact nothing_dg wx wd (by omega) (by omega) (rt_below ht hbx (by omega)) (by have:=hbx.size;omega))
       have b2:decide ((0:Int) < (((0:Nat):Int)))=false:=by simp
       clear hos hsl hs hds ht h4 hW h1 h2 h3 h5 hO hR hgo hgr hga hgb hlt hb hO0 c1 hgbw
       obtain ⟨w5,hw5⟩:∃ w5,w5=w.setCells gb 0 (dgA R.1).toList:=⟨_,rfl⟩
       have hw5':=hw5.symm
       rw [← hw5] at HG1
       clear hw5
       refine wp_two_k (c:=dropSeq 4 ag0) ⟨_,_,rfl⟩ fun K hK=>?_
       have HK:=hid hK
       clear hK
       conv=>arg 2;whnf
       go_wp2_with (first
        | (refine wpList_load_row rfl 38 (.tmp 9) (by rfl) ob (by rfl) 38 (dgA R.1) (0,0) _ HGO.out Tryz.underlying38 rfl (by rw [dgA_size,R.2];exact info38) ?_)
        | (refine wpList_store_mid rfl 38 (.tmp 14) (.tmp 51) (by rfl) gb 0 (dgA R.1) (by rfl) (by rfl) HG1.out.1 (by rw [dgA_size,R.2];exact info38) (dgA_all _) ?_;(try rw [hw5']))
        | (go_at_call 60;refine (HNT.out w5 HG1.out.2.2.1).mono ?_;rintro e w6 ⟨rfl,hb6⟩;have HB6:=hid hb6;clear hb6)
        | (refine wpList_store_mid rfl 38 (.tmp 13) (.tmp 55) (by rfl) ga 0 (dgA R.1) (by rfl) (by rfl) (by
            have hsz:w5.heap.size=w.heap.size:=by rw [← hw5',setCells_size]
            have hg:=(HB6.out.block ga (by rw [hsz];exact HLT.out.2.2.1)).trans ((HG1.out.2.2.2 ga HLT.out.2.2.1 (by have:=HN.out;omega)).trans HGA.out)
            exact there_block hg) (by rw [dgA_size,R.2];exact info38) (dgA_all _) ?_))
       have hsz:w5.heap.size=w.heap.size:=by rw [← hw5',setCells_size]
       have hgr:=setCells_grown ga (dgA R.1).toList 0 w6
       have hk:∀ k,k < w.heap.size→k ≠ ga→k ≠ gb→(w6.setCells ga 0 (dgA R.1).toList).heap[k]?=w.heap[k]?:=fun k h1 h2 h3=>(hgr.block k (Nat.lt_of_lt_of_le (by rw [hsz];exact h1) HB6.out.size) (fun e=>h2 (Option.some.inj e))).trans ((HB6.out.block k (by rw [hsz];exact h1)).trans (HG1.out.2.2.2 k h1 h3))
       have hg:=(HB6.out.block ga (by rw [hsz];exact HLT.out.2.2.1)).trans ((HG1.out.2.2.2 ga HLT.out.2.2.1 (by have:=HN.out;omega)).trans HGA.out)
       have hga9:=setCells_all hg (dgA R.1).toList (by rw [Array.length_toList])
       have hgb9:(w6.setCells ga 0 (dgA R.1).toList).heap[gb]?=some (.cells (dgA R.1) 38 (0,0)):=(hgr.block gb (Nat.lt_of_lt_of_le (by rw [hsz];exact HLT.out.2.2.2) HB6.out.size) (fun e=>by have:=Option.some.inj e;have:=HN.out;omega)).trans ((HB6.out.block gb (by rw [hsz];exact HLT.out.2.2.2)).trans (HG1.out.2.1 (by trivial)))
       have hbz:Below W.heap.size W (w6.setCells ga 0 (dgA R.1).toList):=(HG1.out.2.2.1.trans (HB6.out.mono HG1.out.2.2.1.size)).grown hgr (Nat.le_trans HG1.out.2.2.1.size HB6.out.size) (fun k hk=>by rw [← Option.some.inj hk];have:=HN.out;omega)
       refine HK.out _ _ ?_
       clear HK K
       rw [dropSeq_succ]
       exact agree_end W _ ob rb ga gb R R ((hk ob HLT.out.1 (by have:=HN.out;omega) (by have:=HN.out;omega)).trans HGO.out) ((hk rb HLT.out.2.1 (by have:=HN.out;omega) (by have:=HN.out;omega)).trans HGR.out) (by simpa using hga9) hgb9 hbz _ _ _ _ _ _ _ _ _ _ _ _ _ _ _ _ _ _ _ _ _ _ _ _ _ _ _ _ _ _ _ _ _ _ _ _ _ _ _ _ _ _ _ _ _ _ _ _ _ _ _ _ _ _ _ _ _ _ _
     · have b1:((old:Int) == 0)=false:=by simp;omega
       clear hos hsl hs hds ht h4 hW h1 h2 h3 h5 hO hR hgo hgr hga hgb hlt hb c1 c4 hgbw
       refine wp_two_k (c:=dropSeq 4 ag0) ⟨_,_,rfl⟩ fun K hK=>?_
       have HK:=hid hK
       clear hK
       conv=>arg 2;whnf
       go_wp2_with (first
        | (refine wpList_load_row rfl 38 (.tmp 9) (by rfl) ob (by rfl) 38 (dgA R.1) (0,0) _ HGO.out Tryz.underlying38 rfl (by rw [dgA_size,R.2];exact info38) ?_)
        | (refine wpList_store_mid rfl 38 (.tmp 14) (.tmp 51) (by rfl) gb 0 (dgA R.1) (by rfl) (by rfl) HG1.out.1 (by rw [dgA_size,R.2];exact info38) (dgA_all _) ?_))
       refine HK.out _ _ ?_
       clear HK K
       rw [dropSeq_succ]
       exact agree_end W _ ob rb ga gb R R ((HG1.out.2.2.2 ob HLT.out.1 (by have:=HN.out;omega)).trans HGO.out) ((HG1.out.2.2.2 rb HLT.out.2.1 (by have:=HN.out;omega)).trans HGR.out) ((HG1.out.2.2.2 ga HLT.out.2.2.1 (by have:=HN.out;omega)).trans HGA.out) (HG1.out.2.1 (by trivial)) HG1.out.2.2.1 _ _ _ _ _ _ _ _ _ _ _ _ _ _ _ _ _ _ _ _ _ _ _ _ _ _ _ _ _ _ _ _ _ _ _ _ _ _ _ _ _ _ _ _ _ _ _ _ _ _ _ _ _ _ _ _ _ _ _
   · obtain ⟨lo,d0,e1,e2,e3⟩:=ahead_root wd L old size (by omega) (by omega) hsl (by omega)
     have hln:n=(partsP old size).length:=by have:=hds.1;rw [List.length_map] at this;exact this.symm
     have hah:=ahead_any w wd (by omega) (by omega) old size (by omega) (by omega) hs (rootP wd (L.take old)) a n c _ (RS.below hds hb) hln (rt_below ht hb (by omega)) (by have:=hb.size;omega) lo e1 d0 e2
     rw [e3,← hO,← hR] at hah
     have HAH:=hid hah
     have b1:((old:Int) == 0)=false:=by simp;omega
     have b2:((old:Int) == (size:Int))=false:=by simp;omega
     clear hos hsl hs hds ht h4 hW h1 h2 h3 h5 hO hR hgo hgr hga hgb hlt hb c1 c3 e1 e2 e3 hln hah
     refine wp_two_k (c:=dropSeq 4 ag0) ⟨_,_,rfl⟩ fun K hK=>?_
     have HK:=hid hK
     clear hK
     conv=>arg 2;whnf
     go_wp2_with (first
      | (refine wpList_load_row rfl 38 (.tmp 9) (by rfl) ob (by rfl) 38 (dgA O.1) (0,0) _ HGO.out Tryz.underlying38 rfl (by rw [dgA_size,O.2];exact info38) ?_)
      | (go_at_call 148;refine HAH.out.mono ?_;rintro e w6 ⟨v6,rfl,hb6⟩;have HB6:=hid hb6;clear hb6)
      | (refine wpList_store_mid rfl 38 (.tmp 13) (.tmp 35) (by rfl) ga 0 (dgA O.1) (by rfl) (by rfl) (HST.out w6 HB6.out O).1 (by rw [dgA_size,O.2];exact info38) (dgA_all _) ?_)
      | (refine wpList_store_mid rfl 38 (.tmp 14) (.tmp 36) (by rfl) gb 0 (dgA R.1) (by rfl) (by rfl) (HSTB.out _ (HST.out w6 HB6.out O).2.2.1 (((HST.out w6 HB6.out O).2.2.2 gb HLT.out.2.2.2 (by have:=HN.out;omega)).trans HGB.out) R).1 (by rw [dgA_size,R.2];exact info38) (dgA_all _) ?_))
     obtain ⟨-,s2,s3,s4⟩:=HST.out w6 HB6.out O
     obtain ⟨-,t2,t3,t4⟩:=HSTB.out _ s3 ((s4 gb HLT.out.2.2.2 (by have:=HN.out;omega)).trans HGB.out) R
     have hsz:w.heap.size≤(w6.setCells ga 0 (dgA O.1).toList).heap.size:=by rw [setCells_size];exact HB6.out.size
     refine HK.out _ _ ?_
     clear HK K
     rw [dropSeq_succ]
     exact agree_end W _ ob rb ga gb O R ((t4 ob (Nat.lt_of_lt_of_le HLT.out.1 hsz) (by have:=HN.out;omega)).trans ((s4 ob HLT.out.1 (by have:=HN.out;omega)).trans HGO.out)) ((t4 rb (Nat.lt_of_lt_of_le HLT.out.2.1 hsz) (by have:=HN.out;omega)).trans ((s4 rb HLT.out.2.1 (by have:=HN.out;omega)).trans HGR.out)) ((t4 ga (Nat.lt_of_lt_of_le HLT.out.2.2.1 hsz) (by have:=HN.out;omega)).trans (s2 rfl)) (t2 rfl) t3 _ _ _ _ _ _ _ _ _ _ _ _ _ _ _ _ _ _ _ _ _ _ _ _ _ _ _ _ _ _ _ _ _ _ _ _ _ _ _ _ _ _ _ _ _ _ _ _ _ _ _ _ _ _ _ _ _ _ _
end
section
open Go.Maps Go.WideMaps Go.ChangeMaps
set_option maxHeartbeats 16000000
theorem agree_any (W:World) (wd:Int) (hwd:1≤wd∧wd≤32) (L:List Dg) (old size:Nat) (hos:old≤size) (hsl:size≤L.length) (hs:size≤60000) (a:Option Addr) (n c:Nat) (hds:DS W a n c ((partsP old size).map (partD wd L))) (ht:RoundTab W) (h4:4≤W.heap.size) :
 Calls Tryz.prog 81 #[.int .i64 wd,.int .i64 (old:Int),.int .i64 (size:Int),.agg (dgA (rootP wd (L.take old)).1),.agg (dgA (rootP wd (L.take size)).1),.slice a n c] W (AgRet W):=by
 have hln:n=(partsP old size).length:=by have:=hds.1;rw [List.length_map] at this;exact this.symm
 obtain ⟨O,hO⟩:∃ O,O=dgA (rootP wd (L.take old)).1:=⟨_,rfl⟩
 have hOS:O.size=32:=by rw [hO,dgA_size,(rootP wd (L.take old)).2]
 obtain ⟨R,hR⟩:∃ R,R=dgA (rootP wd (L.take size)).1:=⟨_,rfl⟩
 have hRS:R.size=32:=by rw [hR,dgA_size,(rootP wd (L.take size)).2]
 obtain ⟨ob,hob⟩:∃ ob,ob=W.heap.size:=⟨_,rfl⟩
 obtain ⟨rb,hrb⟩:∃ rb,rb=ob+1:=⟨_,rfl⟩
 obtain ⟨w0,hw0⟩:∃ w0,w0=W.alloc (.cells O 38):=⟨_,rfl⟩
 obtain ⟨w1,hw1⟩:∃ w1,w1=w0.alloc (.cells R 38):=⟨_,rfl⟩
 have hb0:Below W.heap.size W w0:=by rw [hw0];exact bel1 _ _
 have hz0:w0.heap.size=rb:=by rw [hw0,World.size_alloc];omega
 have hb1:Below W.heap.size W w1:=by rw [hw1];exact hb0.alloc hb0.size _
 have hz1:w1.heap.size=rb+1:=by rw [hw1,World.size_alloc];omega
 have hgo:w1.heap[ob]?=some (.cells O 38 (0,0)):=by rw [hw1];exact (alOlC w0 _ ob (by omega)).trans (by rw [hw0,hob];exact heap_alloc_new _ _)
 have hgr:w1.heap[rb]?=some (.cells R 38 (0,0)):=by rw [hw1,← hz0];exact heap_alloc_new _ _
 have HSZ:=hid (fun wx=>sizes_any wx old size hos (by omega))
 have HPT:=hid (fun wx=>show Calls Tryz.prog 147 #[.int .i64 (old:Int),.int .i64 (size:Int)] wx (fun e w'=>∃ av c3,e=.returned (.slice av n c3)∧Below wx.heap.size wx w') by
  refine (parts_any wx old size hos (by omega)).mono ?_
  rintro e w' ⟨v,rfl,hp,hb⟩
  unfold PO at hp
  rw [← hln] at hp
  obtain ⟨av,c3,rfl,-⟩:=owns_shape hp
  exact ⟨av,c3,rfl,hb⟩)
 have HH:=hid (And.intro hwd (And.intro hos (And.intro hsl (And.intro hs (And.intro ht h4)))))
 have HDS:=hid hds;have HB1:=hid hb1;have HGO1:=hid hgo;have HGR1:=hid hgr;have HOS:=hid hOS;have HRS:=hid hRS
 have HO1:=hid (show O.all (·.oneCell')=true by rw [hO];exact dgA_all _)
 have HR1:=hid (show R.all (·.oneCell')=true by rw [hR];exact dgA_all _)
 have HO:=hid hO;have HRR:=hid hR
 have HR:=hid (show rb=ob+1∧ob=W.heap.size∧w1.heap.size=rb+1 by omega)
 have hn6:n≤60000:=by have:=parts_len hos (show size≤1000000 by omega);omega
 have hnn:((n:Int) != (n:Int))=false:=by simp
 have hw0':W.alloc (.cells O 38)=w0:=hw0.symm
 have hw1':w0.alloc (.cells R 38)=w1:=hw1.symm
 have hz0':w0.heap.size=rb:=hz0
 have hob':W.heap.size=ob:=hob.symm
 rw [← hO,← hR]
 clear hwd hos hsl hs hds ht h4 hln hO hOS hR hRS hob hrb hw0 hw1 hb0 hz0 hb1 hz1 hgo hgr
 go_enter Tryz.func81,Tryz.ntmps81
 refine wp_two_k (c:=ag0) ⟨_,_,rfl⟩ fun K hK=>?_
 have HK:=hid hK
 clear hK
 conv=>arg 2;whnf
 go_wp2_with fail
 refine HK.out _ _ ?_
 clear HK K
 have HW:=hid hob'
 clear hw0' hw1' hz0' hob'
 refine wp_two_k (c:=dropSeq 1 ag0) ⟨_,_,rfl⟩ fun K hK=>?_
 have HK:=hid hK
 clear hK
 conv=>arg 2;whnf
 go_wp2_with (go_at_call 145;refine (HSZ.out _).mono ?_;rintro e wx ⟨rfl,hw⟩;have hw:=hw.symm;subst hw)
 refine HK.out _ _ ?_
 clear HK K
 rw [dropSeq_succ]
 refine wp_two_k (c:=dropSeq 2 ag0) ⟨_,_,rfl⟩ fun K hK=>?_
 have HK:=hid hK
 clear hK
 conv=>arg 2;whnf
 go_wp2_with (go_at_call 147;refine (HPT.out _).mono ?_;rintro e w5 ⟨av,c3,rfl,hb3⟩;have HB15:=hid hb3;clear hb3)
 refine HK.out _ _ ?_
 clear HK K
 rw [dropSeq_succ]
 clear hnn
 have HB5:=hid (show Below W.heap.size W w5 from HB1.out.trans (HB15.out.mono HB1.out.size))
 have HGO5:=hid ((HB15.out.block ob (by have:=HR.out;omega)).trans HGO1.out)
 have HGR5:=hid ((HB15.out.block rb (by have:=HR.out;omega)).trans HGR1.out)
 have HSZ5:=hid (show rb < w5.heap.size by have:=HB15.out.size;have:=HR.out;omega)
 obtain ⟨gA,hgA⟩:∃ gA,gA=w5.heap.size:=⟨_,rfl⟩
 obtain ⟨gB,hgB⟩:∃ gB,gB=gA+1:=⟨_,rfl⟩
 obtain ⟨w6,hw6⟩:∃ w6,w6=w5.alloc (.cells (dgA zDg.1) 38):=⟨_,rfl⟩
 obtain ⟨w7,hw7⟩:∃ w7,w7=w6.alloc (.cells (dgA zDg.1) 38):=⟨_,rfl⟩
 have hz6:w6.heap.size=gB:=by rw [hw6,World.size_alloc];omega
 have hz7:w7.heap.size=gB+1:=by rw [hw7,World.size_alloc];omega
 have HA7:=hid (show w7.heap[gA]?=some (.cells (dgA zDg.1) 38 (0,0)) by rw [hw7];refine (alOlC w6 _ gA (by omega)).trans ?_;rw [hw6,hgA];exact heap_alloc_new _ _)
 have HB7:=hid (show w7.heap[gB]?=some (.cells (dgA zDg.1) 38 (0,0)) by rw [hw7,← hz6];exact heap_alloc_new _ _)
 have HB57:=hid (show Below w5.heap.size w5 w7 by rw [hw7,hw6];exact (bel1 _ _).alloc (by simp) _)
 have HB56:=hid (show Below w5.heap.size w5 w6 by rw [hw6];exact bel1 _ _)
 have HZ7:=hid (show w5.heap.size=gA∧gB=gA+1∧w7.heap.size=gB+1 by omega)
 have HX6:=hid (show ∀ (ρ:Operand→Value) (o:Oper),o.op=.alloc 38→(execOp ρ o).run Tryz.prog w5.drew=.ok (.value (.pointer (some ⟨gA,0,none⟩))) w6.drew from fun ρ o ho=>by rw [exec_alloc38 ho,hgA,hw6];rfl)
 have HX7:=hid (show ∀ (ρ:Operand→Value) (o:Oper),o.op=.alloc 38→(execOp ρ o).run Tryz.prog w6.drew=.ok (.value (.pointer (some ⟨gB,0,none⟩))) w7.drew from fun ρ o ho=>by rw [exec_alloc38 ho,← hz6,hw7];rfl)
 have HS5:=hid (fun (x:World) (hx:∀ j,j < w5.heap.size→x.heap[j]?=w5.heap[j]?)=>show (fun x=>(Instr.loadAt 38 (.pointer (some ⟨ob,0,none⟩))).run Tryz.prog x=.ok (.agg O) x∧(Instr.loadAt 38 (.pointer (some ⟨rb,0,none⟩))).run Tryz.prog x=.ok (.agg R) x) x from ⟨load_dg x ob O ((hx ob (Array.getElem?_eq_some_iff.1 HGO5.out).1).trans HGO5.out) HOS.out,load_dg x rb R ((hx rb (Array.getElem?_eq_some_iff.1 HGR5.out).1).trans HGR5.out) HRS.out⟩)
 have hs5:(fun x=>(Instr.loadAt 38 (.pointer (some ⟨ob,0,none⟩))).run Tryz.prog x=.ok (.agg O) x∧(Instr.loadAt 38 (.pointer (some ⟨rb,0,none⟩))).run Tryz.prog x=.ok (.agg R) x) w5.drew:=HS5.out _ (fun _ _=>rfl)
 have hs6:(fun x=>(Instr.loadAt 38 (.pointer (some ⟨ob,0,none⟩))).run Tryz.prog x=.ok (.agg O) x∧(Instr.loadAt 38 (.pointer (some ⟨rb,0,none⟩))).run Tryz.prog x=.ok (.agg R) x) w6.drew:=HS5.out _ HB56.out.block
 have hs7:(fun x=>(Instr.loadAt 38 (.pointer (some ⟨ob,0,none⟩))).run Tryz.prog x=.ok (.agg O) x∧(Instr.loadAt 38 (.pointer (some ⟨rb,0,none⟩))).run Tryz.prog x=.ok (.agg R) x) w7.drew:=HS5.out _ HB57.out.block
 clear hgA hgB hw6 hw7 hz6 hz7
 refine wp_two_k (c:=dropSeq 3 ag0) ⟨_,_,rfl⟩ fun K hK=>?_
 have HK:=hid hK
 clear hK
 conv=>arg 2;whnf
 go_upto_region 5 with (fail)
 refine wp_region_held_drew (S:=fun x=>(Instr.loadAt 38 (.pointer (some ⟨ob,0,none⟩))).run Tryz.prog x=.ok (.agg O) x∧(Instr.loadAt 38 (.pointer (some ⟨rb,0,none⟩))).run Tryz.prog x=.ok (.agg R) x) (by kernel_rfl) hs5 (fun hHeld=>?_)
 apply wpL 0 (.agg O)
 · exact fun w hSw=>exec_load rfl (hSw.1)
 apply wpL 1 (.agg R)
 · exact fun w hSw=>exec_load rfl (hSw.2)
 refine wpAnyH_ready (rs:=[2,3]) (by kernel_rfl) (by simp) ?_
 refine AllReadyH.cons (o:=_) rfl (fun K hK=>?_) (AllReadyH.cons (o:=_) rfl (fun K hK=>?_) AllReadyH.nil)
 refine S_value rfl (HX6.out _ _ rfl) ?_
 apply bk hK
 · exact hs6
 intro hHeld
 clear hK K
 apply wpR 3
 intro K hK
 refine S_value rfl (HX7.out _ _ rfl) ?_
 apply bk hK
 · exact hs7
 intro hHeld
 clear hK K
 obtain ⟨ga,h16⟩:∃ ga,ga=gA:=⟨_,rfl⟩
 obtain ⟨gb,h17⟩:∃ gb,gb=gB:=⟨_,rfl⟩
 rw [← h16,← h17]
 have HP:=hid (show (ga=gA∧gb=gB)∨(ga=gB∧gb=gA) from .inl ⟨h16,h17⟩)
 clear h16 h17
 rotate_left
 refine S_value rfl (HX6.out _ _ rfl) ?_
 apply bk hK
 · exact hs6
 intro hHeld
 clear hK K
 apply wpR 2
 intro K hK
 refine S_value rfl (HX7.out _ _ rfl) ?_
 apply bk hK
 · exact hs7
 intro hHeld
 clear hK K
 obtain ⟨ga,h16⟩:∃ ga,ga=gB:=⟨_,rfl⟩
 obtain ⟨gb,h17⟩:∃ gb,gb=gA:=⟨_,rfl⟩
 rw [← h16,← h17]
 have HP:=hid (show (ga=gA∧gb=gB)∨(ga=gB∧gb=gA) from .inr ⟨h16,h17⟩)
 clear h16 h17
 all_goals
  have h67:ga ≠ gb∧gA≤ga∧gA≤gb∧ga < w7.heap.size∧gb < w7.heap.size:=by
   have:=HZ7.out
   rcases HP.out with ⟨e1,e2⟩ | ⟨e1,e2⟩ <;> (subst e1;subst e2;omega)
  have hg6:w7.heap[ga]?=some (.cells (dgA zDg.1) 38 (0,0)):=by
   rcases HP.out with ⟨e1,e2⟩ | ⟨e1,e2⟩
   · rw [e1];exact HA7.out
   · rw [e1];exact HB7.out
  have hg7:w7.heap[gb]?=some (.cells (dgA zDg.1) 38 (0,0)):=by
   rcases HP.out with ⟨e1,e2⟩ | ⟨e1,e2⟩
   · rw [e2];exact HB7.out
   · rw [e2];exact HA7.out
  have HN67:=hid h67
  have hth6:=there_block (show w7.drew.heap[ga]?=some (.cells (dgA zDg.1) 38 (0,0)) from hg6)
  rw [show (dgA zDg.1).size=32 from rfl] at hth6
  have hgr8:=setCells_grown ga O.toList 0 w7.drew
  have hk8:∀ j,j < w5.heap.size→(w7.drew.setCells ga 0 O.toList).heap[j]?=w5.heap[j]?:=fun j hj=>(hgr8.block j (by have:=HZ7.out;show j < w7.heap.size;omega) (fun e=>by have:=Option.some.inj e;have:=HZ7.out;omega)).trans (HB57.out.block j hj)
  have hs8:(fun x=>(Instr.loadAt 38 (.pointer (some ⟨ob,0,none⟩))).run Tryz.prog x=.ok (.agg O) x∧(Instr.loadAt 38 (.pointer (some ⟨rb,0,none⟩))).run Tryz.prog x=.ok (.agg R) x) (w7.drew.setCells ga 0 O.toList):=HS5.out _ hk8
  have hg68:=setCells_all (show w7.drew.heap[ga]?=some (.cells (dgA zDg.1) 38 (0,0)) from hg6) O.toList (by rw [Array.length_toList,HOS.out];rfl)
  have hg78:=(hgr8.block gb h67.2.2.2.2 (fun e=>h67.1 (Option.some.inj e).symm)).trans (show w7.drew.heap[gb]?=some (.cells (dgA zDg.1) 38 (0,0)) from hg7)
  have hth8:=there_block hg78
  rw [show (dgA zDg.1).size=32 from rfl] at hth8
  have hgr9:=setCells_grown gb R.toList 0 (w7.drew.setCells ga 0 O.toList)
  have hz8:(w7.drew.setCells ga 0 O.toList).heap.size=w7.heap.size:=setCells_size _ _ _ _
  have hk9:∀ j,j < w5.heap.size→((w7.drew.setCells ga 0 O.toList).setCells gb 0 R.toList).heap[j]?=w5.heap[j]?:=fun j hj=>(hgr9.block j (by have:=HZ7.out;rw [hz8];omega) (fun e=>by have:=Option.some.inj e;have:=HZ7.out;omega)).trans (hk8 j hj)
  have hs9:(fun x=>(Instr.loadAt 38 (.pointer (some ⟨ob,0,none⟩))).run Tryz.prog x=.ok (.agg O) x∧(Instr.loadAt 38 (.pointer (some ⟨rb,0,none⟩))).run Tryz.prog x=.ok (.agg R) x) ((w7.drew.setCells ga 0 O.toList).setCells gb 0 R.toList):=HS5.out _ hk9
  have HG16:=hid (show ((w7.drew.setCells ga 0 O.toList).setCells gb 0 R.toList).heap[ga]?=some (.cells O 38 (0,0)) from (hgr9.block ga (by rw [hz8];exact h67.2.2.2.1) (fun e=>h67.1 (Option.some.inj e))).trans (by simpa using hg68))
  have HG17:=hid (show ((w7.drew.setCells ga 0 O.toList).setCells gb 0 R.toList).heap[gb]?=some (.cells R 38 (0,0)) by simpa using setCells_all hg78 R.toList (by rw [Array.length_toList,HRS.out];rfl))
  have HB59:=hid (show Below w5.heap.size w5 ((w7.drew.setCells ga 0 O.toList).setCells gb 0 R.toList) from ⟨hgr9.os.trans (hgr8.os.trans HB57.out.os),hgr9.tape.trans (hgr8.tape.trans HB57.out.tape),hgr9.output.trans (hgr8.output.trans HB57.out.output),by rw [setCells_size,hz8];have:=HZ7.out;omega,hk9⟩)
  have HTH6:=hid hth6;have HTH8:=hid hth8
  clear h67 hg6 hg7 hth6 hgr8 hk8 hg68 hg78 hth8 hgr9 hz8 hk9
  apply wpR 4
  intro K hK
  refine S_store_mid rfl 38 (.tmp 13) (.tmp 26) (by rfl) ga 0 O (by rfl) (by rfl) (by rw [HOS.out];exact HTH6.out) (by rw [HOS.out];exact info38) HO1.out ?_
  apply bk hK
  · exact hs8
  intro hHeld
  clear hK K
  apply wpR 5
  intro K hK
  refine S_store_mid rfl 38 (.tmp 14) (.tmp 27) (by rfl) gb 0 R (by rfl) (by rfl) (by rw [HRS.out];exact HTH8.out) (by rw [HRS.out];exact info38) HR1.out ?_
  apply bk hK
  · exact hs9
  intro hHeld
  clear hK K
  refine wpAnyH_done (by kernel_rfl) ?_ _
  clear hs5 hs6 hs7 hs8 hs9
  generalize (w7.drew.setCells ga 0 O.toList).setCells gb 0 R.toList=w9 at *
  clear HTH6 HTH8
  go_wp2_with fail
  refine HK.out _ _ ?_
  clear HK K
  rw [dropSeq_succ]
  have h1:=HN67.out;have h2:=HZ7.out;have h3:=HR.out;have h6:=HSZ5.out
  exact agree_mid W w9 wd HH.out.1 L old size HH.out.2.1 HH.out.2.2.1 HH.out.2.2.2.1 a n c HDS.out HH.out.2.2.2.2.1 HH.out.2.2.2.2.2 ob rb ga gb (by omega) (by omega) (by omega) (by omega) h1.1 (by rw [← HO.out];exact (HB59.out.block ob (by omega)).trans HGO5.out) (by rw [← HRR.out];exact (HB59.out.block rb (by omega)).trans HGR5.out) (by rw [← HO.out];exact HG16.out) (by rw [← HRR.out];exact HG17.out) (HB5.out.trans (HB59.out.mono HB5.out.size)) _ _ _ _ _ _ _ _ _ _ _ _ _ _ _ _ _ _ _ _ _ _ _ _ _ _ _ _ _ _ _ _ _ _ _ _ _ _ _ _ _ _ _ _ _ _ _ _ _ _ _ _ _ _ _
end
section
open Go.Maps Go.WideMaps Go.ChangeMaps
set_option maxHeartbeats 8000000
theorem at76 (w:World) (g7 g8:Nat) (wd:Int) (hwd:1≤wd∧wd≤32) (a:Option Addr) (n c:Nat) (L:List Dg) (hds:DS w a n c L) (hn:n≤60000) (h7:w.heap[g7]?=some (.cells #[.int .i64 wd] 3 (0,0))) (h8:w.heap[g8]?=some (.cells #[.slice a n c] 23 (0,0))) (q i:Nat) (hq:q < 16) (hi:(i+1) * 2 ^ q≤L.length) (ht:RoundTab w) (h4:4≤w.heap.size) :
 Calls Tryz.prog 76 #[.agg #[.int .i64 (q:Int),.int .i64 (i:Int)],.pointer (some ⟨g7,0,none⟩),.pointer (some ⟨g8,0,none⟩)] w fun e w'=>e=.returned (.agg (dgA (spotD wd L (q,i)).1))∧Below w.heap.size w w':=by
 have hln:=hds.1
 have hcap:=hds.2.1
 obtain ⟨p,hp⟩:∃ p,p=2 ^ q:=⟨_,rfl⟩
 obtain ⟨fr,hfr⟩:∃ fr,fr=i * p:=⟨_,rfl⟩
 obtain ⟨e,he⟩:∃ e,e=(i+1) * p:=⟨_,rfl⟩
 have hp1:1≤p:=by rw [hp];exact Nat.pow_pos (by decide)
 have hep:e=fr+p:=by rw [he,hfr,Nat.add_mul,Nat.one_mul]
 rw [← hp,← he] at hi
 have hip:i≤fr:=by rw [hfr];exact Nat.le_mul_of_pos_right i hp1
 obtain ⟨E,hE⟩:∃ E,E=dgA (spotD wd L (q,i)).1:=⟨_,rfl⟩
 have HES:=hid (show E.size=32 by rw [hE,dgA_size,(spotD wd L (q,i)).2])
 have HE1:=hid (show E.all (·.oneCell')=true by rw [hE];exact dgA_all _)
 have hE2:E=dgA (rootP wd ((L.drop fr).take p)).1:=by rw [hE,hfr,hp];rfl
 obtain ⟨b3,hb3⟩:∃ b3,b3=w.heap.size:=⟨_,rfl⟩
 obtain ⟨rb,hrb⟩:∃ rb,rb=b3+1:=⟨_,rfl⟩
 obtain ⟨w1,hw1⟩:∃ w1,w1=w.alloc (.cells #[.int .i64 (q:Int),.int .i64 (i:Int)] 133):=⟨_,rfl⟩
 obtain ⟨w2,hw2⟩:∃ w2,w2=w1.alloc (.cells (dgA zDg.1) 38):=⟨_,rfl⟩
 have hb1:Below w.heap.size w w1:=by rw [hw1];exact bel1 _ _
 have hz1:w1.heap.size=rb:=by rw [hw1,World.size_alloc];omega
 have hb2:Below w.heap.size w w2:=by rw [hw2];exact hb1.alloc (by omega) _
 have hx3:w2.heap[b3]?=some (.cells #[.int .i64 (q:Int),.int .i64 (i:Int)] 133 (0,0)):=by rw [hw2,alOld _ _ _ (by omega),hw1,hb3];exact heap_alloc_new _ _
 have hx0:w2.heap[rb]?=some (.cells (dgA zDg.1) 38 (0,0)):=by rw [hw2,← hz1];exact heap_alloc_new _ _
 have h72:=(hb2.block g7 (Array.getElem?_eq_some_iff.1 h7).1).trans h7
 have h82:=(hb2.block g8 (Array.getElem?_eq_some_iff.1 h8).1).trans h8
 have c7:w2.cell? ⟨g7,0,none⟩=some (.int .i64 wd):=by rw [cell_of_row _ _ _ _ _ _ h72];rfl
 have c8:w2.cell? ⟨g8,0,none⟩=some (.slice a n c):=by rw [cell_of_row _ _ _ _ _ _ h82];rfl
 have k0:w2.cell? ⟨b3,0,none⟩=some (.int .i64 (q:Int)):=by rw [cell_of_row _ _ _ _ _ _ hx3];rfl
 have k1:w2.cell? ⟨b3,1,none⟩=some (.int .i64 (i:Int)):=by rw [cell_of_row _ _ _ _ _ _ hx3];rfl
 have hpI:(2:Int) ^ q=(p:Int):=by rw [hp];push_cast;rfl
 have hsl:=fun wx=>slice_midD wx a n c fr e (by omega) (by omega)
 have hep2:e - fr=p:=by omega
 rw [hep2] at hsl
 have hds2:DS w2.drew a n c L:=(show DS w2 a n c L from hds.below hb2)
 have HRT:=hid (show Calls Tryz.prog 77 #[.int .i64 wd,.slice (dropD a fr c) p (c - fr)] w2.drew (fun e w'=>e=.returned (.agg E)∧Below w2.drew.heap.size w2.drew w') from hE2 ▸ root_any w2.drew wd (by omega) (by omega) (dropD a fr c) p (c - fr) ((L.drop fr).take p) ((hds2.drop fr (by omega)).take p (by omega)) (by omega) (rt_below ht (show Below w.heap.size w w2.drew from ⟨hb2.os,hb2.tape,hb2.output,hb2.size,hb2.block⟩) (by omega)) (by show 3 < w2.heap.size;have:=hb2.size;omega))
 have hi6:i≤60000:=by omega
 have HX0:=hid hx0;have HB2:=hid hb2;have HB3:=hid hb3;have HRB:=hid hrb
 have hw1':w.alloc (.cells #[.int .i64 (q:Int),.int .i64 (i:Int)] 133)=w1:=hw1.symm
 have hw2':w1.alloc (.cells #[.int .u8 0,.int .u8 0,.int .u8 0,.int .u8 0,.int .u8 0,.int .u8 0,.int .u8 0,.int .u8 0,.int .u8 0,.int .u8 0,.int .u8 0,.int .u8 0,.int .u8 0,.int .u8 0,.int .u8 0,.int .u8 0,.int .u8 0,.int .u8 0,.int .u8 0,.int .u8 0,.int .u8 0,.int .u8 0,.int .u8 0,.int .u8 0,.int .u8 0,.int .u8 0,.int .u8 0,.int .u8 0,.int .u8 0,.int .u8 0,.int .u8 0,.int .u8 0] 38)=w2:=hw2.symm
 have hb3':w.heap.size=b3:=hb3.symm
 have hz1':w1.heap.size=rb:=hz1
 have hfr6:fr≤60000∧e≤60000:=by omega
 have u1:IntKind.u64.wrap (q:Int)=(q:Int):=by simp [IntKind.wrap,IntKind.bits,IntKind.signed];omega
 have u2:IntKind.i64.wrap ((i:Int)+1)=(i:Int)+1:=IntWalk.i64_in _ (by omega)
 have u3:min q 64=q:=by omega
 have u4:min ((q:Int).toNat) 64=q:=by omega
 have s1:IntKind.i64.wrap ((i:Int) * 2 ^ q)=(fr:Int):=by
  have:(i:Int) * 2 ^ q=(fr:Int):=by rw [hpI,hfr];push_cast;rfl
  rw [this];exact IntWalk.i64_in _ (by have:=hfr6;omega)
 have s2:IntKind.i64.wrap (((i:Int)+1) * 2 ^ q)=(e:Int):=by
  have:((i:Int)+1) * 2 ^ q=(e:Int):=by rw [hpI,he];push_cast;rfl
  rw [this];exact IntWalk.i64_in _ (by have:=hfr6;omega)
 have s3:wrap64 ((i:Int) * 2 ^ q)=(fr:Int):=by
  have:(i:Int) * 2 ^ q=(fr:Int):=by rw [hpI,hfr];push_cast;rfl
  rw [this];exact wrap64_small (by have:=hfr6;omega) (by have:=hfr6;omega)
 have s4:wrap64 (((i:Int)+1) * 2 ^ q)=(e:Int):=by
  have:((i:Int)+1) * 2 ^ q=(e:Int):=by rw [hpI,he];push_cast;rfl
  rw [this];exact wrap64_small (by have:=hfr6;omega) (by have:=hfr6;omega)
 rw [← hE]
 clear hfr6 hds hn h7 h8 hi ht h4 hln hcap hp hfr he hp1 hep hip hE hE2 hb3 hrb hw1 hw2 hb1 hz1 hb2 hx3 hx0 h72 h82 hpI hds2 hep2
 go_enter Tryz.func76,Tryz.ntmps76
 go_wp2_with fail
 clear hw1' hw2' hb3' hz1'
 go_still_tail 16,(by kernel_rfl)
 change wpList _ _ _ _ _ w2.drew
 clear u1 u2 u3 u4 s1 s2 s3 s4 hsl c7 c8 k0 k1
 have HX0D:=hid (show w2.drew.heap[rb]?=some (.cells (dgA zDg.1) 38 (0,0)) from HX0.out)
 have HBD:=hid (show Below w.heap.size w w2.drew from ⟨HB2.out.os,HB2.out.tape,HB2.out.output,HB2.out.size,HB2.out.block⟩)
 go_wp2_with (first
  | (go_at_call 77;refine HRT.out.mono ?_;rintro e w6 ⟨rfl,hb6⟩;have hg6:=(hb6.block rb (Array.getElem?_eq_some_iff.1 HX0D.out).1).trans HX0D.out;have HG6:=hid hg6;have HTH:=hid (there_block hg6);have HGF:=hid (setCells_all hg6 E.toList (by rw [Array.length_toList,HES.out];rfl));have HB6:=hid (HBD.out.trans (hb6.mono HBD.out.size));clear hg6 hb6)
  | (refine wpList_store_mid rfl 38 (.tmp 4) (.tmp 21) (by rfl) rb 0 E (by rfl) (by rfl) (by rw [HES.out];exact HTH.out) (by rw [HES.out];exact info38) HE1.out ?_))
 have HB9:=hid (HB6.out.grown (setCells_grown rb E.toList 0 w6) HB6.out.size (fun k hk=>by rw [← Option.some.inj hk];have:=HRB.out;have:=HB3.out;omega))
 generalize w6.setCells rb 0 E.toList=w9 at *
 have hGF:w9.heap[rb]?=some (.cells E 38 (0,0)):=by have:=HGF.out;simpa using this
 have HGF9:=hid hGF
 refine bodyPost_ret (v:=.agg E) (results_cell_row (p:=4) (ty:=38) rfl _ _ rb 38 E (0,0) _ rfl HGF9.out Tryz.underlying38 rfl (by rw [HES.out];exact info38)) rfl ⟨rfl,HB9.out⟩
end
end Go.Proofs.YtgkehahklccacaaGreatDoor
