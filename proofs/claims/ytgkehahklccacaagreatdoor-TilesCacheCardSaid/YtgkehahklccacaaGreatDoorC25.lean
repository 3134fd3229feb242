import Derived.Test.YtgkehahklccacaaGreatDoorC24
import Derived.Test.YtgkehahklccacaaGreatDoorC02
namespace Go.Proofs.YtgkehahklccacaaGreatDoor
open Go Go.RowKit
open Go.Lib (hid)
set_option maxRecDepth 100000
set_option maxHeartbeats 1000000
set_option linter.unusedVariables false
set_option linter.unusedSimpArgs false
section
open Go.Maps Go.WideMaps Go.ChangeMaps
def RowRet (w:World) (n:Nat) (e:Ending) (w':World):Prop:=∃ (g:Nat) (l:List Dg),e=.returned (.slice (some ⟨g,0,none⟩) n n)∧w.heap.size≤g∧l.length=n∧DS w' (some ⟨g,0,none⟩) n n l∧g < w'.heap.size∧Below w.heap.size w w'
set_option maxHeartbeats 4000000
theorem row_any (w:World) (x:Int) (n:Nat) (hn:n≤60000) :
 Calls Tryz.prog 9 #[.int .i64 x,.int .i64 (n:Int)] w (RowRet w n):=by
 have HN:=hid hn
 go_enter Tryz.func9,Tryz.ntmps9
 go_upto_region 2 with (refine L_make rfl (.tmp 7) (.tmp 7) 23 (by rfl) sl23 w.heap.size .i64 .i64 n n (by rfl) (by rfl) rfl (by omega) (by unfold maxLen;omega) (Nat.le_refl _) (fun w3 ho3 hg3=>?_))
 obtain ⟨gl,hgle⟩:∃ gl,gl=w.heap.size:=⟨_,rfl⟩
 rw [← hgle] at ho3 ⊢
 obtain ⟨-,hx⟩:=ho3
 have hcur:∃ (l:List Dg) (rst:List Value),l.length=0∧rst.length=32 * (n - 0)∧w3.heap[gl]?=some (.cells (l.flatMap dgE++rst).toArray 38 (0,0)):=by
  rcases hx with ⟨hv,-⟩ | ⟨g,cap,cur,hv,-,hc,-,-,hs,-⟩
  · cases hv
  · have:=Value.slice.inj hv
    have e1:=this.1
    have e3:=this.2.2
    cases e1
    subst e3
    exact ⟨[],cur.toList,rfl,by simp at hs ⊢;omega,by simpa using hc⟩
 have hb3:Below w.heap.size w w3:=(Below.refl _ _).grown hg3 (Nat.le_refl _) (by intro k hk;cases hk)
 have HCUR:=hid hcur
 have HB3:=hid hb3
 have HGL:=hid hgle
 clear hx hcur hb3 hgle hg3 hn
 go_wp2_with fail
 go_loopw [6] (fun v wr=>∃ k:Nat,k≤n∧v=.int .i64 k∧(∃ (l:List Dg) (rst:List Value),l.length=k∧rst.length=32 * (n - k)∧wr.heap[gl]?=some (.cells (l.flatMap dgE++rst).toArray 38 (0,0)))∧Below w.heap.size w wr) (fun v _=>n - (intOf v).toNat)
 case atStart=>exact ⟨0,by omega,rfl,HCUR.out,HB3.out⟩
 case round =>
  obtain ⟨k,hk,rfl,⟨l,rst,hlk,hrl,hcc⟩,hb⟩:=hrel
  have HB:=hid hb
  have HCC:=hid hcc
  have HLK:=hid hlk
  have HRL:=hid hrl
  by_cases hlt:k < n
  · have HLT:=hid hlt
    have h9:decide ((k:Int) < (n:Int))=true:=by simp;omega
    have HDA:=hid (leafof_any wr x (k:Int))
    have hk6:k≤60000:=by have:=HN.out;omega
    clear hk hb hcc hlk hrl hlt
    go_upto_region 5 with (fail)
    clear h9
    go_wp2_with fail
    with_reducible refine HDA.out.mono ?_
    rintro e w4 ⟨d,rfl,hb4⟩
    have hgl4:=(hb4.block gl ((Array.getElem?_eq_some_iff.1 HCC.out).1)).trans HCC.out
    obtain ⟨E,hE⟩:∃ E,E=dgA d.1:=⟨_,rfl⟩
    have HES:=hid (show E.size=32 by rw [hE,dgA_size,d.2])
    have HE1:=hid (show E.all (·.oneCell')=true by rw [hE];exact dgA_all _)
    have hpl:(l.flatMap dgE).length=k * 32:=by rw [flatE_len,HLK.out]
    have hsw:=setCells_whole gl E.toList _ _ w4 38 hgl4 (by rw [Array.length_toList,HES.out,HRL.out];have:=HLT.out;omega)
    rw [hpl] at hsw
    have HTH:=hid (show w4.there gl (k * 32) E.size from fun j hj=>by
     have h0:=there_block hgl4
     have:=h0 (k * 32+j) (by rw [List.size_toArray,List.length_append,hpl,HRL.out];have:=HLT.out;have:=HES.out;omega)
     rwa [Nat.zero_add] at this)
    have HSW:=hid hsw
    have HGS:=hid (setCells_grown gl E.toList (k * 32) w4)
    have HE:=hid hE
    have HB4:=hid (HB.out.trans (hb4.mono HB.out.size))
    rw [← hE]
    clear hb4 hgl4 hE hpl hsw
    go_wp2_with (refine wpList_store_mid rfl 38 (.tmp 19) (.tmp 18) (by rfl) gl (k * 32) E (by rfl) (by rfl) HTH.out (by rw [HES.out];exact info38) HE1.out ?_)
    have hcc5:∃ (l':List Dg) (rst':List Value),l'.length=k+1∧rst'.length=32 * (n - (k+1))∧(w4.setCells gl (k * 32) E.toList).heap[gl]?=some (.cells (l'.flatMap dgE++rst').toArray 38 (0,0)):=by
     refine ⟨l++[d],rst.drop 32,by rw [List.length_append,HLK.out];rfl,by rw [List.length_drop,HRL.out];have:=HLT.out;omega,?_⟩
     rw [HSW.out,List.flatMap_append,Array.length_toList,HES.out]
     have:E.toList=[d].flatMap dgE:=by
      rw [HE.out]
      simp [dgA,dgE]
     rw [this]
    have HC5:=hid hcc5
    have HB5:=hid (HB4.out.grown HGS.out HB4.out.size (fun q hq=>by rw [← Option.some.inj hq,HGL.out];exact Nat.le_refl _))
    clear hcc5
    go_roundw
    case rel=>exact ⟨k+1,by have:=HLT.out;omega,by go_num,HC5.out,HB5.out⟩
    case measure=>have:=HLT.out;simp [intOf];omega
  · obtain rfl:k=n:=by omega
    have h9:decide ((k:Int) < (k:Int))=false:=by simp
    have hnil:rst=[]:=List.eq_nil_of_length_eq_zero (by rw [hrl];omega)
    rw [hnil,List.append_nil] at hcc
    have HDS:=hid (show DS wr (some ⟨gl,0,none⟩) k k l from ⟨hlk,Nat.le_refl _,by have:=HN.out;omega,fun i x hx=>⟨gl,0,rfl,fun j v hv=>by
     rw [cell_of_row _ _ _ _ _ _ hcc,Nat.zero_add,List.getElem?_toArray]
     exact flat_get dgE 32 dgE_len _ i x hx j v hv⟩⟩)
    have HGW:=hid (Array.getElem?_eq_some_iff.1 hcc).1
    clear hlt hk hcc hrl hlk hnil hb
    go_wp2_with fail
    go_ret
    exact ⟨gl,l,rfl,by rw [HGL.out];exact Nat.le_refl _,HLK.out,HDS.out,HGW.out,HB.out⟩
set_option maxHeartbeats 4000000
theorem leaf1_any (w:World) (bn bl:Nat) (a:Option Addr) (n c n0 i:Nat) (l:List Dg) (d:Dg) (hcn:w.cell? ⟨bn,0,none⟩=some (.int .i64 (n0:Int))) (hcl:w.cell? ⟨bl,0,none⟩=some (.slice a n c)) (hd:DS w a n c l) (hi:l[i]?=some d) (h0:i < n0) (hn:n≤60000) :
 Calls Tryz.prog 38 #[.int .i64 (i:Int),.pointer (some ⟨bn,0,none⟩),.pointer (some ⟨bl,0,none⟩)] w fun e w'=>e=.returned (.agg (dgA d.1))∧Below w.heap.size w w':=by
 obtain ⟨b,off,rfl,hlt,hr⟩:=hd.at hi
 have hin:i < n:=by have:=hd.1;have:=(List.getElem?_eq_some_iff.1 hi).1;omega
 obtain ⟨E,hE⟩:∃ E,E=dgA d.1:=⟨_,rfl⟩
 have HES:=hid (show E.size=32 by rw [hE,dgA_size,d.2])
 have HE1:=hid (show E.all (·.oneCell')=true by rw [hE];exact dgA_all _)
 have hr:w.rangeAt b (off+i * 32) E.toList:=by rw [hE];simpa [dgA] using hr
 rw [← hE]
 have h8:decide ((i:Int) < 0)=false:=by simp
 have h9:decide (n0≤i)=false:=by simp;omega
 obtain ⟨o1,ho1⟩:∃ o1:Obj,o1=.cells #[.int .u8 0,.int .u8 0,.int .u8 0,.int .u8 0,.int .u8 0,.int .u8 0,.int .u8 0,.int .u8 0,.int .u8 0,.int .u8 0,.int .u8 0,.int .u8 0,.int .u8 0,.int .u8 0,.int .u8 0,.int .u8 0,.int .u8 0,.int .u8 0,.int .u8 0,.int .u8 0,.int .u8 0,.int .u8 0,.int .u8 0,.int .u8 0,.int .u8 0,.int .u8 0,.int .u8 0,.int .u8 0,.int .u8 0,.int .u8 0,.int .u8 0,.int .u8 0] 38:=⟨_,rfl⟩
 obtain ⟨w1,hw1⟩:∃ w1,w1=w.alloc o1:=⟨_,rfl⟩
 have hb1:Below w.heap.size w w1:=by rw [hw1];exact (Below.refl _ _).alloc (Nat.le_refl _) _
 have hO:w1.heap[w.heap.size]?=some (.cells (dgA zDg.1) 38 (0,0)):=by rw [hw1,heap_alloc_new,ho1];rfl
 have hr1:w1.rangeAt b (off+i * 32) E.toList:=fun j v hv=>(World.cell?_of_block (hb1.block b hlt)).trans (hr j v hv)
 have c1:=(hb1.cell (p:=⟨bn,0,none⟩) (World.block_lt_of_cell? w _ hcn)).trans hcn
 have c2:=(hb1.cell (p:=⟨bl,0,none⟩) (World.block_lt_of_cell? w _ hcl)).trans hcl
 have HTH:=hid (there_block hO)
 have HGF:=hid (setCells_all hO E.toList (by rw [Array.length_toList,HES.out];rfl))
 have HR1:=hid hr1
 have HB1:=hid hb1
 have hw2:w.alloc (.cells #[.int .u8 0,.int .u8 0,.int .u8 0,.int .u8 0,.int .u8 0,.int .u8 0,.int .u8 0,.int .u8 0,.int .u8 0,.int .u8 0,.int .u8 0,.int .u8 0,.int .u8 0,.int .u8 0,.int .u8 0,.int .u8 0,.int .u8 0,.int .u8 0,.int .u8 0,.int .u8 0,.int .u8 0,.int .u8 0,.int .u8 0,.int .u8 0,.int .u8 0,.int .u8 0,.int .u8 0,.int .u8 0,.int .u8 0,.int .u8 0,.int .u8 0,.int .u8 0] 38)=w1:=by rw [hw1,ho1]
 have HIN:=hid hin
 have HE:=hid hE
 obtain ⟨r0,hr0⟩:∃ r0,r0=w.heap.size:=⟨_,rfl⟩
 clear hcn hcl hd hi h0 hr hO hr1 hb1 hin hE hw1 ho1
 go_enter Tryz.func38,Tryz.ntmps38
 go_upto_region 1 with (fail)
 rw [← hr0]
 rw [← hr0] at HTH HGF HB1
 have HR0:=hid hr0
 clear hw2 hr0
 go_wp2_with (first
  | (refine L_load_arr rfl 38 (.tmp 15) (by rfl) b (off+i * 32) (by rfl) E _ HR1.out Tryz.underlying38 rfl (by rw [HES.out];exact info38) ?_)
  | (refine wpList_store_mid rfl 38 (.tmp 4) (.tmp 16) (by rfl) r0 0 E (by rfl) (by rfl) (by rw [HES.out];exact HTH.out) (by rw [HES.out];exact info38) HE1.out ?_))
 have HB9:=hid (HB1.out.grown (setCells_grown r0 E.toList 0 w1) (by rw [HR0.out];have:=HB1.out.size;have:=HR0.out;omega) (fun k hk=>by rw [← Option.some.inj hk];exact Nat.le_refl _))
 generalize w1.setCells r0 0 E.toList=w9 at *
 have hGF:w9.heap[r0]?=some (.cells E 38 (0,0)):=by have:=HGF.out;simpa using this
 have HGF9:=hid hGF
 refine bodyPost_ret (v:=.agg E) (results_cell_row (p:=4) (ty:=38) rfl _ _ r0 38 E (0,0) _ rfl HGF9.out Tryz.underlying38 rfl (by rw [HES.out];exact info38)) rfl ⟨rfl,?_⟩
 rw [← HR0.out]
 exact HB9.out
end
section
open Go.Maps Go.WideMaps Go.ChangeMaps
structure OL (w0 wr:World) (L:Lay) (τ:Nat→Nat) (gt gd:Nat) (d:Dm) (T:TT) (Y:TY) (fb m:Nat) (M:Nat→Nat→Sc) (ls:List Dg) (k:Nat):Prop where
 bt:BT wr L τ gt gd d { T with L:=ls.take k } Y
 hb:Below w0.heap.size w0 wr
 new:∀ j,τ j ≠ 0→w0.heap.size≤j
 fd:Found wr w0.heap.size fb m (chunk ls) M
 ff:τ fb=0
 fg:∀ j g n c,j < m→M 0 j=some (g,n,c)→τ g=0
section
variable {w0 wr w' : World} {L : Lay} {τ : Nat → Nat} {gt gd : Nat} {d : Dm} {T : TT} {Y : TY} {fb m : Nat} {M : Nat → Nat → Sc} {ls : List Dg} {k : Nat}
theorem OL.below (h:OL w0 wr L τ gt gd d T Y fb m M ls k) (hb:Below wr.heap.size wr w'):OL w0 w' L τ gt gd d T Y fb m M ls k :=
 ⟨h.bt.below hb,h.hb.trans (hb.mono h.hb.size),h.new,h.fd.below hb,h.ff,h.fg⟩
theorem OL.grow (h:OL w0 wr L τ gt gd d T Y fb m M ls k) (hn:ls.length≤60000) (ht:RoundTab w0) {x:Dg} (hx:ls[k]?=some x) (h3:3 < w0.heap.size) :
 Calls Tryz.prog 49 #[.pointer (some ⟨gt,0,none⟩),.agg (dgA x.1)] wr fun e w'=>e=.returned (.tuple #[])∧∃ τ' Y',OL w0 w' L τ' gt gd d T Y' fb m M ls (k+1):=by
 have hk:=(List.getElem?_eq_some_iff.1 hx).1
 refine (grow_any wr τ gt gd _ Y h.bt.t (by show (ls.take k).length < 60000;rw [List.length_take];omega) x (rt_below ht h.hb h3)).mono ?_
 rintro e w2 ⟨rfl,τ2,Y2,hT,hU⟩
 have hT':TS w2 τ2 gt gd { T with L:=ls.take (k+1) } Y2:=by
  have:ls.take (k+1)=ls.take k++[x]:=by rw [List.take_add_one,hx];rfl
  rw [this];exact hT
 have hb2:=h.bt.tiles hT' hU
 have hz:∀ b,b < w0.heap.size→τ b=0:=fun b hb=>by
  rcases Nat.eq_zero_or_pos (τ b) with e | e
  · exact e
  · have:=h.new b (by omega);omega
 have hlt:=h.fd.map.at.lt
 refine ⟨rfl,τ2,Y2,hb2,⟨hU.os.trans h.hb.os,hU.tape.trans h.hb.tape,hU.output.trans h.hb.output,Nat.le_trans h.hb.size hU.size,fun b hb=>(hU.block b (Nat.lt_of_lt_of_le hb h.hb.size) (hz b hb)).trans (h.hb.block b hb)⟩,fun j hj=>?_,h.fd.keep hU.size (fun b hb hc=>hU.block b hb ?_),hU.ext.old fb hlt h.ff,fun j g n c hj hM=>?_⟩
 · rcases Nat.lt_or_ge j w0.heap.size with e | e
   · exact absurd (hU.ext.old j (Nat.lt_of_lt_of_le e h.hb.size) (hz j e)) hj
   · exact e
 · rcases hc with rfl | ⟨j,hj,n,c,hM⟩
   · exact h.ff
   · exact h.fg j b n c hj hM
 · obtain ⟨gl,q1,q2,q3,q4,q5⟩:=h.fd.at_ j hj
   rw [hM] at q1
   cases q1
   exact hU.ext.old _ q4 (h.fg j _ _ _ hj hM)
end
theorem new_dig (w:World) (E:Array Value) (hE:E.size=32) :
 Below w.heap.size w ((w.alloc (.cells (dgA zDg.1) 38)).setCells w.heap.size 0 E.toList)∧((w.alloc (.cells (dgA zDg.1) 38)).setCells w.heap.size 0 E.toList).heap[w.heap.size]?=some (.cells E 38 (0,0))∧(w.alloc (.cells (dgA zDg.1) 38)).there w.heap.size 0 E.size:=by
 have hO:=heap_alloc_new w (.cells (dgA zDg.1) 38)
 have hb:Below w.heap.size w (w.alloc (.cells (dgA zDg.1) 38)):=(Below.refl _ _).alloc (Nat.le_refl _) _
 have h1:=setCells_all hO E.toList (by rw [Array.length_toList,hE];rfl)
 refine ⟨hb.grown (setCells_grown _ _ _ _) hb.size (fun k hk=>by rw [← Option.some.inj hk];exact Nat.le_refl _),by simpa using h1,?_⟩
 have:=there_block hO
 rw [hE]
 rwa [show (dgA zDg.1).size=32 from rfl] at this
noncomputable def opz:World→Nat→Nat:=fun w gt=>match w.cell? ⟨gt,4,none⟩ with | some v=>(intOf v).toNat | none=>0
theorem OL.opz {w0 wr:World} {L:Lay} {τ:Nat→Nat} {gt gd:Nat} {d:Dm} {T:TT} {Y:TY} {fb m:Nat} {M:Nat→Nat→Sc} {ls:List Dg} {k:Nat} (h:OL w0 wr L τ gt gd d T Y fb m M ls (k+1)) (hk:k < ls.length):opz wr gt=k+1:=by
 have e4:=h.bt.t.cells.2.2.2.2.1
 rw [show ({ T with L:=ls.take (k+1) }:TT).L.length=k+1 by show (ls.take (k+1)).length=k+1;rw [List.length_take];omega] at e4
 unfold Go.Proofs.YtgkehahklccacaaGreatDoor.opz
 rw [e4];simp [intOf]
set_option maxHeartbeats 8000000
theorem open_loop (w0 w:World) (L:Lay) (τ:Nat→Nat) (gt gd:Nat) (d:Dm) (T:TT) (Y:TY) (fb m n:Nat) (M:Nat→Nat→Sc) (ls:List Dg) (h:OL w0 w L τ gt gd d T Y fb m M ls 0) (hp:Pre d) (hun:∀ i,i < d.fs.length→(d.file i).units≤9223372036854775806) (hcl:d.claims.length < 1000000) (hco:-4611686018427387904≤d.claimOf tlN∧d.claimOf tlN≤4611686018427387904)
 (hn:ls.length=n) (hn6:n≤60000) (hm:m≤n / 256) (ht:RoundTab w0) (h3:3 < w0.heap.size) (x0 x1:Value)
 (hleaf:∀ (i:Nat) (x:Dg) (wx:World),ls[i]?=some x→Below w0.heap.size w0 wx→Calls Tryz.prog 38 #[.int .i64 (i:Int),x0,x1] wx fun e w'=>e=.returned (.agg (dgA x.1))∧Below wx.heap.size wx w') (u1 u4 u5 u6 u7 u8 u9 vW vX vY vZ qA qB qC qD qE qF qG qH qI qJ qK qL qM qN qO qP qQ qR qS qT qU qV qW qX qY qZ jA jB jC jD jE jF jG jH jI jJ jK jL jM jN jO jP jQ jR jS jT jU jV jW jX jY jZ yA yB yC yD yE yF yG yH yI yJ yK yL yM yN yO yP yQ yR yS yT yU yV yW yX yY yZ zA zB zC zD zE zF uA uB uC uD uE uF uG uH uI uJ uK uL uM uN uO uP uQ uR uS uT uU uV uW uX uY uZ vA vB vC vD vE vF vG vH vI vJ vK vL vM vN vO vP vQ vR vS vT vU vV:Value) :
 Code.wp Tryz.prog (dropSeq 7 op0) (bodyPost Tryz.prog Tryz.f21 (OpRet w0 L gd d { T with held:=m,l0:=looseB d,l1:=looseB d,cl:=d.claimOf tlN+1,L:=ls })) ⟨#[.pointer (some ⟨gd,0,none⟩),u1,.int .i64 (n:Int),.func (.func 38) #[] #[x0,x1],u4,u5,u6,u7,u8,u9,vW,vX,.pointer (some ⟨gt,0,none⟩),.map (some fb),vY,vZ,qA,qB,qC,qD,qE,qF,qG,qH,qI,qJ,qK,qL,qM,qN,qO,qP,qQ,qR,qS,qT,qU,qV,qW,qX,qY,qZ,jA,jB,jC,jD,jE,jF,jG,jH,jI,jJ,jK,jL,jM,jN,jO,jP,jQ,jR,jS,jT,jU,jV,jW,jX,jY,jZ,yA,yB,yC,yD,yE,yF,yG,yH,yI,yJ,yK,yL,yM,yN,yO,yP,yQ,yR,yS,yT,yU,yV,yW,yX,yY,yZ,zA,zB,zC,zD,zE,zF,uA,uB,uC,uD,uE,uF,uG,uH,uI,uJ,uK,uL,uM,uN,uO,uP,uQ,uR,uS,uT,uU,uV,uW,uX,uY,uZ,vA,vB,vC,vD,vE,vF,vG,vH,vI,vJ,vK,vL,vM,vN,vO,vP,vQ,vR,vS,vT,vU,vV],[]⟩ w:=by
 have HX:=hid (And.intro hp (And.intro hun (And.intro hcl (And.intro hco (And.intro hn (And.intro hn6 (And.intro hm (And.intro ht h3))))))))
 have HLF:=hid hleaf
 have H:=hid h
 clear h hp hun hcl hco hn hn6 hm ht h3 hleaf
 refine wp_two_k (c:=dropSeq 7 op0) ⟨_,_,rfl⟩ fun K hK=>?_
 have HK:=hid hK
 clear hK
 conv=>arg 2;whnf
 go_wp2_with fail
 go_loopw [14] (fun _ wr=>∃ (k:Nat) (τ':Nat→Nat) (Y':TY),k≤n∧(k % 256=0∨256 * m≤k)∧OL w0 wr L τ' gt gd d T Y' fb m M ls k) (fun _ wr=>n - opz wr gt)
 case atStart=>exact ⟨0,τ,Y,Nat.zero_le _,.inl rfl,H.out⟩
 case round =>
  obtain ⟨k,τ1,Y1,hk,hka,hol⟩:=hrel
  have HOL:=hid hol
  have HKA:=hid hka
  have e4:=hol.bt.t.cells.2.2.2.2.1
  rw [show ({ T with L:=ls.take k }:TT).L.length=k by show (ls.take k).length=k;rw [List.length_take];have:=HX.out.2.2.2.2.1;omega] at e4
  have HZ:=hid (show opz wr gt=k by unfold opz;rw [e4];simp [intOf])
  by_cases hlt:k < n
  · obtain ⟨x,hx⟩:∃ x,ls[k]?=some x:=⟨_,List.getElem?_eq_getElem (by rw [HX.out.2.2.2.2.1];exact hlt)⟩
    obtain ⟨j,hj⟩:∃ j,j=k / 256:=⟨_,rfl⟩
    have hkj:(k:Int) / 256=(j:Int):=by omega
    have hk6:k≤60000:=by have:=HX.out.2.2.2.2.2.1;omega
    have h9:decide (k < n)=true:=by simp;exact hlt
    have hlook:=hol.fd.map.at.look_ok (l:=0) (j:=j) (by decide) (by omega)
    have hl0:(Instr.lookup 95 (.map (some fb)) (.agg #[.int .i64 0,.int .i64 (j:Int)]) true).run Tryz.prog wr=.ok (.tuple #[encS (M 0 j),.bool (M 0 j).isSome]) wr:=hlook
    clear hlook
    have HLT:=hid hlt
    have HJ:=hid hj
    have HXX:=hid hx
    by_cases hkm:k < 256 * m
    · obtain ⟨gl,hM,-,-,-,-⟩:=hol.fd.at_ j (by omega)
      have hk256:k=256 * j:=by omega
      have hkr:(k:Int) % 256=0:=by omega
      rw [hM] at hl0
      have hlook:(Instr.lookup 95 (.map (some fb)) (.agg #[.int .i64 0,.int .i64 (j:Int)]) true).run Tryz.prog wr=.ok (.tuple #[.slice (some ⟨gl,0,none⟩) 256 256,.bool true]) wr:=hl0
      have HKM:=hid hkm
      have HK256:=hid hk256
      have HM:=hid hM
      clear hlt hk hka hol hx hj hkm hk256 hM hl0
      rename World=>wo
      go_wp2_with fail
      clear hkr
      go_loopw [97] (fun v wr=>∃ (i:Nat) (τ':Nat→Nat) (Y':TY),i≤256∧v=.int .i64 (i:Int)∧OL w0 wr L τ' gt gd d T Y' fb m M ls (k+i)) (fun v _=>256 - (intOf v).toNat)
      case atStart=>exact ⟨0,τ1,Y1,by omega,rfl,HOL.out⟩
      case round =>
       obtain ⟨i,τ2,Y2,hi,rfl,hol⟩:=hrel
       have HO:=hid hol
       by_cases hlt:i < 256
       · have hki:k+i < n:=by have:=HKM.out;have:=HK256.out;have:=HX.out.2.2.2.2.2.2.1;omega
         obtain ⟨x,hx⟩:∃ x,ls[k+i]?=some x:=⟨_,List.getElem?_eq_getElem (by rw [HX.out.2.2.2.2.1];exact hki)⟩
         obtain ⟨g',q1,-,-,-,hds⟩:=hol.fd.at_ j (by have:=HKM.out;have:=HK256.out;omega)
         rw [HM.out] at q1
         cases q1
         have hcx:(chunk ls j)[i]?=some x:=by unfold chunk;rw [List.getElem?_take,if_pos hlt,List.getElem?_drop,← HK256.out];exact hx
         obtain ⟨b',off',e1,hbl,hr⟩:=hds.at hcx
         cases e1
         obtain ⟨E,hE⟩:∃ E,E=dgA x.1:=⟨_,rfl⟩
         have hES:E.size=32:=by rw [hE,dgA_size,x.2]
         have HE1:=hid (show E.all (·.oneCell')=true by rw [hE];exact dgA_all _)
         have hr:wr.rangeAt gl (0+i * 32) E.toList:=by rw [hE];simpa [dgA] using hr
         obtain ⟨hb2,hg2,hth⟩:=new_dig wr E hES
         obtain ⟨r0,hr0⟩:∃ r0,r0=wr.heap.size:=⟨_,rfl⟩
         obtain ⟨w1,hw1⟩:∃ w1,w1=wr.alloc (.cells (dgA zDg.1) 38):=⟨_,rfl⟩
         have hba:Below wr.heap.size wr w1:=by rw [hw1];exact (Below.refl _ _).alloc (Nat.le_refl _) _
         have hr1:w1.rangeAt gl (0+i * 32) E.toList:=fun q v hv=>(World.cell?_of_block (hba.block gl hbl)).trans (hr q v hv)
         rw [← hw1] at hb2 hg2 hth
         have hw1':wr.alloc (.cells #[.int .u8 0,.int .u8 0,.int .u8 0,.int .u8 0,.int .u8 0,.int .u8 0,.int .u8 0,.int .u8 0,.int .u8 0,.int .u8 0,.int .u8 0,.int .u8 0,.int .u8 0,.int .u8 0,.int .u8 0,.int .u8 0,.int .u8 0,.int .u8 0,.int .u8 0,.int .u8 0,.int .u8 0,.int .u8 0,.int .u8 0,.int .u8 0,.int .u8 0,.int .u8 0,.int .u8 0,.int .u8 0,.int .u8 0,.int .u8 0,.int .u8 0,.int .u8 0] 38)=w1:=hw1.symm
         have HGR:=hid ((hol.below hb2).grow (by rw [HX.out.2.2.2.2.1];exact HX.out.2.2.2.2.2.1) HX.out.2.2.2.2.2.2.2.1 hx HX.out.2.2.2.2.2.2.2.2)
         rw [← hE] at HGR
         rw [← hr0] at hg2 hth HGR
         have HES:=hid hES;have HG2:=hid hg2;have HTH:=hid hth;have HR:=hid hr;have HR1:=hid hr1
         have h9:decide ((i:Int) < 256)=true:=by simp;omega
         have HLT2:=hid hlt
         have HR0:=hid hr0
         have hi6:i≤255:=by omega
         clear hlt hki hx hds hcx hbl hr hr1 hba hb2 hg2 hth hES hE hol hw1 hi hr0
         have HRR:=HR0.out
         clear HRR
         go_wp2_with (first
          | (refine L_load_arr rfl 38 (.tmp 99) (by rfl) gl (0+i * 32) (by simp only [Nat.zero_add];rfl) E _ HR.out Tryz.underlying38 rfl (by rw [HES.out];exact info38) ?_)
          | (rw [← HR0.out];refine wpList_store_mid rfl 38 (.tmp 17) (.tmp 100) (by rfl) r0 0 E (by rfl) (by rfl) HTH.out (by rw [HES.out];exact info38) HE1.out ?_)
          | (refine wpList_load_row rfl 38 (.tmp 17) (by rfl) r0 (by rfl) 38 E (0,0) _ HG2.out Tryz.underlying38 rfl (by rw [HES.out];exact info38) ?_)
          | (go_at_call 49;refine HGR.out.mono ?_;rintro e w3 ⟨rfl,τ3,Y3,hol3⟩;have HOL3:=hid hol3;clear hol3))
         refine ⟨⟨i+1,τ3,Y3,HLT2.out,by go_num,HOL3.out⟩,?_⟩
         have:=HLT2.out
         simp [intOf];omega
       · obtain rfl:i=256:=by omega
         have h9:decide (((256:Nat):Int) < 256)=false:=by decide
         clear hlt hi hol
         have hkn:k+255 < n:=by have:=HKM.out;have:=HK256.out;have:=HX.out.2.2.2.2.2.2.1;omega
         have hz2:=OL.opz (k:=k+255) HO.out (by rw [HX.out.2.2.2.2.1];exact hkn)
         have HKN:=hid hkn
         have HZ2:=hid hz2
         clear hkn hz2
         go_wp2_with fail
         refine ⟨⟨k+256,τ2,Y2,by have:=HKN.out;omega,.inl (by have:=HK256.out;omega),HO.out⟩,?_⟩
         have:=HKN.out
         rw [HZ2.out,HZ.out];omega
    · rw [hol.fd.no 0 j (by omega)] at hl0
      have hlook:(Instr.lookup 95 (.map (some fb)) (.agg #[.int .i64 0,.int .i64 (j:Int)]) true).run Tryz.prog wr=.ok (.tuple #[.slice none 0 0,.bool false]) wr:=hl0
      have HKM:=hid hkm
      have HLC:=hid (HLF.out k x wr hx hol.hb)
      clear hlt hk hka hol hx hj hkm hl0
      go_wp2_with (first
       | (go_at_call 38;refine HLC.out.mono ?_;rintro e w2 ⟨rfl,hb2⟩;have HGR:=hid ((HOL.out.below hb2).grow (by rw [HX.out.2.2.2.2.1];exact HX.out.2.2.2.2.2.1) HX.out.2.2.2.2.2.2.2.1 HXX.out HX.out.2.2.2.2.2.2.2.2);clear hb2)
       | (go_at_call 49;refine HGR.out.mono ?_;rintro e w3 ⟨rfl,τ2,Y2,hol2⟩;have HOL2:=hid hol2;clear hol2))
      have hz2:=HOL2.out.opz (by rw [HX.out.2.2.2.2.1];exact HLT.out)
      refine ⟨⟨k+1,τ2,Y2,HLT.out,.inr (by have:=HKM.out;omega),HOL2.out⟩,?_⟩
      have:=HLT.out
      rw [hz2,HZ.out];omega
  · obtain rfl:k=n:=by omega
    have h9:decide (k < k)=false:=by simp
    have hlk:ls.take k=ls:=List.take_of_length_le (by rw [HX.out.2.2.2.2.1];exact Nat.le_refl _)
    clear hlt hk hka hol
    go_wp2_with fail
    refine HK.out _ _ ?_
    rw [dropSeq_succ]
    have hbt:=HOL.out.bt
    rw [hlk] at hbt
    exact open_tail w0 wr L τ1 gt gd d { T with L:=ls } Y1 hbt HOL.out.hb HOL.out.new HX.out.1 HX.out.2.1 HX.out.2.2.1 HX.out.2.2.2.1 fb m (chunk ls) M HOL.out.fd (by have:=HX.out.2.2.2.2.2.2.1;have:=HX.out.2.2.2.2.2.1;omega) _ _ _ _ _ _ _ _ _ _ _ _ _ _ _ _ _ _ _ _ _ _ _ _ _ _ _ _ _ _ _ _ _ _ _ _ _ _ _ _ _ _ _ _ _ _ _ _ _ _ _ _ _ _ _ _ _ _ _ _ _ _ _ _ _ _ _ _ _ _ _ _ _ _ _ _ _ _ _ _ _ _ _ _ _ _ _ _ _ _ _ _ _ _ _ _ _ _ _ _ _ _ _ _ _ _ _ _ _ _ _ _ _ _ _ _ _ _ _ _ _ _ _ _ _ _ _ _ _ _ _ _ _ _ _ _ _ _ _ _ _ _ _ _ _ 
end
section
open Go.Maps Go.WideMaps Go.ChangeMaps
theorem alOld (w:World) (o:Obj) (i:Nat) (h:i < w.heap.size):(w.alloc o).heap[i]?=w.heap[i]? :=
 ((Below.refl w.heap.size w).alloc (Nat.le_refl _) o).block i h
def TakeNo (wn j:Nat) (b:List UInt8):Prop :=
 ∀ (wx:World) (τ:Nat→Nat) (gt gd:Nat) (T:TT) (Y:TY),TS wx τ gt gd T Y→T.wd.toNat=wn→HalfTab wx→∀ (ax:Option Addr) (cx:Nat),R8 wx ax 8207 cx b →
   Calls Tryz.prog 109 #[.pointer (some ⟨gt,0,none⟩),.agg #[.int .i64 ((0:Nat):Int),.int .i64 (j:Int)],.slice ax 8207 cx] wx fun e w'=>(∃ v,e=.returned (.tuple #[v,.bool false]))∧Below wx.heap.size wx w'
abbrev boxT0 (gd:Nat) (ep wd:Int) (fb ob:Nat):Obj:=.cells #[.pointer (some ⟨gd,0,none⟩),.int .i64 ep,.int .i64 0,.int .i64 wd,.int .i64 0,.map (some fb),.map (some ob),.slice none 0 0,.int .i64 0,.bool false,.bool false] 99
theorem TS.start (w:World) (gd:Nat) (ep wd:Int) (h4:4≤w.heap.size) (hw:1≤wd∧wd≤32) :
 TS (((w.alloc (.map #[] 0)).alloc (.map #[] 0)).alloc (boxT0 gd ep wd w.heap.size (w.heap.size+1))) (put1 (put1 (put1 (fun _=>0) w.heap.size 2) (w.heap.size+1) 3) (w.heap.size+2) 1) (w.heap.size+2) gd ⟨ep,0,wd,0,false,false,[]⟩ ⟨w.heap.size,w.heap.size+1,.slice none 0 0,fun _ _=>none,fun _ _=>none,0,0⟩:=by
 obtain ⟨w1,hw1⟩:∃ w1,w1=w.alloc (.map #[] 0):=⟨_,rfl⟩
 obtain ⟨w2,hw2⟩:∃ w2,w2=w1.alloc (.map #[] 0):=⟨_,rfl⟩
 have z1:w1.heap.size=w.heap.size+1:=by rw [hw1,World.size_alloc]
 have z2:w2.heap.size=w.heap.size+2:=by rw [hw2,World.size_alloc,z1]
 have m1:=MAt.made w
 have m2:=MAt.made w1
 rw [← hw1] at m1 ⊢
 rw [← hw2] at m2 ⊢
 have m1':=m1.keep (w':=w2) (by rw [hw2];exact alOld _ _ _ (by omega))
 have hp:∀ k,put1 (put1 (put1 (fun _=>0) w.heap.size 2) (w.heap.size+1) 3) (w.heap.size+2) 1 k=if k=w.heap.size+2 then 1 else if k=w.heap.size+1 then 3 else if k=w.heap.size then 2 else 0:=fun k=>rfl
 obtain ⟨o3,ho3⟩:∃ o3,o3=boxT0 gd ep wd w.heap.size (w.heap.size+1):=⟨_,rfl⟩
 rw [← ho3]
 have hx3:(w2.alloc o3).heap[w.heap.size+2]?=some o3:=by rw [← z2];exact heap_alloc_new _ _
 have hz3:(w2.alloc o3).heap.size=w.heap.size+3:=by rw [World.size_alloc,z2]
 refine ⟨by rw [hx3,ho3];rfl,by rw [hp,if_pos rfl],fun k hk=>?_,fun k hk=>?_,by rw [hz3];omega,hw,m1'.keep (alOld _ _ _ (by omega)),?_,Nat.zero_le _,?_,?_,Nat.zero_le _,fun j hj=>by simp at hj,?_,fun _ _=>rfl,?_,?_,by simp,fun _ _=>rfl,rfl⟩
 · rw [hp] at hk
   rw [hz3]
   split at hk
   · omega
   · split at hk
     · omega
     · split at hk
       · omega
       · exact absurd rfl hk
 · rw [hp,if_neg (by omega),if_neg (by omega),if_neg (by omega)]
 · show put1 _ _ _ w.heap.size=2
   rw [hp,if_neg (by omega),if_neg (by omega),if_pos rfl]
 · have:=m2.keep (w':=w2.alloc o3) (alOld _ _ _ (by omega))
   rwa [z1] at this
 · show put1 _ _ _ (w.heap.size+1)=3
   rw [hp,if_neg (by omega),if_pos rfl]
 · show OwnL _ _ 38 32 _ (.slice none 0 0) (0 % 256) ((([]:List Dg).drop (256 * (0 / 256))).flatMap dgE)
   rw [Nat.zero_mod,List.drop_nil]
   exact OwnL.nil _ _ _ _ _
 · show OwnL _ _ 38 32 5 (.slice none 0 0) (0 / 256) ((rootsP wd []).flatMap dgE)
   rw [show rootsP wd []=[] from by unfold rootsP;rw [List.length_nil,Nat.zero_div];rfl,Nat.zero_div]
   exact OwnL.nil _ _ _ _ _
 · show OwnL _ _ 121 2 7 (.slice none 0 0) (0 / 256) ((List.range (0 / 256)).flatMap ordE)
   rw [Nat.zero_div]
   exact OwnL.nil _ _ _ _ _
set_option maxHeartbeats 8000000
theorem open_any (w:World) (L:Lay) (gd:Nat) (d:Dm) (h:DAt w L gd d) (hp:Pre d) (hpw:d.power=true) (hun:∀ i,i < d.fs.length→(d.file i).units≤9223372036854775806) (hcl:d.claims.length < 1000000) (hco:-4611686018427387904≤d.claimOf tlN∧d.claimOf tlN≤4611686018427387904)
 (wd:Int) (hwd:1≤wd∧wd≤32) (ls:List Dg) (n:Nat) (hn:ls.length=n) (hn6:n≤60000) (m:Nat) (hm:m≤n / 256) (rest:List UInt8) (hB:(wholeD d).1=tilesQ wd.toNat (chunk ls) m++rest) (hw0:(wholeD d).2=0)
 (hl0:-9223372036854775808≤(d.length tlN).1) (hl1:(d.length tlN).1≤9223372036854775807) (hlB:(wholeD d).1.length≤281474976710656) (hno:m < n / 256→8207≤rest.length→TakeNo wd.toNat m (rest.take 8207)) (hh:HalfTab w) (ht:RoundTab w) (h4:4≤w.heap.size) (x0 x1:Value)
 (hleaf:∀ (i:Nat) (x:Dg) (wx:World),ls[i]?=some x→Below w.heap.size w wx→Calls Tryz.prog 38 #[.int .i64 (i:Int),x0,x1] wx fun e w'=>e=.returned (.agg (dgA x.1))∧Below wx.heap.size wx w') :
 Calls Tryz.prog 21 #[.pointer (some ⟨gd,0,none⟩),.int .i64 wd,.int .i64 (n:Int),.func (.func 38) #[] #[x0,x1]] w (OpRet w L gd d ⟨d.epoch,d.claimOf tlN+1,wd,m,looseB d,looseB d,ls⟩):=by
 have hnf:∀ wx,(binOp .eql 58 (.func (.func 38) #[] #[x0,x1]) .nilFunc).run Tryz.prog wx=.ok (.bool false) wx:=fun wx=>by kernel_rfl
 have HPW:=hid (power_any w L gd d h)
 rw [hpw] at HPW
 have HWH:=hid (whole_any w L gd d h hp hl0 hl1)
 have H:=hid h
 have HX:=hid (And.intro hp (And.intro hun (And.intro hcl (And.intro hco (And.intro hn (And.intro hn6 (And.intro hm (And.intro ht h4))))))))
 have HB:=hid (And.intro hB (And.intro hw0 (And.intro hlB hno)))
 have HH:=hid hh
 have HLF:=hid hleaf
 have HWD:=hid hwd
 have d1:decide (wd < 1)=false:=by simp;omega
 have d2:decide (32 < wd)=false:=by simp;omega
 have d3:decide ((n:Int) < 0)=false:=by simp
 have d4:decide (1099511627776 < (n:Int))=false:=by simp;omega
 clear h hp hpw hun hcl hco hwd hn hn6 hm hB hw0 hl0 hl1 hlB hno hh ht h4 hleaf
 go_enter Tryz.func21,Tryz.ntmps21
 refine wp_two_k (c:=op0) ⟨_,_,rfl⟩ fun K hK=>?_
 have HK:=hid hK
 clear hK
 conv=>arg 2;whnf
 go_wp2_with fail
 refine HK.out _ _ ?_
 clear HK K
 refine wp_two_k (c:=dropSeq 1 op0) ⟨_,_,rfl⟩ fun K hK=>?_
 have HK:=hid hK
 clear hK
 conv=>arg 2;whnf
 go_wp2_with fail
 refine HK.out _ _ ?_
 clear HK K
 rw [dropSeq_succ]
 clear d1 d2 d3 d4 hnf
 refine wp_two_k (c:=dropSeq 2 op0) ⟨_,_,rfl⟩ fun K hK=>?_
 have HK:=hid hK
 clear hK
 conv=>arg 2;whnf
 go_wp2_with (go_at_call 15;refine HPW.out.mono ?_;rintro e wx ⟨rfl,hw⟩;have hw:=hw.symm;subst hw)
 refine HK.out _ _ ?_
 clear HK K
 rw [dropSeq_succ]
 refine wp_two_k (c:=dropSeq 3 op0) ⟨_,_,rfl⟩ fun K hK=>?_
 have HK:=hid hK
 clear hK
 conv=>arg 2;whnf
 go_wp2_with (go_at_call 55;refine HWH.out.mono ?_;rintro e w1 ⟨hb1,sa,sn,sc,v,rfl,ho,hm,hv⟩;rw [HB.out.2.1] at hv;obtain rfl:v=.nilIface:=(hv.resolve_right fun q=>q.1 rfl).2;have HB1:=hid hb1;have HO:=hid ho;have HM:=hid hm;clear hv hb1 ho hm)
 refine HK.out _ _ ?_
 clear HK K
 rw [dropSeq_succ]
 refine wp_two_k (c:=dropSeq 4 op0) ⟨_,_,rfl⟩ fun K hK=>?_
 have HK:=hid hK
 clear hK
 conv=>arg 2;whnf
 go_wp2_with fail
 refine HK.out _ _ ?_
 clear HK K
 rw [dropSeq_succ]
 have HEP:=hid (epoch_any w1 L gd d (H.out.below HB1.out))
 obtain ⟨ep,hep⟩:∃ ep:Int,ep=(d.epoch:Int):=⟨_,rfl⟩
 rw [← hep] at HEP ⊢
 clear hep
 have hmm:=@run_makeMap Tryz.prog
 refine wp_two_k (c:=dropSeq 5 op0) ⟨_,_,rfl⟩ fun K hK=>?_
 have HK:=hid hK
 clear hK
 conv=>arg 2;whnf
 go_wp2_with (go_at_call 56;refine HEP.out.mono ?_;rintro e wx ⟨rfl,hw⟩;have hw:=hw.symm;subst hw)
 refine HK.out _ _ ?_
 clear HK K
 rw [dropSeq_succ]
 clear hmm
 have z1:=HB1.out.size
 have hts:=TS.start w1 gd ep wd (by have:=HX.out.2.2.2.2.2.2.2.2;omega) HWD.out
 have hbn:Below w1.heap.size w1 (((w1.alloc (.map #[] 0)).alloc (.map #[] 0)).alloc (boxT0 gd ep wd w1.heap.size (w1.heap.size+1))):=(((Below.refl _ _).alloc (Nat.le_refl _) _).alloc (by simp) _).alloc (by simp;omega) _
 obtain ⟨gt,hgt⟩:∃ gt,gt=w1.heap.size+2:=⟨_,rfl⟩
 obtain ⟨τ,hτ⟩:∃ τ,τ=put1 (put1 (put1 (fun _=>0) w1.heap.size 2) (w1.heap.size+1) 3) (w1.heap.size+2) 1:=⟨_,rfl⟩
 have hτn:∀ k,τ k ≠ 0→w1.heap.size≤k:=fun k hk=>by
  rw [hτ] at hk
  unfold put1 at hk
  split at hk
  · omega
  · split at hk
    · omega
    · split at hk
      · omega
      · exact absurd rfl hk
 rw [← hτ,← hgt] at hts
 rw [show w1.heap.size+1+1=gt from hgt.symm]
 obtain ⟨w4,hw4⟩:∃ w4,w4=((w1.alloc (.map #[] 0)).alloc (.map #[] 0)).alloc (boxT0 gd ep wd w1.heap.size (w1.heap.size+1)):=⟨_,rfl⟩
 rw [← hw4] at hts hbn
 rw [show ((w1.alloc (.map #[] 0)).alloc (.map #[] 0)).alloc (.cells #[.pointer (some ⟨gd,0,none⟩),.int .i64 ep,.int .i64 0,.int .i64 wd,.int .i64 0,.map (some w1.heap.size),.map (some (w1.heap.size+1)),.slice none 0 0,.int .i64 0,.bool false,.bool false] 99)=w4 from hw4.symm]
 have hb4:=HB1.out.trans (hbn.mono z1)
 have hsz:sn≤281474976710656:=by rw [HM.out];exact HB.out.2.2.1
 have hr4:=(R8.of_owns HO.out hsz).below hbn
 rw [HB.out.1] at hr4
 have HT:=hid (show ∀ j,j < m→(chunk ls j).length=256 from fun j hj=>by unfold chunk;rw [List.length_take,List.length_drop];have:=HX.out.2.2.2.2.1;have:=HX.out.2.2.2.2.2.2.1;omega)
 have HRD:=hid (tread_any w4 τ gt gd _ _ hts (HH.out.below hb4 (by have:=HX.out.2.2.2.2.2.2.2.2;omega)) sa sn sc (chunk ls) rest m n hr4 HT.out HX.out.2.2.2.2.2.2.1 (by have:=HX.out.2.2.2.2.2.1;omega)
  (fun q1 q2 wx ax cx q3 q4=>HB.out.2.2.2 q1 q2 wx τ gt gd _ _ (hts.below q3) rfl (HH.out.below (hb4.trans (q3.mono hb4.size)) (by have:=HX.out.2.2.2.2.2.2.2.2;omega)) ax cx q4))
 have HTS:=hid hts;have HB4:=hid hb4;have HTN:=hid (show ∀ k,τ k ≠ 0→w.heap.size≤k from fun k hk=>Nat.le_trans z1 (hτn k hk))
 have HT4:=hid hts.dom
 clear hts hbn hgt hτ hτn hw4 hb4 hsz hr4 z1
 refine wp_two_k (c:=dropSeq 6 op0) ⟨_,_,rfl⟩ fun K hK=>?_
 have HK:=hid hK
 clear hK
 conv=>arg 2;whnf
 go_wp2_with (go_at_call 57;refine HRD.out.mono ?_;rintro e w5 ⟨fb,M,rfl,hfd,hb5⟩;have HFD:=hid hfd;have HB5:=hid hb5;clear hfd hb5)
 refine HK.out _ _ ?_
 clear HK K
 rw [dropSeq_succ]
 have hz4:=HB4.out.size
 have h0:∀ b,w4.heap.size≤b→τ b=0:=fun b hb=>by
  rcases Nat.eq_zero_or_pos (τ b) with e | e
  · exact e
  · have:=HT4.out b (by omega);omega
 have hol:OL w w5 L τ gt gd d ⟨ep,0,wd,0,false,false,[]⟩ _ fb m M ls 0:=⟨⟨H.out.below (HB4.out.trans (HB5.out.mono hz4)),HTS.out.below HB5.out,fun k hk=>by
  rcases Nat.eq_zero_or_pos (L.ρ k) with e | e
  · exact e
  · have:=H.out.dom k (by omega);have:=HTN.out k hk;omega⟩,HB4.out.trans (HB5.out.mono hz4),HTN.out,⟨HFD.out.map,Nat.le_trans hz4 HFD.out.lo,fun j hj=>by
  obtain ⟨g,q1,q2,q3⟩:=HFD.out.at_ j hj
  exact ⟨g,q1,Nat.le_trans hz4 q2,q3⟩,HFD.out.no⟩,h0 fb HFD.out.lo,fun j g n c hj hM=>by
  obtain ⟨g',q1,q2,-⟩:=HFD.out.at_ j hj
  rw [hM] at q1
  cases q1
  exact h0 _ q2⟩
 exact open_loop w w5 L τ gt gd d _ _ fb m n M ls hol HX.out.1 HX.out.2.1 HX.out.2.2.1 HX.out.2.2.2.1 HX.out.2.2.2.2.1 HX.out.2.2.2.2.2.1 HX.out.2.2.2.2.2.2.1 HX.out.2.2.2.2.2.2.2.1 (by have:=HX.out.2.2.2.2.2.2.2.2;omega) x0 x1 HLF.out _ _ _ _ _ _ _ _ _ _ _ _ _ _ _ _ _ _ _ _ _ _ _ _ _ _ _ _ _ _ _ _ _ _ _ _ _ _ _ _ _ _ _ _ _ _ _ _ _ _ _ _ _ _ _ _ _ _ _ _ _ _ _ _ _ _ _ _ _ _ _ _ _ _ _ _ _ _ _ _ _ _ _ _ _ _ _ _ _ _ _ _ _ _ _ _ _ _ _ _ _ _ _ _ _ _ _ _ _ _ _ _ _ _ _ _ _ _ _ _ _ _ _ _ _ _ _ _ _ _ _ _ _ _ _ _ _ _ _ _ _ _ _ 
end
section
open Go.Maps Go.WideMaps Go.ChangeMaps
def TileBad (wn j:Nat) (b:List UInt8):Prop:=¬ (valN ((b.drop 0).take 1)=210∧valN ((b.drop 1).take 1)=wn∧valN ((b.drop 2).take 1)=0∧valN ((b.drop 3).take 8)=j∧valN ((b.drop 8203).take 4)=(crc (b.take 8203)).toNat)
set_option maxHeartbeats 16000000
theorem take_no (wn j:Nat) (hwn:wn≤32) (hj:j < 1099511627776) (b:List UInt8) (hbl:b.length=8207) (hbad:TileBad wn j b):TakeNo wn j b:=by
 intro w τ gt gd T Y h hT ht a c hr
 have hwb:=h.wdb
 have HWN:=hid (show T.wd=(wn:Int) by omega)
 have HWL:=hid hwn
 obtain ⟨w0,hw0⟩:∃ w0,w0=w.alloc (.cells #[.int .i64 ((0:Nat):Int),.int .i64 (j:Int)] 121):=⟨_,rfl⟩
 have hb0:Below w.heap.size w w0:=by rw [hw0];exact (Below.refl _ _).alloc (Nat.le_refl _) _
 have hz0:w0.heap.size=w.heap.size+1:=by rw [hw0,alloc_size']
 have HZ0:=hid hz0
 have HKX:=hid (show w0.heap[w.heap.size]?=some (.cells #[.int .i64 ((0:Nat):Int),.int .i64 (j:Int)] 121 (0,0)) by rw [hw0];exact heap_alloc_new _ _)
 have hw0':w0=w.alloc (.cells #[.int .i64 0,.int .i64 (j:Int)] 121):=hw0
 clear hw0
 have HT:=hid (And.intro h (And.intro ht hj))
 have HB0:=hid hb0
 have HTL:=hid hbl
 have HR:=hid hr
 have hsl:=fun wx=>slice_to8 wx a 8207 c 8203 (by have:=HR.out.2.1;omega)
 rw [show ((8203:Nat):Int)=(8203:Int) from rfl] at hsl
 have c3:=HT.out.1.cells.2.2.2.1
 rw [HWN.out] at c3
 have hwj:IntKind.u64.wrap (j:Int)=(j:Int):=by simp [IntKind.wrap,IntKind.bits,IntKind.signed];omega
 have hz:2 < w.heap.size:=by have:=HT.out.1.sz;omega
 have hgt:=HT.out.1.dom gt (by rw [HT.out.1.lg];decide)
 have HZ:=hid (And.intro hz hgt)
 have HC3:=hid c3
 obtain ⟨x0,v0⟩:∃ x0,valN ((b.drop 0).take 1)=x0:=⟨_,rfl⟩
 obtain ⟨x1,v1⟩:∃ x1,valN ((b.drop 1).take 1)=x1:=⟨_,rfl⟩
 obtain ⟨x2,v2⟩:∃ x2,valN ((b.drop 2).take 1)=x2:=⟨_,rfl⟩
 obtain ⟨x3,v3⟩:∃ x3,valN ((b.drop 3).take 8)=x3:=⟨_,rfl⟩
 obtain ⟨x4,v4⟩:∃ x4,valN ((b.drop 8203).take 4)=x4:=⟨_,rfl⟩
 have hx0:x0≤255:=by have:=valN_lt ((b.drop 0).take 1);rw [v0] at this;rw [List.length_take,List.length_drop,hbl] at this;simp at this;omega
 have hx1:x1≤255:=by have:=valN_lt ((b.drop 1).take 1);rw [v1] at this;rw [List.length_take,List.length_drop,hbl] at this;simp at this;omega
 have hx2:x2≤255:=by have:=valN_lt ((b.drop 2).take 1);rw [v2] at this;rw [List.length_take,List.length_drop,hbl] at this;simp at this;omega
 unfold TileBad at hbad
 rw [v0,v1,v2,v3,v4,show crc (b.take 8203)=nt (thr 4294967295 (b.take 8203)) from rfl] at hbad
 have HV:=hid (And.intro v0 (And.intro v1 (And.intro v2 (And.intro v3 v4))))
 have hap:∀ b off,a=some ⟨b,off,none⟩→b < w.heap.size:=fun b off e=>hr.lt b off e (by decide)
 have HAP:=hid hap
 have w1':IntKind.i64.wrap (x1:Int)=(x1:Int):=IntWalk.i64_in _ (by omega)
 have w2':IntKind.i64.wrap (x2:Int)=(x2:Int):=IntWalk.i64_in _ (by omega)
 have key:(((x0:Int) == 210)=false)∨(((x0:Int) == 210)=true∧((x1:Int) == (wn:Int))=false)∨(((x0:Int) == 210)=true∧((x1:Int) == (wn:Int))=true∧((x2:Int) == 0)=false)∨(((x0:Int) == 210)=true∧((x1:Int) == (wn:Int))=true∧((x2:Int) == 0)=true∧((x3:Int) == (j:Int))=false)∨(((x0:Int) == 210)=true∧((x1:Int) == (wn:Int))=true∧((x2:Int) == 0)=true∧((x3:Int) == (j:Int))=true∧((x4:Int) == ((nt (thr 4294967295 (b.take 8203))).toNat:Int))=false):=by
  simp only [beq_eq_false_iff_ne,beq_iff_eq,ne_eq]
  omega
 clear h ht hr hb0 hT hwb hj v0 v1 v2 v3 v4 hz hgt c3 hap hbad hbl hwn
 rcases key with q0 | ⟨q0,q1⟩ | ⟨q0,q1,q2⟩ | ⟨q0,q1,q2,q3⟩ | ⟨q0,q1,q2,q3,q4⟩
 all_goals
  go_enter Tryz.func109,Tryz.ntmps109
  go_wp2_with (first
   | (go_at_call 172;rw [← hw0'];refine (read_new w0 a 8207 c b (HR.out.below HB0.out) (by decide)).mono ?_;rintro e w1 ⟨gr,rfl,hgr,hr1,hb1⟩;have HR1:=hid hr1;have HB1:=hid hb1;have HGR:=hid hgr;clear hgr hr1 hb1)
   | (go_at_call 173;refine (take_u8 w1 gr _ 0 HR1.out (by rw [HTL.out];decide)).mono ?_;rintro e w2 ⟨rfl,hr,hg⟩;rw [HV.out.1];have HR2:=hid hr;have HB2:=hid (HB1.out.grown hg HB1.out.size (by intro q hq;cases hq;exact HGR.out));clear hr hg)
   | (go_at_call 173;refine (take_u8 w2 gr _ 1 HR2.out (by rw [HTL.out];decide)).mono ?_;rintro e w3 ⟨rfl,hr,hg⟩;rw [HV.out.2.1];have HR3:=hid hr;have HB3:=hid (HB2.out.grown hg HB2.out.size (by intro q hq;cases hq;exact HGR.out));clear hr hg)
   | (go_at_call 173;refine (take_u8 w3 gr _ 2 HR3.out (by rw [HTL.out];decide)).mono ?_;rintro e w4 ⟨rfl,hr,hg⟩;rw [HV.out.2.2.1];have HR4:=hid hr;have HB4:=hid (HB3.out.grown hg HB3.out.size (by intro q hq;cases hq;exact HGR.out));clear hr hg)
   | (go_at_call 174;refine (take_u64 w4 gr _ 3 HR4.out (by rw [HTL.out];decide)).mono ?_;rintro e w5 ⟨rfl,hr,hg⟩;rw [HV.out.2.2.2.1];have HR5:=hid hr;have HB5:=hid (HB4.out.grown hg HB4.out.size (by intro q hq;cases hq;exact HGR.out));clear hr hg)
   | (go_at_call 175;obtain ⟨a5,n5,c5,hx5⟩:=HR5.out;refine (digests_any w5 gr a5 n5 c5 _ 11 hx5 (by rw [HTL.out];decide)).mono ?_;rintro e w6 ⟨gl,rfl,hgl,hd,hx6,hg⟩;have HR6:=hid hx6.rd;have HB6:=hid (HB5.out.grown hg HB5.out.size (by intro q hq;cases hq;exact HGR.out));clear hgl hd hx6 hg hx5)
   | (go_at_call 176;refine (take_u32 w6 gr _ 8203 HR6.out (by rw [HTL.out];decide)).mono ?_;rintro e w7 ⟨rfl,hr,hg⟩;rw [HV.out.2.2.2.2];have HR7:=hid hr;have HB7:=hid (HB6.out.grown hg HB6.out.size (by intro q hq;cases hq;exact HGR.out));have hbb:=HB0.out.trans (HB7.out.mono (by have:=HB0.out.size;omega));have HBB:=hid hbb;have d3:=(hbb.cell (p:=⟨gt,3,none⟩) HZ.out.2).trans HC3.out;have k0:=cell_of_row w7 w.heap.size 0 _ _ _ ((HB7.out.block w.heap.size (by have:=HZ0.out;omega)).trans HKX.out);have k1:=cell_of_row w7 w.heap.size 1 _ _ _ ((HB7.out.block w.heap.size (by have:=HZ0.out;omega)).trans HKX.out);simp only [List.getElem?_toArray,List.getElem?_cons_zero,List.getElem?_cons_succ] at k0 k1;have hwn:wrap64 (wn:Int)=(wn:Int):=wrap64_small (by omega) (by have:=HWL.out;omega);have HRC:=hid ((HR.out.below hbb).take 8203 (by decide));have HHT:=hid (HT.out.2.1.below hbb HZ.out.1);clear hbb hr hg)
   | (go_at_call 162;refine (crc_any _ _ _ _ _ HRC.out HHT.out).mono ?_;rintro e wx ⟨rfl,hw⟩;subst hw)
   | (go_at_call 177;obtain ⟨a7,n7,c7,hx7⟩:=HR7.out;refine (done_any w7 gr a7 n7 c7 _ (by rw [HTL.out];exact hx7)).mono ?_;rintro e w8 ⟨rfl,kk,hw8⟩;subst hw8))
  refine bodyPost_ret (v:=.tuple #[.slice (some ⟨gl,0,none⟩) 256 256,.bool false]) (by simp [results,Tryz.results109,go_sem]) rfl (And.intro ⟨_,rfl⟩ ?_)
  first | exact below_drewN HBB.out _ | exact HBB.out
end
end Go.Proofs.YtgkehahklccacaaGreatDoor
