import Derived.Test.YtcnckjlmldnblaaGreatDoorR15a
import Derived.Test.YtcnckjlmldnblaaGreatDoorR15e
import Derived.Test.YtcnckjlmldnblaaGreatDoorE19
import Derived.BigGuardPart
import Derived.IntWalk
import Derived.Handy
import Derived.OrdersHeld
import Derived.Deep.RegionHeld3
import Derived.WalkLawsBesides
import Derived.Test.YtcnckjlmldnblaaGreatDoorR10
import Derived.Test.YtcnckjlmldnblaaGreatDoorR12
import Derived.Test.YtcnckjlmldnblaaGreatDoorR14
namespace Go.Proofs.YtcnckjlmldnblaaGreatDoor
open Go Go.RowKit
open List renaming setIfInBounds_toArray → pa, set_cons_zero → pb, set_cons_succ → pc, getElem_toArray → pd, getElem_cons_succ → pe, getElem_cons_zero → pf
set_option maxRecDepth 100000
set_option maxHeartbeats 16000000
set_option linter.unusedVariables false
set_option linter.unusedSimpArgs false
/-- Worths that lie in the elder world, or in rows of their own. -/
def VsOk (w0 W:World) (B:Nat) (vs:List Vc):Prop:=∀ v ∈ vs,RZ w0 v.a v.l v.c v.x.ss∨SV W B (VA v.x v.a v.l v.c) v.x
theorem VsOk.below {w0 W W':World} {B:Nat} {vs:List Vc} (h:VsOk w0 W B vs) (hb:Below W.heap.size W W'):VsOk w0 W' B vs:=fun v hv=>(h v hv).imp id fun h=>h.below hb
theorem SV.grown {W W':World} {B:Nat} {x:Vl} {a:Option Addr} {l c:Nat} (h:SV W B (VA x a l c) x) {B' e' s' n':Nat} {v':Value} {xs':List Value} (h':W.ownsRow B' e' s' v' n' xs') (hne:9 ≠ e') (hg:W.grownBy W' v'.ownBlock):SV W' B (VA x a l c) x:=by
 obtain ⟨a',l',c',e,hl,hh⟩:=h
 refine ⟨a',l',c',e,hl,?_⟩
 rcases hh with hh | hh
 · exact .inl hh
 · exact .inr (own_grown hh h' hne hg)
theorem VsOk.grown {w0 W W':World} {B:Nat} {vs:List Vc} (h:VsOk w0 W B vs) {B' e' s' n':Nat} {v':Value} {xs':List Value} (h':W.ownsRow B' e' s' v' n' xs') (hne:9 ≠ e') (hg:W.grownBy W' v'.ownBlock):VsOk w0 W' B vs:=fun v hv=>(h v hv).imp id fun h=>h.grown h' hne hg
theorem VsOk.snoc {w0 W:World} {B:Nat} {vs:List Vc} (h:VsOk w0 W B vs) {v:Vc} (hv:RZ w0 v.a v.l v.c v.x.ss∨SV W B (VA v.x v.a v.l v.c) v.x):VsOk w0 W B (vs++[v]):=fun u hu=>by
 rcases List.mem_append.1 hu with hu | hu
 · exact h u hu
 · simp only [List.mem_singleton] at hu
   subst hu
   exact hv
theorem new_vc (w:World) (k:Vc) (j:Nat) (u:Value) (h:(Vc.cs k)[j]?=some u):(w.alloc (.cells #[.int .i64 k.x.k,.int .i64 k.x.n,.string k.x.t,.slice k.a k.l k.c] 43)).cell? ((⟨w.heap.size,0,none⟩:Addr).add j)=some u:=by
 rw [Addr.add_lit,cell_of_row _ _ _ _ _ _ (heap_alloc_new w _),Nat.zero_add]
 simpa [Vc.cs] using h
theorem new_iw (w:World) (x:Int) (j:Nat) (u:Value) (h:(Iv x)[j]?=some u):(w.alloc (.cells #[.int .i64 x] 3)).cell? ((⟨w.heap.size,0,none⟩:Addr).add j)=some u:=by
 rw [Addr.add_lit,cell_of_row _ _ _ _ _ _ (heap_alloc_new w _),Nat.zero_add]
 simpa [Iv] using h
theorem slI:Sl Tryz.prog 54 3 (.int .i64 0) 1 8:=⟨by kernel_rfl,by kernel_rfl,rfl,by decide⟩
theorem slV:Sl Tryz.prog 109 43 (.agg #[.int .i64 0,.int .i64 0,.string ByteArray.empty,.slice none 0 0]) 4 56:=⟨by kernel_rfl,by kernel_rfl,rfl,by decide⟩
theorem oper_any (w0:World) (na:Option Addr) (nl nc:Nat) (ns:List Nd) (p:Pd) (d:Nat) (IH:RefAt w0 na nl nc ns p d) (hv:VwOk p.vw) (hn:∀ x ∈ ns,x.ks.length=x.kl∧I64 x.vn) (w:World) (hbw:Below w0.heap.size w0 w) (nd:Nd) (hnd:NdW w0 nd) (hkl:nd.kl≤1000000) (hr:nd.right=true) (hk:∀ k ∈ nd.ks,goodN ns d k) (ho:OtherE nd.op) :
 Calls Tryz.prog 63 #[.slice na nl nc,.agg nd.v,.agg p.cs] w fun e w'=>TogOut w0 w e w' (nodeW (wK ns p.vw d) nd p.vw)∧Below w.heap.size w w':=by
 obtain ⟨w3,hw3,g0,g1,g2,hb3,z3⟩:=boxes3 w (.cells nd.v 56) (boxR p) boxZ
 obtain ⟨B,hB⟩:∃ B,B=w3.heap.size:=⟨_,rfl⟩
 have hB1:w.heap.size+3≤B:=by omega
 have hB2:B≤w3.heap.size:=by omega
 have hB3:w3.heap.size≤B:=by omega
 have hz0:=hbw.size
 have hkids:=otherE_kids hr ho
 have HKIDS:=Lib.hid hkids
 have HNE:=Lib.hid (node_E (f:=wK ns p.vw d) (v:=p.vw) ho (fun h=>by
  have h1:=hnd.ok.1.1
  rw [h1]
  rcases hkids with h' | ⟨h',-⟩ | ⟨-,h'⟩
  · omega
  · omega
  · exact h'))
 have hv':=hv
 have hn':=hn
 have HV':=Lib.hid hv'
 have HN':=Lib.hid hn'
 have HB3:=Lib.hid hb3
 have HW3:=Lib.hid (hbw.trans (hb3.mono hz0))
 have G0:=Lib.hid g0
 have G1:=Lib.hid g1
 have G2:=Lib.hid g2
 have HIH:=Lib.hid IH
 have HK:=Lib.hid hk
 have HKS:=Lib.hid hnd.ok.1.1
 have hkr0:=hnd.ok.1
 have HKR0:=Lib.hid (hkr0.below (hbw.trans (hb3.mono hz0)))
 obtain ⟨n,hn2⟩:∃ n,n=nd.kl:=⟨_,rfl⟩
 rw [← hn2] at hkl
 obtain ⟨ka,hka⟩:∃ ka,ka=nd.ka:=⟨_,rfl⟩
 obtain ⟨kc,hkc⟩:∃ kc,kc=nd.kc:=⟨_,rfl⟩
 have HKR:=Lib.hid (show RS 1 Iv w3 ka n kc nd.ks by rw [hn2,hka,hkc];exact HKR0.out)
 have p6:=cell_of_row w3 _ 6 _ _ _ g0
 simp only [nodeV,List.getElem?_toArray,List.getElem?_cons_zero,List.getElem?_cons_succ] at p6
 rw [← hn2,← hka,← hkc] at p6
 have P6:=Lib.hid p6
 have HN:=Lib.hid hn2
 clear hka hkc hkr0 HKR0 g0 g1 g2 hb3 hbw IH hk hn2 hnd hr ho hkids hv hn hv' hn' hB z3 p6
 go_enter Tryz.func63,Tryz.ntmps63
 go_upto_region 1 with (fail)
 rw [← hw3]
 clear hw3
 go_wp2_with fail
 go_loopw [7,8,9,10,11] (fun e0 l nv b i wr=>∃ (k:Nat) (vs:List Vc) (la ba:Option Addr) (lc bc:Nat),k≤n∧e0=.int .i64 0∧i=.int .i64 k∧vs.length=k∧l=.slice la k lc∧nv=.bool (vs.any fun v=>v.x.k == 0)∧b=.slice ba k bc∧wr.ownsRow B 43 4 (.slice la k lc) k (vs.flatMap Vc.cs)∧wr.ownsRow B 3 1 (.slice ba k bc) k ((vs.map fun v=>v.x.k).flatMap Iv)∧VsOk w0 wr B vs∧seqW ((nd.ks.take k).map (wK ns p.vw d))=.ok (vs.map Vc.x)∧Below B w3 wr) (fun _ _ _ _ i _=>n - (intOf i).toNat)
 case atStart=>exact ⟨0,[],none,none,0,0,by omega,rfl,rfl,rfl,rfl,rfl,rfl,World.ownsRow_nil _ _ _ _,World.ownsRow_nil _ _ _ _,fun v hv=>(by cases hv),rfl,Below.refl _ _⟩
 case round =>
  obtain ⟨k,vs,la,ba,lc,bc,hkn,rfl,rfl,hvl,rfl,rfl,rfl,ho,hbo,hvs,hseq,hb⟩:=hrel
  have HO:=Lib.hid ho
  have HBO:=Lib.hid hbo
  have HVS:=Lib.hid hvs
  have HSQ:=Lib.hid hseq
  have HB:=Lib.hid hb
  have HVL:=Lib.hid hvl
  have zr:=hb.size
  have zr':B≤wr.heap.size:=by omega
  have HWR:=Lib.hid (HW3.out.trans (hb.mono (by have:=HW3.out.size;omega)))
  have G2R:=Lib.hid ((hb.block (w.heap.size+2) (by omega)).trans G2.out)
  obtain ⟨nn,hnn⟩:∃ nn,nn=vs.any fun v=>v.x.k == 0:=⟨_,rfl⟩
  rw [← hnn]
  have HNN:=Lib.hid hnn
  have m6:=(hb.cell (p:=⟨w.heap.size,6,none⟩) (by show w.heap.size < _;omega)).trans P6.out
  have hpk:=(hb.block (w.heap.size+1) (by omega)).trans G1.out
  have k0:=cell_of_row wr _ 0 _ _ _ hpk
  have k1:=cell_of_row wr _ 1 _ _ _ hpk
  have k2:=cell_of_row wr _ 2 _ _ _ hpk
  have k3:=cell_of_row wr _ 3 _ _ _ hpk
  have k4:=cell_of_row wr _ 4 _ _ _ hpk
  simp only [List.getElem?_toArray,List.getElem?_cons_zero,List.getElem?_cons_succ] at k0 k1 k2 k3 k4
  clear ho hbo hvs hseq hb hvl hnn hpk
  by_cases hlt:k < n
  · obtain ⟨kb,ko,x,rfl,hkx,hcx⟩:=HKR.out.at hlt
    have kd:=(HB.out.cell (p:=⟨kb,ko+k * 1+0,none⟩) (by have:=block_lt_of_cell (hcx 0 _ rfl);show kb < _;have h9:kb < w3.heap.size:=this;omega)).trans (hcx 0 _ rfl)
    simp only [Nat.add_zero,Nat.mul_one] at kd
    have hkb:kb < wr.heap.size:=block_lt_of_cell kd
    have hltI:(k:Int) < (n:Int):=by omega
    have HKX:=Lib.hid hkx
    have HGX:=Lib.hid (HK.out x (List.mem_of_getElem? hkx))
    have HKS5:=Lib.hid (show nd.ks=nd.ks.take k++x :: nd.ks.drop (k+1) by
     have hx:=HKX.out
     have hkl':k < nd.ks.length:=(List.getElem?_eq_some_iff.1 hx).1
     rw [List.getElem?_eq_getElem hkl',Option.some.injEq] at hx
     have e:=List.drop_eq_getElem_cons hkl'
     rw [hx] at e
     rw [← e,List.take_append_drop])
    clear hkx hcx
    go_wp2_with fail
    refine wp_region_held_drew (S:=(fun w'=>Below wr.heap.size wr w'∧w'.cell? ⟨w.heap.size,6,none⟩=some (.slice (some ⟨kb,ko,none⟩) n kc)∧w'.cell? ⟨kb,ko+k,none⟩=some (.int .i64 x)∧w'.cell? ⟨w.heap.size+1,0,none⟩=some (.slice p.va p.vl p.vc)∧w'.cell? ⟨w.heap.size+1,1,none⟩=some (.slice p.oa p.ol p.oc)∧w'.cell? ⟨w.heap.size+1,2,none⟩=some (.slice p.ra p.rl p.rc)∧w'.cell? ⟨w.heap.size+1,3,none⟩=some (.int .i64 p.clock)∧w'.cell? ⟨w.heap.size+1,4,none⟩=some (.int .i64 p.steps))) (by kernel_rfl) ⟨(Below.refl _ _).drew,m6,kd,k0,k1,k2,k3,k4⟩ (fun hHeld=>?_)
    clear m6 kd k0 k1 k2 k3 k4
    obtain ⟨wd,hwd⟩:∃ wd,wd=wr.drew:=⟨_,rfl⟩
    have hzw:wr.heap.size≤wd.heap.size:=by rw [hwd];exact Nat.le_refl _
    rw [← hwd] at hHeld ⊢
    clear hwd
    refine tkI (i:=0) (v:=?_) rfl ?_ ?_
    rotate_left
    · intro w hSw;(try dsimp only at hSw);go_simp;try with_reducible rfl
    (try simp only [Act.put,pa,pb,pc,pd,pe,pf])
    refine tkI (i:=1) (v:=?_) rfl ?_ ?_
    rotate_left
    · intro w hSw;(try dsimp only at hSw);go_simp;try with_reducible rfl
    (try simp only [Act.put,pa,pb,pc,pd,pe,pf])
    refine tkI (i:=2) (v:=?_) rfl ?_ ?_
    rotate_left
    · intro w hSw;(try dsimp only at hSw);go_simp;try with_reducible rfl
    (try simp only [Act.put,pa,pb,pc,pd,pe,pf])
    refine tkI (i:=3) (v:=?_) rfl ?_ ?_
    rotate_left
    · intro w hSw;(try dsimp only at hSw);go_simp;try with_reducible rfl
    (try simp only [Act.put,pa,pb,pc,pd,pe,pf])
    refine tkI (i:=4) (v:=?_) rfl ?_ ?_
    rotate_left
    · intro w hSw;(try dsimp only at hSw);go_simp;try with_reducible rfl
    (try simp only [Act.put,pa,pb,pc,pd,pe,pf])
    refine tkI (i:=5) (v:=?_) rfl ?_ ?_
    rotate_left
    · intro w hSw;(try dsimp only at hSw);go_simp;try with_reducible rfl
    (try simp only [Act.put,pa,pb,pc,pd,pe,pf])
    refine tkI (i:=6) (v:=?_) rfl ?_ ?_
    rotate_left
    · intro w hSw;(try dsimp only at hSw);go_simp;try with_reducible rfl
    (try simp only [Act.put,pa,pb,pc,pd,pe,pf])
    refine wpAnyH_ready (rs:=[7,11]) (by kernel_rfl) (by simp) ?_
    refine AllReadyH.cons (o:=_) rfl (fun K hK=>?_) (AllReadyH.cons (o:=_) rfl (fun K hK=>?_) AllReadyH.nil)
    · go_simp
      refine (HIH.out wd x (HWR.out.trans (hHeld.1.mono HWR.out.size)) HGX.out).mono ?_
      rintro e y1 ⟨⟨v,z,er,rfl,⟨za,zl,zc,rfl,hrv⟩,hr⟩,hb⟩
      have HRR:=Lib.hid hr
      have HRV0:=Lib.hid (hrv.imp id (fun h=>h.mono (show B≤wd.heap.size by have:=hHeld.1.size;omega)):RZ w0 za zl zc z.ss∨SV y1 B (VA z za zl zc) z)
      have hyz:=hb.size
      refine hK.out _ _ ⟨hHeld.1.trans (hb.mono hHeld.1.size),keepb hb hHeld.2.1,keepb hb hHeld.2.2.1,keepb hb hHeld.2.2.2.1,keepb hb hHeld.2.2.2.2.1,keepb hb hHeld.2.2.2.2.2.1,keepb hb hHeld.2.2.2.2.2.2.1,keepb hb hHeld.2.2.2.2.2.2.2⟩ (fun hHeld=>?_)
      clear hK K hb hr hrv
      (try simp only [Act.put,pa,pb,pc,pd,pe,pf])
      refine tkI (i:=8) (v:=?_) rfl ?_ ?_
      rotate_left
      · intro w hSw;(try dsimp only at hSw);go_simp;try with_reducible rfl
      (try simp only [Act.put,pa,pb,pc,pd,pe,pf])
      refine tkI (i:=9) (v:=?_) rfl ?_ ?_
      rotate_left
      · intro w hSw;(try dsimp only at hSw);go_simp;try with_reducible rfl
      (try simp only [Act.put,pa,pb,pc,pd,pe,pf])
      refine tkI (i:=10) (v:=?_) rfl ?_ ?_
      rotate_left
      · intro w hSw;(try dsimp only at hSw);go_simp;try with_reducible rfl
      (try simp only [Act.put,pa,pb,pc,pd,pe,pf])
      refine wpAnyH_ready (rs:=[11]) (by kernel_rfl) (by simp) ?_
      refine AllReadyH.cons (o:=_) rfl (fun K hK=>?_) AllReadyH.nil
      go_simp
      have hbz:Below y1.heap.size y1 (y1.alloc boxZ):=bel1 _ _
      have gz:=heap_alloc_new y1 (.cells #[.int .i64 0,.int .i64 0,.string ByteArray.empty,.slice none 0 0] 43)
      refine hK.out _ _ ⟨hHeld.1.trans (hbz.mono hHeld.1.size),keepb hbz hHeld.2.1,keepb hbz hHeld.2.2.1,keepb hbz hHeld.2.2.2.1,keepb hbz hHeld.2.2.2.2.1,keepb hbz hHeld.2.2.2.2.2.1,keepb hbz hHeld.2.2.2.2.2.2.1,keepb hbz hHeld.2.2.2.2.2.2.2⟩ (fun hHeld=>?_)
      clear hK K
      (try simp only [Act.put,pa,pb,pc,pd,pe,pf])
      obtain ⟨y2,hy2⟩:∃ y2,y2=y1.alloc boxZ:=⟨_,rfl⟩
      rw [← hy2] at hHeld hbz
      rw [show y1.alloc (.cells #[.int .i64 0,.int .i64 0,.string ByteArray.empty,.slice none 0 0] 43)=y2 from hy2.symm] at gz
      rw [← hy2]
      have GZ:=Lib.hid gz
      have HRV:=Lib.hid (HRV0.out.imp (fun h=>h) (fun h=>h.below hbz))
      clear hbz gz hy2
      obtain ⟨d0,d1,d2,d3,f0,f1,f2,f3⟩:=box4 GZ.out
      have hneg:w.heap.size ≠ y1.heap.size:=by omega
      have hnep:w.heap.size+1 ≠ y1.heap.size:=by omega
      have hnek:kb ≠ y1.heap.size:=by omega
      refine wpAnyH_ready (rs:=[12]) (by kernel_rfl) (by simp) ?_
      refine AllReadyH.cons (o:=_) rfl (fun K hK=>?_) AllReadyH.nil
      go_simp
      refine hK.out _ _ ⟨below_box (by omega) hHeld.1 _ _ _ _,keepo hHeld.2.1 hneg,keepo hHeld.2.2.1 hnek,keepo hHeld.2.2.2.1 hnep,keepo hHeld.2.2.2.2.1 hnep,keepo hHeld.2.2.2.2.2.1 hnep,keepo hHeld.2.2.2.2.2.2.1 hnep,keepo hHeld.2.2.2.2.2.2.2 hnep⟩ (fun hHeld=>?_)
      clear hK K d0 d1 d2 d3 f0 f1 f2 f3
      (try simp only [Act.put,pa,pb,pc,pd,pe,pf])
      refine tkI (i:=13) (v:=?_) rfl ?_ ?_
      rotate_left
      · intro w hSw;(try dsimp only at hSw);go_simp;try with_reducible rfl
      (try simp only [Act.put,pa,pb,pc,pd,pe,pf])
      refine wpAnyH_done (by kernel_rfl) ?_ _
      go_upto_region 8 with (fail)
      have gx:=heap_box GZ.out (.int .i64 z.k) (.int .i64 z.n) (.string z.t) (.slice za zl zc)
      have hrv4:=HRV.out.imp (fun h=>h) (fun h=>SV.setbox h GZ.out (by decide) (.int .i64 z.k) (.int .i64 z.n) (.string z.t) (.slice za zl zc))
      obtain ⟨gb,hgb⟩:∃ gb,gb=y1.heap.size:=⟨_,rfl⟩
      obtain ⟨w4,hw4⟩:∃ w4,w4=((((y2.setCell ⟨y1.heap.size,0,none⟩ (.int .i64 z.k)).setCell ⟨y1.heap.size,1,none⟩ (.int .i64 z.n)).setCell ⟨y1.heap.size,2,none⟩ (.string z.t)).setCell ⟨y1.heap.size,3,none⟩ (.slice za zl zc)):=⟨_,rfl⟩
      have hgr:wr.heap.size≤gb:=by omega
      rw [← hw4] at gx hHeld hrv4 ⊢
      rw [← hgb] at gx ⊢
      have hb4:=hHeld.1
      have HG4:=Lib.hid gx
      have HRV4:=Lib.hid hrv4
      have HB4:=Lib.hid (HB.out.trans (hb4.mono zr'))
      have HO4:=Lib.hid (own_below HO.out hb4)
      have HBO4:=Lib.hid (own_below HBO.out hb4)
      have HVS4:=Lib.hid (HVS.out.below hb4)
      have hgb4:gb < w4.heap.size:=(Array.getElem?_eq_some_iff.1 gx).1
      have G24:=Lib.hid ((hb4.block (w.heap.size+2) (by omega)).trans G2R.out)
      have z4:=hb4.size
      clear hHeld hb4 hrv4 hw4 hgb gx HRV GZ HRV0
      cases he:(er != 0)
      rotate_left
      · have HS2:=Lib.hid (show nodeW (wK ns p.vw d) nd p.vw=.error er∧er ≠ 0 by
         rcases HRR.out with ⟨-,h⟩ | ⟨h,h0⟩
         · rw [h] at he;cases he
         · exact ⟨by rw [HNE.out,HKS5.out,List.map_append,List.map_cons,h,seq_err HSQ.out],h0⟩)
        clear HRR
        obtain ⟨c0,c1,c2,c3,-⟩:=box4 HG4.out
        obtain ⟨d0,d1,d2,d3,f0,f1,f2,f3⟩:=box4 G24.out
        go_wp2_with fail
        refine bodyPost_ret (res2c Tryz.results63 _ _ (w.heap.size+2) _ _ _ _ _ (heap_box G24.out _ _ _ _) rfl rfl) rfl ?_
        have hrv2:RV w0 _ w.heap.size (VA z za zl zc) z:=⟨za,zl,zc,rfl,HRV4.out.imp (fun h=>h) (fun h=>(SV.setbox h G24.out (by decide) (.int .i64 z.k) (.int .i64 z.n) (.string z.t) (.slice za zl zc)).mono (show w.heap.size≤B by omega))⟩
        exact ⟨.err (z:=z) rfl hrv2 HS2.out.1 HS2.out.2,below_box (by omega) (HB3.out.trans (HB4.out.mono (by omega))) _ _ _ _⟩
      have hez:er=0:=by simpa using he
      have HQ:=Lib.hid (show wK ns p.vw d x=.ok z by
       rcases HRR.out with ⟨h,-⟩ | ⟨-,h⟩
       · exact h
       · exact absurd hez h)
      subst hez
      clear he HRR
      have HSQ6:=Lib.hid (show seqW ((nd.ks.take (k+1)).map (wK ns p.vw d))=.ok ((vs++[(⟨z,za,zl,zc⟩:Vc)]).map Vc.x) by
       rw [List.take_add_one,HKX.out,List.map_append,List.map_append]
       simp only [Option.toList_some,List.map_cons,List.map_nil,HQ.out]
       exact seq_snoc HSQ.out)
      have HVL6:=Lib.hid (show (vs++[(⟨z,za,zl,zc⟩:Vc)]).length=k+1 by simp [HVL.out])
      have HNN6:=Lib.hid (show ((vs++[(⟨z,za,zl,zc⟩:Vc)]).any fun v=>v.x.k == 0)=(nn || (z.k == 0)) by simp [← HNN.out])
      clear HNE HKS5
      obtain ⟨c0,c1,c2,c3,-⟩:=box4 HG4.out
      cases nn
      all_goals
       go_wp2_with (first
        | (at_builtin;(refine L_appendN rfl _ _ _ rfl slI B (.slice ba k bc) k _ rfl (own_below HBO4.out (bel1 _ (.cells #[.int .i64 z.k] 3))) _ 1 1 (Iv z.k) rfl rfl (new_iw _ z.k) (by simp [Iv,Value.oneCell']) (by omega) (by simp [maxLen];omega) (by simp;omega) (fun a6 c6 w6 ho6 hg6 hat6=>?_)
                       have HBO6:=Lib.hid (show w6.ownsRow B 3 1 (.slice a6 (k+1) c6) (k+1) (((vs++[(⟨z,za,zl,zc⟩:Vc)]).map fun v=>v.x.k).flatMap Iv) by simpa using ho6)
                       have HB6:=Lib.hid ((HB4.out.alloc (by omega) (.cells #[.int .i64 z.k] 3)).grown hg6 (by simp;omega) (fun q hq=>(HBO4.out.lt q hq).1))
                       have HO6:=Lib.hid (own_grown (own_below HO4.out (bel1 _ (.cells #[.int .i64 z.k] 3))) (own_below HBO4.out (bel1 _ (.cells #[.int .i64 z.k] 3))) (by decide) hg6)
                       have HVS6:=Lib.hid ((HVS4.out.below (bel1 _ (.cells #[.int .i64 z.k] 3))).grown (own_below HBO4.out (bel1 _ (.cells #[.int .i64 z.k] 3))) (by decide) hg6)
                       have HRV6:=Lib.hid (HRV4.out.imp (fun h=>h) (fun h=>(h.below (bel1 _ (.cells #[.int .i64 z.k] 3))).grown (own_below HBO4.out (bel1 _ (.cells #[.int .i64 z.k] 3))) (by decide) hg6))
                       have HG5:=(heap_old w4 (.cells #[.int .i64 z.k] 3) hgb4).trans HG4.out
                       have HG6:=Lib.hid ((hg6.block gb (by simp;omega) (fun e=>own_ne (own_below HBO4.out (bel1 _ (.cells #[.int .i64 z.k] 3))) HG5 (by decide) e.symm)).trans HG5)
                       have z6:=HB6.out.size
                       clear ho6 hg6 hat6 HG5 c0 c1 c2 c3
                       obtain ⟨c0,c1,c2,c3,-⟩:=box4 HG6.out))
        | (at_builtin;(refine L_appendN rfl _ _ _ rfl slV B (.slice la k lc) k _ rfl (own_below HO6.out (bel1 _ (.cells #[.int .i64 z.k,.int .i64 z.n,.string z.t,.slice za zl zc] 43))) _ 1 1 (Vc.cs (⟨z,za,zl,zc⟩:Vc)) rfl rfl (new_vc _ (⟨z,za,zl,zc⟩:Vc)) (by simp [Vc.cs,Value.oneCell']) (by omega) (by simp [maxLen];omega) (by simp;omega) (fun a7 c7 w7 ho7 hg7 hat7=>?_)
                       have HO7:=Lib.hid (show w7.ownsRow B 43 4 (.slice a7 (k+1) c7) (k+1) ((vs++[(⟨z,za,zl,zc⟩:Vc)]).flatMap Vc.cs) by simpa using ho7)
                       have HB7:=Lib.hid ((HB6.out.alloc (by omega) (.cells #[.int .i64 z.k,.int .i64 z.n,.string z.t,.slice za zl zc] 43)).grown hg7 (by simp;omega) (fun q hq=>(HO6.out.lt q hq).1))
                       have HBO7:=Lib.hid (own_grown (own_below HBO6.out (bel1 _ (.cells #[.int .i64 z.k,.int .i64 z.n,.string z.t,.slice za zl zc] 43))) (own_below HO6.out (bel1 _ (.cells #[.int .i64 z.k,.int .i64 z.n,.string z.t,.slice za zl zc] 43))) (by decide) hg7)
                       have HVS7:=Lib.hid (((HVS6.out.snoc (v:=⟨z,za,zl,zc⟩) HRV6.out).below (bel1 _ (.cells #[.int .i64 z.k,.int .i64 z.n,.string z.t,.slice za zl zc] 43))).grown (own_below HO6.out (bel1 _ (.cells #[.int .i64 z.k,.int .i64 z.n,.string z.t,.slice za zl zc] 43))) (by decide) hg7)
                       clear ho7 hg7 hat7)))
       go_roundw
       case rel=>exact ⟨k+1,vs++[(⟨z,za,zl,zc⟩:Vc)],a7,a6,c7,c6,by omega,rfl,by go_num,HVL6.out,rfl,by rw [HNN6.out];first | rfl | (cases (z.k == 0) <;> rfl),rfl,HO7.out,HBO7.out,HVS7.out,HSQ6.out,HB7.out⟩
       case measure=>simp [intOf];omega
    · go_simp
      have hbz:Below wd.heap.size wd (wd.alloc boxZ):=bel1 _ _
      have gz:=heap_alloc_new wd (.cells #[.int .i64 0,.int .i64 0,.string ByteArray.empty,.slice none 0 0] 43)
      refine hK.out _ _ ⟨hHeld.1.trans (hbz.mono hHeld.1.size),keepb hbz hHeld.2.1,keepb hbz hHeld.2.2.1,keepb hbz hHeld.2.2.2.1,keepb hbz hHeld.2.2.2.2.1,keepb hbz hHeld.2.2.2.2.2.1,keepb hbz hHeld.2.2.2.2.2.2.1,keepb hbz hHeld.2.2.2.2.2.2.2⟩ (fun hHeld=>?_)
      clear hK K
      (try simp only [Act.put,pa,pb,pc,pd,pe,pf])
      obtain ⟨y0,hy0⟩:∃ y0,y0=wd.alloc boxZ:=⟨_,rfl⟩
      rw [← hy0] at hHeld hbz
      rw [show wd.alloc (.cells #[.int .i64 0,.int .i64 0,.string ByteArray.empty,.slice none 0 0] 43)=y0 from hy0.symm] at gz
      rw [← hy0]
      have G0Z:=Lib.hid gz
      clear hbz gz hy0
      refine wpAnyH_ready (rs:=[7]) (by kernel_rfl) (by simp) ?_
      refine AllReadyH.cons (o:=_) rfl (fun K hK=>?_) AllReadyH.nil
      go_simp
      refine (HIH.out y0 x (HWR.out.trans (hHeld.1.mono HWR.out.size)) HGX.out).mono ?_
      rintro e y1 ⟨⟨v,z,er,rfl,⟨za,zl,zc,rfl,hrv⟩,hr⟩,hb⟩
      have HRR:=Lib.hid hr
      have HRV0:=Lib.hid (hrv.imp id (fun h=>h.mono (show B≤y0.heap.size by have:=hHeld.1.size;omega)):RZ w0 za zl zc z.ss∨SV y1 B (VA z za zl zc) z)
      have GZ:=Lib.hid ((hb.block _ (Array.getElem?_eq_some_iff.1 G0Z.out).1).trans G0Z.out)
      refine hK.out _ _ ⟨hHeld.1.trans (hb.mono hHeld.1.size),keepb hb hHeld.2.1,keepb hb hHeld.2.2.1,keepb hb hHeld.2.2.2.1,keepb hb hHeld.2.2.2.2.1,keepb hb hHeld.2.2.2.2.2.1,keepb hb hHeld.2.2.2.2.2.2.1,keepb hb hHeld.2.2.2.2.2.2.2⟩ (fun hHeld=>?_)
      clear hK K hb hr hrv
      (try simp only [Act.put,pa,pb,pc,pd,pe,pf])
      have HRV:=HRV0
      refine tkI (i:=8) (v:=?_) rfl ?_ ?_
      rotate_left
      · intro w hSw;(try dsimp only at hSw);go_simp;try with_reducible rfl
      (try simp only [Act.put,pa,pb,pc,pd,pe,pf])
      refine tkI (i:=9) (v:=?_) rfl ?_ ?_
      rotate_left
      · intro w hSw;(try dsimp only at hSw);go_simp;try with_reducible rfl
      (try simp only [Act.put,pa,pb,pc,pd,pe,pf])
      refine tkI (i:=10) (v:=?_) rfl ?_ ?_
      rotate_left
      · intro w hSw;(try dsimp only at hSw);go_simp;try with_reducible rfl
      (try simp only [Act.put,pa,pb,pc,pd,pe,pf])
      obtain ⟨d0,d1,d2,d3,f0,f1,f2,f3⟩:=box4 GZ.out
      have hneg:w.heap.size ≠ wd.heap.size:=by omega
      have hnep:w.heap.size+1 ≠ wd.heap.size:=by omega
      have hnek:kb ≠ wd.heap.size:=by omega
      refine wpAnyH_ready (rs:=[12]) (by kernel_rfl) (by simp) ?_
      refine AllReadyH.cons (o:=_) rfl (fun K hK=>?_) AllReadyH.nil
      go_simp
      refine hK.out _ _ ⟨below_box (by omega) hHeld.1 _ _ _ _,keepo hHeld.2.1 hneg,keepo hHeld.2.2.1 hnek,keepo hHeld.2.2.2.1 hnep,keepo hHeld.2.2.2.2.1 hnep,keepo hHeld.2.2.2.2.2.1 hnep,keepo hHeld.2.2.2.2.2.2.1 hnep,keepo hHeld.2.2.2.2.2.2.2 hnep⟩ (fun hHeld=>?_)
      clear hK K d0 d1 d2 d3 f0 f1 f2 f3
      (try simp only [Act.put,pa,pb,pc,pd,pe,pf])
      refine tkI (i:=13) (v:=?_) rfl ?_ ?_
      rotate_left
      · intro w hSw;(try dsimp only at hSw);go_simp;try with_reducible rfl
      (try simp only [Act.put,pa,pb,pc,pd,pe,pf])
      refine wpAnyH_done (by kernel_rfl) ?_ _
      go_upto_region 8 with (fail)
      have gx:=heap_box GZ.out (.int .i64 z.k) (.int .i64 z.n) (.string z.t) (.slice za zl zc)
      have hrv4:=HRV.out.imp (fun h=>h) (fun h=>SV.setbox h GZ.out (by decide) (.int .i64 z.k) (.int .i64 z.n) (.string z.t) (.slice za zl zc))
      obtain ⟨gb,hgb⟩:∃ gb,gb=wd.heap.size:=⟨_,rfl⟩
      obtain ⟨w4,hw4⟩:∃ w4,w4=((((y1.setCell ⟨wd.heap.size,0,none⟩ (.int .i64 z.k)).setCell ⟨wd.heap.size,1,none⟩ (.int .i64 z.n)).setCell ⟨wd.heap.size,2,none⟩ (.string z.t)).setCell ⟨wd.heap.size,3,none⟩ (.slice za zl zc)):=⟨_,rfl⟩
      have hgr:wr.heap.size≤gb:=by omega
      rw [← hw4] at gx hHeld hrv4 ⊢
      rw [← hgb] at gx ⊢
      have hb4:=hHeld.1
      have HG4:=Lib.hid gx
      have HRV4:=Lib.hid hrv4
      have HB4:=Lib.hid (HB.out.trans (hb4.mono zr'))
      have HO4:=Lib.hid (own_below HO.out hb4)
      have HBO4:=Lib.hid (own_below HBO.out hb4)
      have HVS4:=Lib.hid (HVS.out.below hb4)
      have hgb4:gb < w4.heap.size:=(Array.getElem?_eq_some_iff.1 gx).1
      have G24:=Lib.hid ((hb4.block (w.heap.size+2) (by omega)).trans G2R.out)
      have z4:=hb4.size
      clear hHeld hb4 hrv4 hw4 hgb gx HRV GZ HRV0
      cases he:(er != 0)
      rotate_left
      · have HS2:=Lib.hid (show nodeW (wK ns p.vw d) nd p.vw=.error er∧er ≠ 0 by
         rcases HRR.out with ⟨-,h⟩ | ⟨h,h0⟩
         · rw [h] at he;cases he
         · exact ⟨by rw [HNE.out,HKS5.out,List.map_append,List.map_cons,h,seq_err HSQ.out],h0⟩)
        clear HRR
        obtain ⟨c0,c1,c2,c3,-⟩:=box4 HG4.out
        obtain ⟨d0,d1,d2,d3,f0,f1,f2,f3⟩:=box4 G24.out
        go_wp2_with fail
        refine bodyPost_ret (res2c Tryz.results63 _ _ (w.heap.size+2) _ _ _ _ _ (heap_box G24.out _ _ _ _) rfl rfl) rfl ?_
        have hrv2:RV w0 _ w.heap.size (VA z za zl zc) z:=⟨za,zl,zc,rfl,HRV4.out.imp (fun h=>h) (fun h=>(SV.setbox h G24.out (by decide) (.int .i64 z.k) (.int .i64 z.n) (.string z.t) (.slice za zl zc)).mono (show w.heap.size≤B by omega))⟩
        exact ⟨.err (z:=z) rfl hrv2 HS2.out.1 HS2.out.2,below_box (by omega) (HB3.out.trans (HB4.out.mono (by omega))) _ _ _ _⟩
      have hez:er=0:=by simpa using he
      have HQ:=Lib.hid (show wK ns p.vw d x=.ok z by
       rcases HRR.out with ⟨h,-⟩ | ⟨-,h⟩
       · exact h
       · exact absurd hez h)
      subst hez
      clear he HRR
      have HSQ6:=Lib.hid (show seqW ((nd.ks.take (k+1)).map (wK ns p.vw d))=.ok ((vs++[(⟨z,za,zl,zc⟩:Vc)]).map Vc.x) by
       rw [List.take_add_one,HKX.out,List.map_append,List.map_append]
       simp only [Option.toList_some,List.map_cons,List.map_nil,HQ.out]
       exact seq_snoc HSQ.out)
      have HVL6:=Lib.hid (show (vs++[(⟨z,za,zl,zc⟩:Vc)]).length=k+1 by simp [HVL.out])
      have HNN6:=Lib.hid (show ((vs++[(⟨z,za,zl,zc⟩:Vc)]).any fun v=>v.x.k == 0)=(nn || (z.k == 0)) by simp [← HNN.out])
      clear HNE HKS5
      obtain ⟨c0,c1,c2,c3,-⟩:=box4 HG4.out
      cases nn
      all_goals
       go_wp2_with (first
        | (at_builtin;(refine L_appendN rfl _ _ _ rfl slI B (.slice ba k bc) k _ rfl (own_below HBO4.out (bel1 _ (.cells #[.int .i64 z.k] 3))) _ 1 1 (Iv z.k) rfl rfl (new_iw _ z.k) (by simp [Iv,Value.oneCell']) (by omega) (by simp [maxLen];omega) (by simp;omega) (fun a6 c6 w6 ho6 hg6 hat6=>?_)
                       have HBO6:=Lib.hid (show w6.ownsRow B 3 1 (.slice a6 (k+1) c6) (k+1) (((vs++[(⟨z,za,zl,zc⟩:Vc)]).map fun v=>v.x.k).flatMap Iv) by simpa using ho6)
                       have HB6:=Lib.hid ((HB4.out.alloc (by omega) (.cells #[.int .i64 z.k] 3)).grown hg6 (by simp;omega) (fun q hq=>(HBO4.out.lt q hq).1))
                       have HO6:=Lib.hid (own_grown (own_below HO4.out (bel1 _ (.cells #[.int .i64 z.k] 3))) (own_below HBO4.out (bel1 _ (.cells #[.int .i64 z.k] 3))) (by decide) hg6)
                       have HVS6:=Lib.hid ((HVS4.out.below (bel1 _ (.cells #[.int .i64 z.k] 3))).grown (own_below HBO4.out (bel1 _ (.cells #[.int .i64 z.k] 3))) (by decide) hg6)
                       have HRV6:=Lib.hid (HRV4.out.imp (fun h=>h) (fun h=>(h.below (bel1 _ (.cells #[.int .i64 z.k] 3))).grown (own_below HBO4.out (bel1 _ (.cells #[.int .i64 z.k] 3))) (by decide) hg6))
                       have HG5:=(heap_old w4 (.cells #[.int .i64 z.k] 3) hgb4).trans HG4.out
                       have HG6:=Lib.hid ((hg6.block gb (by simp;omega) (fun e=>own_ne (own_below HBO4.out (bel1 _ (.cells #[.int .i64 z.k] 3))) HG5 (by decide) e.symm)).trans HG5)
                       have z6:=HB6.out.size
                       clear ho6 hg6 hat6 HG5 c0 c1 c2 c3
                       obtain ⟨c0,c1,c2,c3,-⟩:=box4 HG6.out))
        | (at_builtin;(refine L_appendN rfl _ _ _ rfl slV B (.slice la k lc) k _ rfl (own_below HO6.out (bel1 _ (.cells #[.int .i64 z.k,.int .i64 z.n,.string z.t,.slice za zl zc] 43))) _ 1 1 (Vc.cs (⟨z,za,zl,zc⟩:Vc)) rfl rfl (new_vc _ (⟨z,za,zl,zc⟩:Vc)) (by simp [Vc.cs,Value.oneCell']) (by omega) (by simp [maxLen];omega) (by simp;omega) (fun a7 c7 w7 ho7 hg7 hat7=>?_)
                       have HO7:=Lib.hid (show w7.ownsRow B 43 4 (.slice a7 (k+1) c7) (k+1) ((vs++[(⟨z,za,zl,zc⟩:Vc)]).flatMap Vc.cs) by simpa using ho7)
                       have HB7:=Lib.hid ((HB6.out.alloc (by omega) (.cells #[.int .i64 z.k,.int .i64 z.n,.string z.t,.slice za zl zc] 43)).grown hg7 (by simp;omega) (fun q hq=>(HO6.out.lt q hq).1))
                       have HBO7:=Lib.hid (own_grown (own_below HBO6.out (bel1 _ (.cells #[.int .i64 z.k,.int .i64 z.n,.string z.t,.slice za zl zc] 43))) (own_below HO6.out (bel1 _ (.cells #[.int .i64 z.k,.int .i64 z.n,.string z.t,.slice za zl zc] 43))) (by decide) hg7)
                       have HVS7:=Lib.hid (((HVS6.out.snoc (v:=⟨z,za,zl,zc⟩) HRV6.out).below (bel1 _ (.cells #[.int .i64 z.k,.int .i64 z.n,.string z.t,.slice za zl zc] 43))).grown (own_below HO6.out (bel1 _ (.cells #[.int .i64 z.k,.int .i64 z.n,.string z.t,.slice za zl zc] 43))) (by decide) hg7)
                       clear ho7 hg7 hat7)))
       go_roundw
       case rel=>exact ⟨k+1,vs++[(⟨z,za,zl,zc⟩:Vc)],a7,a6,c7,c6,by omega,rfl,by go_num,HVL6.out,rfl,by rw [HNN6.out];first | rfl | (cases (z.k == 0) <;> rfl),rfl,HO7.out,HBO7.out,HVS7.out,HSQ6.out,HB7.out⟩
       case measure=>simp [intOf];omega
  · have hltI:¬ (k:Int) < (n:Int):=by omega
    obtain rfl:k=n:=by omega
    have hv':=HV'.out
    have hn':=HN'.out
    have HRL:=Lib.hid HO.out
    have HEQ:=Lib.hid (show nodeW (wK ns p.vw d) nd p.vw=opE nd.op (vs.map Vc.x) by
     rw [HNE.out]
     have q:=HSQ.out
     rw [List.take_of_length_le (by rw [HKS.out,← HN.out];exact Nat.le_refl _)] at q
     rw [q])
    have HFIT:=Lib.hid (fit_seq (nd.ks.map (wK ns p.vw d)) (fun r hr=>by obtain ⟨q,hq,rfl⟩:=List.mem_map.1 hr;exact fit_wK hv' hn' d q (HK.out q hq)) (vs.map Vc.x) (by
     have q:=HSQ.out
     rwa [List.take_of_length_le (by rw [HKS.out,← HN.out];exact Nat.le_refl _)] at q))
    have HST:=Lib.hid (show OpSt w wr B nd k la ba lc bc vs from ⟨HB3.out.trans (HB.out.mono (by omega)),(HB.out.block _ (by omega)).trans G0.out,G2R.out,HO.out,RS.of_owns HBO.out (by decide) Iv_len (by omega),fun v hv=>by
     have hf:=HFIT.out v.x (List.mem_map.2 ⟨v,hv,rfl⟩)
     rcases HVS.out v hv with h | h
     · exact h.below (HW3.out.trans (HB.out.mono (by have:=HW3.out.size;omega)))
     · obtain ⟨a',l',c',e,hl,-⟩:=id h
       simp only [VA,Value.agg.injEq,Array.mk.injEq,List.cons.injEq,Value.slice.injEq,true_and,and_true] at e
       obtain ⟨rfl,rfl,rfl⟩:=e
       exact h.rz (by have:=(right_parts hf.r).2.2.2.2;omega),fun v hv=>HFIT.out v.x (List.mem_map.2 ⟨v,hv,rfl⟩)⟩)
    clear hv' hn' k0 k1 k2 k3 k4
    rcases HKIDS.out with h | ⟨h,hkl1⟩ | ⟨h,hkl2⟩
    · have q0:=cell_of_row _ _ 0 _ _ _ HST.out.g0
      simp only [nodeV,List.getElem?_toArray,List.getElem?_cons_zero] at q0
      have h1112:¬ (nd.op=11∨nd.op=12):=by omega
      have e11:(nd.op == 11)=false:=by simp;omega
      have e12:(nd.op == 12)=false:=by simp;omega
      have H6:=Lib.hid h
      have H1112:=Lib.hid h1112
      clear h h1112
      cases nn
      · go_upto_region 17 with (fail)
        refine op_set w0 w wr B nd la ba lc bc k (by omega) vs HST.out hz0 hB1 H6.out (by have:=HNN.out;simpa using this.symm) _ HEQ.out _ _ _ _ _ _ _ _ _ _ _ _ _ _ _ _ _ _ _ _ _ _ _ _ _ _ _ _ _ _ _ _ _ _ _ _ _ _ _ _ _ _ _ _ _ _ _ _ _ _ _ _ _ _ _ _ _ _ _ _ _ _ _ _ _ _ _ _ _ _ _ _ _ _ _ _ _ _ _ _ _ _ _ _ _ _ _ _ _ _ _ _ _ _ _ _ _ _ _ _ _ _ _ _ _ _ _ _ _ _ _ _ _ _ _ _ _ _ _ _ _ _ _ _ _ _ _ _ _ _ _ _ _ _ ?_ ?_
        · assumption
        · assumption
      · go_upto_region 17 with (fail)
        refine op_none w0 w wr B nd la ba lc bc k vs HST.out hz0 hB1 H1112.out (by have:=HNN.out;simpa using this.symm) _ HEQ.out _ _ _ _ _ _ _ _ _ _ _ _ _ _ _ _ _ _ _ _ _ _ _ _ _ _ _ _ _ _ _ _ _ _ _ _ _ _ _ _ _ _ _ _ _ _ _ _ _ _ _ _ _ _ _ _ _ _ _ _ _ _ _ _ _ _ _ _ _ _ _ _ _ _ _ _ _ _ _ _ _ _ _ _ _ _ _ _ _ _ _ _ _ _ _ _ _ _ _ _ _ _ _ _ _ _ _ _ _ _ _ _ _ _ _ _ _ _ _ _ _ _ _ _ _ _ _ _ _ _ _ _ _ _ ?_ ?_
        · assumption
        · assumption
    · have q0:=cell_of_row _ _ 0 _ _ _ HST.out.g0
      simp only [nodeV,List.getElem?_toArray,List.getElem?_cons_zero] at q0
      have h1112:¬ (nd.op=11∨nd.op=12):=by omega
      have e11:(nd.op == 11)=false:=by simp;omega
      have e12:(nd.op == 12)=false:=by simp;omega
      have H6:=Lib.hid h
      have H1112:=Lib.hid h1112
      have hk1:k=1:=by rw [HN.out];exact hkl1
      subst hk1
      obtain ⟨v,rfl⟩:∃ v,vs=[v]:=by
       have:=HVL.out
       match vs,this with
       | [v],_=>exact ⟨v,rfl⟩
      clear h h1112 hkl1
      cases nn
      · go_upto_region 17 with (fail)
        refine op_one w0 w wr B nd la ba lc bc v HST.out hz0 hB1 H6.out (by have:=HNN.out;simpa using this.symm) _ HEQ.out _ _ _ _ _ _ _ _ _ _ _ _ _ _ _ _ _ _ _ _ _ _ _ _ _ _ _ _ _ _ _ _ _ _ _ _ _ _ _ _ _ _ _ _ _ _ _ _ _ _ _ _ _ _ _ _ _ _ _ _ _ _ _ _ _ _ _ _ _ _ _ _ _ _ _ _ _ _ _ _ _ _ _ _ _ _ _ _ _ _ _ _ _ _ _ _ _ _ _ _ _ _ _ _ _ _ _ _ _ _ _ _ _ _ _ _ _ _ _ _ _ _ _ _ _ _ _ _ _ _ _ _ _ _ ?_ ?_
        · assumption
        · assumption
      · go_upto_region 17 with (fail)
        refine op_none w0 w wr B nd la ba lc bc 1 [v] HST.out hz0 hB1 H1112.out (by have:=HNN.out;simpa using this.symm) _ HEQ.out _ _ _ _ _ _ _ _ _ _ _ _ _ _ _ _ _ _ _ _ _ _ _ _ _ _ _ _ _ _ _ _ _ _ _ _ _ _ _ _ _ _ _ _ _ _ _ _ _ _ _ _ _ _ _ _ _ _ _ _ _ _ _ _ _ _ _ _ _ _ _ _ _ _ _ _ _ _ _ _ _ _ _ _ _ _ _ _ _ _ _ _ _ _ _ _ _ _ _ _ _ _ _ _ _ _ _ _ _ _ _ _ _ _ _ _ _ _ _ _ _ _ _ _ _ _ _ _ _ _ _ _ _ _ ?_ ?_
        · assumption
        · assumption
    · rcases h with h | h | h
      · have q0:=cell_of_row _ _ 0 _ _ _ HST.out.g0
        simp only [nodeV,List.getElem?_toArray,List.getElem?_cons_zero] at q0
        rw [h] at q0
        have hk2:k=2:=by rw [HN.out];exact hkl2
        subst hk2
        obtain ⟨v,u,rfl⟩:∃ v u,vs=[v,u]:=by
         have:=HVL.out
         match vs,this with
         | [v,u],_=>exact ⟨v,u,rfl⟩
        have hop:nd.op=11:=h
        have g0c:=cell_of_row _ _ 0 _ _ _ HST.out.g0
        cases nn
        · go_upto_region 13 with (fail)
          refine op_eq11false w0 w wr B nd la ba lc bc v u HST.out hz0 hB1 hop (by have:=HNN.out;simpa using this.symm) _ HEQ.out _ _ _ _ _ _ _ _ _ _ _ _ _ _ _ _ _ _ _ _ _ _ _ _ _ _ _ _ _ _ _ _ _ _ _ _ _ _ _ _ _ _ _ _ _ _ _ _ _ _ _ _ _ _ _ _ _ _ _ _ _ _ _ _ _ _ _ _ _ _ _ _ _ _ _ _ _ _ _ _ _ _ _ _ _ _ _ _ _ _ _ _ _ _ _ _ _ _ _ _ _ _ _ _ _ _ _ _ _ _ _ _ _ _ _ _ _ _ _ _ _ _ _ _ _ _ _ _ _ _ _ _ _ _ ?_ ?_
          · assumption
          · assumption
        · go_upto_region 13 with (fail)
          refine op_eq11true w0 w wr B nd la ba lc bc v u HST.out hz0 hB1 hop (by have:=HNN.out;simpa using this.symm) _ HEQ.out _ _ _ _ _ _ _ _ _ _ _ _ _ _ _ _ _ _ _ _ _ _ _ _ _ _ _ _ _ _ _ _ _ _ _ _ _ _ _ _ _ _ _ _ _ _ _ _ _ _ _ _ _ _ _ _ _ _ _ _ _ _ _ _ _ _ _ _ _ _ _ _ _ _ _ _ _ _ _ _ _ _ _ _ _ _ _ _ _ _ _ _ _ _ _ _ _ _ _ _ _ _ _ _ _ _ _ _ _ _ _ _ _ _ _ _ _ _ _ _ _ _ _ _ _ _ _ _ _ _ _ _ _ _ ?_ ?_
          · assumption
          · assumption
      · have q0:=cell_of_row _ _ 0 _ _ _ HST.out.g0
        simp only [nodeV,List.getElem?_toArray,List.getElem?_cons_zero] at q0
        rw [h] at q0
        have hk2:k=2:=by rw [HN.out];exact hkl2
        subst hk2
        obtain ⟨v,u,rfl⟩:∃ v u,vs=[v,u]:=by
         have:=HVL.out
         match vs,this with
         | [v,u],_=>exact ⟨v,u,rfl⟩
        have hop:nd.op=12:=h
        have g0c:=cell_of_row _ _ 0 _ _ _ HST.out.g0
        cases nn
        · go_upto_region 13 with (fail)
          refine op_eq12false w0 w wr B nd la ba lc bc v u HST.out hz0 hB1 hop (by have:=HNN.out;simpa using this.symm) _ HEQ.out _ _ _ _ _ _ _ _ _ _ _ _ _ _ _ _ _ _ _ _ _ _ _ _ _ _ _ _ _ _ _ _ _ _ _ _ _ _ _ _ _ _ _ _ _ _ _ _ _ _ _ _ _ _ _ _ _ _ _ _ _ _ _ _ _ _ _ _ _ _ _ _ _ _ _ _ _ _ _ _ _ _ _ _ _ _ _ _ _ _ _ _ _ _ _ _ _ _ _ _ _ _ _ _ _ _ _ _ _ _ _ _ _ _ _ _ _ _ _ _ _ _ _ _ _ _ _ _ _ _ _ _ _ _ ?_ ?_
          · assumption
          · assumption
        · go_upto_region 13 with (fail)
          refine op_eq12true w0 w wr B nd la ba lc bc v u HST.out hz0 hB1 hop (by have:=HNN.out;simpa using this.symm) _ HEQ.out _ _ _ _ _ _ _ _ _ _ _ _ _ _ _ _ _ _ _ _ _ _ _ _ _ _ _ _ _ _ _ _ _ _ _ _ _ _ _ _ _ _ _ _ _ _ _ _ _ _ _ _ _ _ _ _ _ _ _ _ _ _ _ _ _ _ _ _ _ _ _ _ _ _ _ _ _ _ _ _ _ _ _ _ _ _ _ _ _ _ _ _ _ _ _ _ _ _ _ _ _ _ _ _ _ _ _ _ _ _ _ _ _ _ _ _ _ _ _ _ _ _ _ _ _ _ _ _ _ _ _ _ _ _ ?_ ?_
          · assumption
          · assumption
      · have q0:=cell_of_row _ _ 0 _ _ _ HST.out.g0
        simp only [nodeV,List.getElem?_toArray,List.getElem?_cons_zero] at q0
        have h1112:¬ (nd.op=11∨nd.op=12):=by unfold Two2 at h;omega
        have e11:(nd.op == 11)=false:=by simp;omega
        have e12:(nd.op == 12)=false:=by simp;omega
        have H6:=Lib.hid h
        have H1112:=Lib.hid h1112
        have hk2:k=2:=by rw [HN.out];exact hkl2
        subst hk2
        obtain ⟨v,u,rfl⟩:∃ v u,vs=[v,u]:=by
         have:=HVL.out
         match vs,this with
         | [v,u],_=>exact ⟨v,u,rfl⟩
        clear h h1112 hkl2
        cases nn
        · go_upto_region 17 with (fail)
          refine op_two w0 w wr B nd la ba lc bc v u HST.out hz0 hB1 H6.out (by have:=HNN.out;simpa using this.symm) _ HEQ.out _ _ _ _ _ _ _ _ _ _ _ _ _ _ _ _ _ _ _ _ _ _ _ _ _ _ _ _ _ _ _ _ _ _ _ _ _ _ _ _ _ _ _ _ _ _ _ _ _ _ _ _ _ _ _ _ _ _ _ _ _ _ _ _ _ _ _ _ _ _ _ _ _ _ _ _ _ _ _ _ _ _ _ _ _ _ _ _ _ _ _ _ _ _ _ _ _ _ _ _ _ _ _ _ _ _ _ _ _ _ _ _ _ _ _ _ _ _ _ _ _ _ _ _ _ _ _ _ _ _ _ _ _ _ ?_ ?_
          · assumption
          · assumption
        · go_upto_region 17 with (fail)
          refine op_none w0 w wr B nd la ba lc bc 2 [v,u] HST.out hz0 hB1 H1112.out (by have:=HNN.out;simpa using this.symm) _ HEQ.out _ _ _ _ _ _ _ _ _ _ _ _ _ _ _ _ _ _ _ _ _ _ _ _ _ _ _ _ _ _ _ _ _ _ _ _ _ _ _ _ _ _ _ _ _ _ _ _ _ _ _ _ _ _ _ _ _ _ _ _ _ _ _ _ _ _ _ _ _ _ _ _ _ _ _ _ _ _ _ _ _ _ _ _ _ _ _ _ _ _ _ _ _ _ _ _ _ _ _ _ _ _ _ _ _ _ _ _ _ _ _ _ _ _ _ _ _ _ _ _ _ _ _ _ _ _ _ _ _ _ _ _ _ _ ?_ ?_
          · assumption
          · assumption
theorem r_oper (w0:World) (na:Option Addr) (nl nc:Nat) (ns:List Nd) (p:Pd) (d:Nat) (IH:RefAt w0 na nl nc ns p d) (hE:EnvR w0 na nl nc ns p) (hv:VwOk p.vw) (w:World) (hbw:Below w0.heap.size w0 w) (q:Nat) (nd:Nd) (hq:q < nl) (hnd:ns[q]?=some nd) (hright:nd.right=true) (hk:∀ k ∈ nd.ks,goodN ns d k) (hop:OtherE nd.op) (hkl:nd.kl≤1000000) (hn:∀ x ∈ ns,x.ks.length=x.kl∧I64 x.vn) :
 Calls Tryz.prog 42 #[.slice na nl nc,.int .i64 (q:Int),.agg p.cs] w fun e w'=>TogOut w0 w e w' (nodeW (wK ns p.vw d) nd p.vw)∧Below w.heap.size w w':=by
 obtain ⟨w2,hw2⟩:∃ w2,w2=(w.alloc (boxR p)).alloc boxZ:=⟨_,rfl⟩
 have g0:w2.heap[w.heap.size]?=some (boxR p):=by rw [hw2];exact heap_alloc2_old w _ _
 have g1:w2.heap[w.heap.size+1]?=some boxZ:=by rw [hw2];exact heap_alloc2_new w _ _
 have hb2:Below w.heap.size w w2:=by rw [hw2];exact bel2 _ _ _
 have z2:w2.heap.size=w.heap.size+2:=by rw [hw2];simp
 have hz0:=hbw.size
 have HNW:=Lib.hid (hE.n nd (List.mem_of_getElem? hnd))
 obtain ⟨nb,no,nd',rfl,hnd',hcl0⟩:=hE.r.at hq
 obtain rfl:nd'=nd:=by rw [hnd] at hnd';exact (Option.some.inj hnd').symm
 have hbw2:Below w0.heap.size w0 w2:=hbw.trans (hb2.mono hz0)
 have hcl:=fun j v hv=>(hbw2.cell (p:=⟨nb,no+q * 7+j,none⟩) (block_lt_of_cell (hcl0 j v hv))).trans (hcl0 j v hv)
 have n0:=hcl 0 _ rfl
 have n1:=hcl 1 _ rfl
 have n2:=hcl 2 _ rfl
 have n3:=hcl 3 _ rfl
 have n4:=hcl 4 _ rfl
 have n5:=hcl 5 _ rfl
 have n6:=hcl 6 _ rfl
 simp only [Nat.add_zero] at n0
 have hqI:(q:Int) < (nl:Int):=by omega
 have hnl:=hE.r.2.1
 have hnc:=hE.r.2.2.1
 have HK:=Lib.hid hk
 have HE:=Lib.hid hE
 have HIH:=Lib.hid IH
 have HV:=Lib.hid hv
 have HR:=Lib.hid hright
 have G0:=Lib.hid g0
 have G1:=Lib.hid g1
 have HB2:=Lib.hid hb2
 have HOP:=Lib.hid hop
 have HND:=Lib.hid hnd
 have HBW:=Lib.hid hbw
 clear hk hE IH hv hright g0 g1 hb2 hnd hnd' hcl hcl0 hop hbw hbw2
 go_enter Tryz.func42,Tryz.ntmps42
 go_upto_region 1 with (fail)
 rw [← hw2]
 clear hw2
 go_upto_region 2 with (fail)
 obtain ⟨w3,hw3⟩:∃ w3,w3=w2.alloc (.cells (nodeV nd'.op nd'.nm nd'.vk nd'.vn nd'.vt nd'.sa nd'.sl nd'.sc nd'.ka nd'.kl nd'.kc) 56):=⟨_,rfl⟩
 have g3:w3.heap[w.heap.size+2]?=some (.cells (nodeV nd'.op nd'.nm nd'.vk nd'.vn nd'.vt nd'.sa nd'.sl nd'.sc nd'.ka nd'.kl nd'.kc) 56 (0,0)):=by rw [hw3,← z2];exact heap_alloc_new w2 _
 have hb3:Below w2.heap.size w2 w3:=by rw [hw3];exact bel1 _ _
 have z3:w3.heap.size=w.heap.size+3:=by rw [hw3];simp [z2]
 have h1':=(hb3.block _ (by omega)).trans G1.out
 have h0':=(hb3.block _ (by omega)).trans G0.out
 obtain ⟨wx,hwx⟩:∃ wx,wx=w2.heap.size:=⟨_,rfl⟩
 rw [← hw3]
 obtain ⟨c0,c1,c2,c3,f0,f1,f2,f3⟩:=box4 h1'
 have H1:=Lib.hid h1'
 have H0:=Lib.hid h0'
 have G3:=Lib.hid g3
 have HB3:=Lib.hid (HB2.out.trans (hb3.mono (by omega)))
 have HW3:=Lib.hid (HBW.out.trans (HB3.out.mono hz0))
 have v0':=cell_of_row _ _ 0 _ _ _ h0'
 have v1':=cell_of_row _ _ 1 _ _ _ h0'
 have v2':=cell_of_row _ _ 2 _ _ _ h0'
 have v3':=cell_of_row _ _ 3 _ _ _ h0'
 have v4':=cell_of_row _ _ 4 _ _ _ h0'
 have m0:=cell_of_row _ _ 0 _ _ _ g3
 have m1:=cell_of_row _ _ 1 _ _ _ g3
 have m2:=cell_of_row _ _ 2 _ _ _ g3
 have m3:=cell_of_row _ _ 3 _ _ _ g3
 have m4:=cell_of_row _ _ 4 _ _ _ g3
 have m5:=cell_of_row _ _ 5 _ _ _ g3
 have m6:=cell_of_row _ _ 6 _ _ _ g3
 simp only [nodeV,List.getElem?_toArray,List.getElem?_cons_zero,List.getElem?_cons_succ] at v0' v1' v2' v3' v4' m0 m1 m2 m3 m4 m5 m6
 have Z0:w.heap.size < w3.heap.size:=by omega
 have Z1:w.heap.size+1 < w3.heap.size:=by omega
 have Z3:w.heap.size+2 < w3.heap.size:=by omega
 clear h1' h0' g3 hb3 hw3 n0 n1 n2 n3 n4 n5 n6 z2 z3 hwx
 have HKL:=Lib.hid hkl
 have HNN:=Lib.hid hn
 clear hkl hn c0 c1 c2 c3 f0 f1 f2 f3
 have o1:(nd'.op == 1)=false:=by have h:=HOP.out.1;simp [h]
 have o2:(nd'.op == 2)=false:=by have h:=HOP.out.2.1;simp [h]
 have o4:(nd'.op == 4)=false:=by have h:=HOP.out.2.2.1;simp [h]
 have o3:(nd'.op == 3)=false:=by have h:=HOP.out.2.2.2.1;simp [h]
 have o5:(nd'.op == 5)=false:=by have h:=HOP.out.2.2.2.2.1;simp [h]
 have o24:(nd'.op == 24)=false:=by have h:=HOP.out.2.2.2.2.2.1;simp [h]
 have o25:(nd'.op == 25)=false:=by have h:=HOP.out.2.2.2.2.2.2.1;simp [h]
 have o26:(nd'.op == 26)=false:=by have h:=HOP.out.2.2.2.2.2.2.2.1;simp [h]
 have o30:(nd'.op == 30)=false:=by have h:=HOP.out.2.2.2.2.2.2.2.2.1;simp [h]
 have o29:(nd'.op == 29)=false:=by have h:=HOP.out.2.2.2.2.2.2.2.2.2.1;simp [h]
 have o9:(nd'.op == 9)=false:=by have h:=HOP.out.2.2.2.2.2.2.2.2.2.2.1;simp [h]
 have o10:(nd'.op == 10)=false:=by have h:=HOP.out.2.2.2.2.2.2.2.2.2.2.2.1;simp [h]
 have o23:(nd'.op == 23)=false:=by have h:=HOP.out.2.2.2.2.2.2.2.2.2.2.2.2.1;simp [h]
 have o33:(nd'.op == 33)=false:=by have h:=HOP.out.2.2.2.2.2.2.2.2.2.2.2.2.2;simp [h]
 go_wp2_with (go_at_call 63;refine (oper_any w0 _ nl nc ns p d HIH.out HV.out HNN.out w3 HW3.out nd' HNW.out HKL.out HR.out HK.out HOP.out).mono ?_;rintro e w4 ⟨⟨v,z,er,rfl,⟨za,zl,zc,rfl,hrv⟩,hr⟩,hb4⟩;have HRR:=Lib.hid hr;have HRV:=Lib.hid (hrv.imp id (fun h=>h.mono (show w.heap.size≤w3.heap.size by omega)):RZ w0 za zl zc z.ss∨SV w4 w.heap.size (VA z za zl zc) z);have HB4:=Lib.hid (HB3.out.trans (hb4.mono (by omega)));have H14:=Lib.hid ((hb4.block _ Z1).trans H1.out);clear hr hrv hb4;obtain ⟨d0,d1,d2,d3,f0,f1,f2,f3⟩:=box4 H14.out)
 refine bodyPost_ret (res2c Tryz.results42 _ _ (w.heap.size+1) _ _ _ _ _ (heap_box H14.out _ _ _ _) rfl rfl) rfl ?_
 have hrv2:RV w0 _ w.heap.size (VA z za zl zc) z:=⟨za,zl,zc,rfl,HRV.out.imp (fun h=>h) (fun h=>SV.setbox h H14.out (by decide) (.int .i64 z.k) (.int .i64 z.n) (.string z.t) (.slice za zl zc))⟩
 rcases HRR.out with ⟨h,h0⟩ | ⟨h,h0⟩
 · subst h0
   exact ⟨.ok (z:=z) rfl hrv2 h,below_box (by omega) HB4.out _ _ _ _⟩
 · exact ⟨.err (z:=z) rfl hrv2 h h0,below_box (by omega) HB4.out _ _ _ _⟩
theorem rworth_step (w0:World) (na:Option Addr) (nl nc:Nat) (ns:List Nd) (p:Pd) (hE:EnvR w0 na nl nc ns p) (hv:VwOk p.vw) (hn:∀ x ∈ ns,x.ks.length=x.kl∧I64 x.vn) (d:Nat) (IH:RefAt w0 na nl nc ns p d):RefAt w0 na nl nc ns p (d+1):=by
 intro w r hbw hg
 obtain ⟨h0,nd,hnd,hright,hkl,hk⟩:=hg
 obtain ⟨q,rfl⟩:∃ q:Nat,r=q:=⟨r.toNat,by omega⟩
 rw [wK_at hnd]
 rw [Int.toNat_natCast] at hnd
 have hq:q < nl:=by have:=(List.getElem?_eq_some_iff.1 hnd).1;have:=hE.r.1;omega
 by_cases o1:nd.op=1
 · exact r_lit1 w0 na nl nc ns p d IH hE hv w hbw q nd hq hnd hright hk o1
 by_cases o2:nd.op=2
 · exact r_lit2 w0 na nl nc ns p d IH hE hv w hbw q nd hq hnd hright hk o2
 by_cases o4:nd.op=4
 · exact r_lit4 w0 na nl nc ns p d IH hE hv w hbw q nd hq hnd hright hk o4
 by_cases o3:nd.op=3
 · exact r_text w0 na nl nc ns p d IH hE hv w hbw q nd hq hnd hright hk o3
 by_cases o5:nd.op=5
 · exact r_name w0 na nl nc ns p d IH hE hv w hbw q nd hq hnd hright hk o5
 by_cases o24:nd.op=24
 · exact r_has w0 na nl nc ns p d IH hE hv w hbw q nd hq hnd hright hk o24
 by_cases o25:nd.op=25
 · exact r_open w0 na nl nc ns p d IH hE hv w hbw q nd hq hnd hright hk o25
 by_cases o26:nd.op=26
 · exact r_reached w0 na nl nc ns p d IH hE hv w hbw q nd hq hnd hright hk o26
 by_cases o30:nd.op=30
 · exact r_steps w0 na nl nc ns p d IH hE hv w hbw q nd hq hnd hright hk o30
 by_cases o29:nd.op=29
 · exact r_clock w0 na nl nc ns p d IH hE hv w hbw q nd hq hnd hright hk o29
 by_cases o9:nd.op=9
 · exact r_and w0 na nl nc ns p d IH hE hv w hbw q nd hq hnd hright hk o9
 by_cases o10:nd.op=10
 · exact r_or w0 na nl nc ns p d IH hE hv w hbw q nd hq hnd hright hk o10
 by_cases o23:nd.op=23
 · exact r_if w0 na nl nc ns p d IH hE hv w hbw q nd hq hnd hright hk o23
 by_cases o33:nd.op=33
 · exact r_default w0 na nl nc ns p d IH hE hv w hbw q nd hq hnd hright hk o33
 exact r_oper w0 na nl nc ns p d IH hE hv w hbw q nd hq hnd hright hk ⟨o1,o2,o4,o3,o5,o24,o25,o26,o30,o29,o9,o10,o23,o33⟩ hkl hn
theorem rworth_any (w0:World) (na:Option Addr) (nl nc:Nat) (ns:List Nd) (p:Pd) (hE:EnvR w0 na nl nc ns p) (hv:VwOk p.vw) (hn:∀ x ∈ ns,x.ks.length=x.kl∧I64 x.vn):∀ d,RefAt w0 na nl nc ns p d
 | 0=>fun _ _ _ h=>h.elim
 | d+1=>rworth_step w0 na nl nc ns p hE hv hn d (rworth_any w0 na nl nc ns p hE hv hn d)
end Go.Proofs.YtcnckjlmldnblaaGreatDoor
