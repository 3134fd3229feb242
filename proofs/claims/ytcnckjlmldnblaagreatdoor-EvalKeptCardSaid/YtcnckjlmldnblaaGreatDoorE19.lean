import Derived.Test.YtcnckjlmldnblaaGreatDoorE14
import Derived.Deep.RegionHeld3
namespace Go.Proofs.YtcnckjlmldnblaaGreatDoor
open Go Go.RowKit
open List renaming setIfInBounds_toArray → pa, set_cons_zero → pb, set_cons_succ → pc, getElem_toArray → pd, getElem_cons_succ → pe, getElem_cons_zero → pf
set_option maxRecDepth 100000
set_option maxHeartbeats 4000000
set_option linter.unusedVariables false
set_option linter.unusedSimpArgs false
theorem sl68:Sl Tryz.prog 109 43 (.agg #[.int .i64 0,.int .i64 0,.string ByteArray.empty,.slice none 0 0]) 4 56:=⟨by kernel_rfl,by kernel_rfl,rfl,by decide⟩
theorem keepc {w3 w4:World} (hb:Below w3.drew.heap.size w3.drew w4) {b o:Nat} {v:Value} (h:w3.cell? ⟨b,o,none⟩=some v):w4.cell? ⟨b,o,none⟩=some v :=
 (hb.cell (p:=⟨b,o,none⟩) (block_lt_of_cell (w:=w3) h)).trans h
theorem keeps4 {w:World} {b o B:Nat} {v x0 x1 x2 x3:Value} (h:w.cell? ⟨b,o,none⟩=some v) (hne:b ≠ B):((((w.setCell ⟨B,0,none⟩ x0).setCell ⟨B,1,none⟩ x1).setCell ⟨B,2,none⟩ x2).setCell ⟨B,3,none⟩ x3).cell? ⟨b,o,none⟩=some v :=
 (World.cell?_of_block (heap_setCell_other _ ⟨B,3,none⟩ b x3 hne)).trans ((World.cell?_of_block (heap_setCell_other _ ⟨B,2,none⟩ b x2 hne)).trans ((World.cell?_of_block (heap_setCell_other _ ⟨B,1,none⟩ b x1 hne)).trans ((World.cell?_of_block (heap_setCell_other w ⟨B,0,none⟩ b x0 hne)).trans h)))
def zVc:Vc:=⟨v0,none,0,0⟩
theorem seq_snoc {l:List Wr} {vs:List Vl} {x:Vl} (h:seqW l=.ok vs):seqW (l++[.ok x])=.ok (vs++[x]):=by
 induction l generalizing vs with
 | nil=>simp only [seqW,Except.ok.injEq] at h;subst h;rfl
 | cons r t ih =>
   cases r with
   | error e=>simp [seqW] at h
   | ok v =>
     simp only [seqW,List.cons_append] at h ⊢
     cases ht:seqW t with
     | error e=>rw [ht] at h;cases h
     | ok m =>
       rw [ht] at h
       simp only [Except.ok.injEq] at h
       subst h
       rw [ih ht]
       rfl
theorem seq_err {l m:List Wr} {vs:List Vl} {e:Int} (h:seqW l=.ok vs):seqW (l++.error e :: m)=.error e:=by
 induction l generalizing vs with
 | nil=>rfl
 | cons r t ih =>
   cases r with
   | error e=>simp [seqW] at h
   | ok v =>
     simp only [seqW,List.cons_append] at h ⊢
     cases ht:seqW t with
     | error e=>rw [ht] at h;cases h
     | ok m =>
       rw [ih ht]
def allW (f:Int→Wr) (nd:Nd):Wr:=match seqW (nd.ks.map f) with
 | .error e=>.error e
 | .ok l=>opW nd.op l
theorem fill_set (vs:List Vc) (v:Vc) (n k:Nat) (hv:vs.length=k) (hk:k < n):(vs++List.replicate (n - k) zVc).set k v=(vs++[v])++List.replicate (n - (k+1)) zVc:=by
 rw [List.set_append_right _ _ (by omega),hv,Nat.sub_self,show n - k=(n - (k+1))+1 by omega,List.replicate_succ,List.set_cons_zero,List.append_assoc]
 rfl
theorem all_any (na:Option Addr) (nl nc:Nat) (ns:List Nd) (p:Pd) (d:Nat) (IH:WorthAt na nl nc ns p d) (w:World) (nd:Nd) (hnd:NdW w nd) (hkl:nd.kl≤1000000) (hr:nd.right=true) (hk:∀ k ∈ nd.ks,goodN ns d k) (hE:EnvW w na nl nc ns p) (hv:VwOk p.vw) (hn:∀ x ∈ ns,x.ks.length=x.kl∧I64 x.vn)
 (hop:nd.op=6∨nd.kl=1∨nd.kl=2) :
 Calls Tryz.prog 54 #[WorkV na nl nc p,.agg nd.v] w fun e w'=>MOut e w' w.heap.size (allW (wK ns p.vw d) nd)∧Below w.heap.size w w':=by
 obtain ⟨w3,hw3,g0,g1,g2,hb3,z3⟩:=boxes3 w (boxW na nl nc p) (.cells nd.v 56) boxZ
 have hq0:w.heap.size < w3.heap.size:=by omega
 have hq1:w.heap.size+1 < w3.heap.size:=by omega
 have hq2:w.heap.size+2 < w3.heap.size:=by omega
 clear z3
 have HB3:=Lib.hid hb3
 have HE:=Lib.hid (hE.below hb3)
 have HND:=Lib.hid (hnd.below hb3)
 have G0:=Lib.hid g0
 have G1:=Lib.hid g1
 have G2:=Lib.hid g2
 have HIH:=Lib.hid IH
 have HK:=Lib.hid hk
 have HKS:=Lib.hid hnd.ok.1.1
 have p3:=cell_of_row w3 _ 6 _ _ _ g1
 simp only [nodeV,List.getElem?_toArray,List.getElem?_cons_zero,List.getElem?_cons_succ] at p3
 obtain ⟨n,hn'⟩:∃ n,n=nd.kl:=⟨_,rfl⟩
 rw [← hn'] at p3 hkl
 obtain ⟨ka,hka⟩:∃ ka,ka=nd.ka:=⟨_,rfl⟩
 rw [← hka] at p3
 have HKA:=Lib.hid hka
 clear hka
 have HN:=Lib.hid hn'
 clear g0 g1 g2 hb3 hE hnd IH hk hn'
 go_enter Tryz.func54,Tryz.ntmps54
 go_upto_region 1 with (fail)
 rw [← hw3]
 clear hw3
 go_wp2_with (at_make;(refine L_make rfl _ _ _ rfl sl68 w3.heap.size .i64 .i64 _ n rfl rfl rfl (by omega) (by simp [maxLen];omega) (Nat.le_refl _) (fun w4 ho4 hg4=>?_)
                       have ho4':w4.ownsRow w3.heap.size 43 4 (.slice (some ⟨w3.heap.size,0,none⟩) n n) n ((List.replicate n zVc).flatMap Vc.cs):=by
                        have e1:=madeFlat Vc.cs 4 (by decide) Vc_len zVc n
                        have e2:(madeCells (Value.cells (.agg #[.int .i64 0,.int .i64 0,.string ByteArray.empty,.slice none 0 0])) (n * 4)).toList=(List.replicate n zVc).flatMap Vc.cs:=e1
                        rwa [e2] at ho4
                       have hb4:Below w3.heap.size w3 w4:=(Below.refl _ _).grown hg4 (Nat.le_refl _) (fun k hk=>by cases hk)
                       have HO4:=Lib.hid ho4'
                       have HB4:=Lib.hid hb4
                       have q3:=(hb4.cell (p:=⟨w.heap.size+1,6,none⟩) (by show w.heap.size+1 < _;omega)).trans p3
                       clear ho4 ho4' hg4 hb4))
 go_loopw [17] (fun i wr=>∃ (k:Nat) (vs:List Vc),k≤n∧i=.int .i64 k∧vs.length=k∧wr.ownsRow w3.heap.size 43 4 (.slice (some ⟨w3.heap.size,0,none⟩) n n) n ((vs++List.replicate (n - k) zVc).flatMap Vc.cs)∧(∀ v ∈ vs,SV wr w3.heap.size (VA v.x v.a v.l v.c) v.x)∧seqW ((nd.ks.take k).map (wK ns p.vw d))=.ok (vs.map Vc.x)∧Below w3.heap.size w3 wr) (fun i _=>n - (intOf i).toNat)
 case atStart=>exact ⟨0,[],by omega,rfl,rfl,by simpa using HO4.out,fun v hv=>(by cases hv),rfl,HB4.out⟩
 case round =>
  obtain ⟨k,vs,hkn,rfl,hvl,ho,hsv,hseq,hb⟩:=hrel
  have HO:=Lib.hid ho
  have HSV:=Lib.hid hsv
  have HSQ:=Lib.hid hseq
  have HB:=Lib.hid hb
  have zr:=hb.size
  have HVL:=Lib.hid hvl
  have r3:=(HB.out.cell (p:=⟨w.heap.size+1,6,none⟩) (by show w.heap.size+1 < _;omega)).trans p3
  have hwk:=(HB.out.block w.heap.size (by omega)).trans G0.out
  have k0:=cell_of_row wr _ 0 _ _ _ hwk
  have k1:=cell_of_row wr _ 1 _ _ _ hwk
  simp only [List.getElem?_toArray,List.getElem?_cons_zero,List.getElem?_cons_succ] at k0 k1
  clear ho hsv hseq hb hvl hwk q3
  by_cases hlt:k < n
  · have hkr:RS 1 Iv w3 ka n nd.kc nd.ks:=by have:=HND.out.ok.1;rwa [← HN.out,← HKA.out] at this
    obtain ⟨kb,ko,x,rfl,hkx,hcx⟩:=hkr.at hlt
    have x0:=(HB.out.cell (p:=⟨kb,ko+k * 1+0,none⟩) (block_lt_of_cell (hcx 0 _ rfl))).trans (hcx 0 _ rfl)
    simp only [Nat.add_zero,Nat.mul_one] at x0
    have hltI:(k:Int) < (n:Int):=by omega
    have HKX:=Lib.hid hkx
    have hcall:=HIH.out wr x (HK.out x (List.mem_of_getElem? hkx)) (HE.out.below HB.out)
    have HC:=Lib.hid hcall
    have hoz:(vs++List.replicate (n - k) zVc)[k]?=some zVc:=by
     rw [List.getElem?_append_right (by rw [HVL.out];exact Nat.le_refl _),HVL.out,Nat.sub_self,List.getElem?_replicate,if_pos (by omega)]
    have HOZ:=Lib.hid hoz
    clear hkr hcx hkx hcall hoz
    go_wp2_with fail
    with_reducible refine HC.out.mono ?_
    rintro e w5 ⟨hm,hb5⟩
    have z5:=hb5.size
    have HO5:=Lib.hid (own_below HO.out hb5)
    have HB5:=Lib.hid (HB.out.trans (hb5.mono zr))
    have HSV5:=Lib.hid (fun v hv=>(HSV.out v hv).below hb5)
    have HKS5:=Lib.hid (show nd.ks=nd.ks.take k++x :: nd.ks.drop (k+1) by
     have hx:=HKX.out
     have hkl':k < nd.ks.length:=(List.getElem?_eq_some_iff.1 hx).1
     rw [List.getElem?_eq_getElem hkl',Option.some.injEq] at hx
     have e:=List.drop_eq_getElem_cons hkl'
     rw [hx] at e
     rw [← e,List.take_append_drop])
    clear hb5 x0 r3 k0 k1
    rcases hm.cases with ⟨y,ra,rl,rc,hy,rfl,hs⟩ | ⟨er,hy,rfl⟩
    · have c0:=own_at Vc_len HO5.out HOZ.out 0 _ rfl
      have f0:=HO5.out.frozenAt (k * 4)
      have c1:=own_at Vc_len HO5.out HOZ.out 1 _ rfl
      have f1:=HO5.out.frozenAt (k * 4+1)
      have c2:=own_at Vc_len HO5.out HOZ.out 2 _ rfl
      have f2:=HO5.out.frozenAt (k * 4+2)
      have c3:=own_at Vc_len HO5.out HOZ.out 3 _ rfl
      have f3:=HO5.out.frozenAt (k * 4+3)
      simp only [Nat.add_zero] at c0
      obtain ⟨ho6,hg6⟩:=own_chain (Vc.cs ⟨y,ra,rl,rc⟩) _ w5 (k * 4) HO5.out
      rw [setList_flat Vc.cs 4 Vc_len _ k _ (by simp;have:=HVL.out;omega),fill_set vs ⟨y,ra,rl,rc⟩ n k HVL.out hlt] at ho6
      have hb6:=below_chain (B:=w3.heap.size) (g:=w3.heap.size) (Nat.le_refl _) (Vc.cs ⟨y,ra,rl,rc⟩) w5 (k * 4) HB5.out
      have HO6:=Lib.hid ho6
      have HB6:=Lib.hid hb6
      have HSV6:=Lib.hid (show ∀ v ∈ vs++[(⟨y,ra,rl,rc⟩:Vc)],SV (setChain w5 w3.heap.size (k * 4) (Vc.cs (⟨y,ra,rl,rc⟩:Vc))) w3.heap.size (VA v.x v.a v.l v.c) v.x from fun v hv=>by
       have hold:SV w5 w3.heap.size (VA v.x v.a v.l v.c) v.x:=by
        rcases List.mem_append.1 hv with hv | hv
        · exact HSV5.out v hv
        · simp only [List.mem_singleton] at hv;subst hv;exact hs.mono zr
       obtain ⟨a',l',c',e,hl,hh⟩:=hold
       refine ⟨a',l',c',e,hl,?_⟩
       rcases hh with hh | hh
       · exact .inl hh
       · exact .inr (own_grown hh HO5.out (by decide) hg6))
      have HSQ6:=Lib.hid (show seqW ((nd.ks.take (k+1)).map (wK ns p.vw d))=.ok ((vs++[(⟨y,ra,rl,rc⟩:Vc)]).map Vc.x) by
       rw [List.take_add_one,HKX.out,List.map_append,List.map_append]
       simp only [Option.toList_some,List.map_cons,List.map_nil,hy]
       exact seq_snoc HSQ.out)
      clear ho6 hg6 hb6 hs hm hy
      go_wp2_with fail
      go_roundw
      case rel=>exact ⟨k+1,vs++[(⟨y,ra,rl,rc⟩:Vc)],by omega,by go_num,by simp [HVL.out],HO6.out,HSV6.out,HSQ6.out,HB6.out⟩
      case measure=>simp [intOf];omega
    · have HA:=Lib.hid (show allW (wK ns p.vw d) nd=.error er by
       unfold allW
       rw [HKS5.out,List.map_append,List.map_cons,hy,seq_err HSQ.out])
      clear hm hy
      go_wp2_with fail
      exact ⟨rfl,.err HA.out,HB3.out.trans (HB5.out.mono (by omega))⟩
  · have hltI:¬ (k:Int) < (n:Int):=by omega
    obtain rfl:k=n:=by omega
    have hro:=HO.out
    rw [Nat.sub_self,List.replicate_zero,List.append_nil] at hro
    have HRO:=Lib.hid hro
    have HSQ':=Lib.hid (show seqW (nd.ks.map (wK ns p.vw d))=.ok (vs.map Vc.x) by
     have q:=HSQ.out
     rwa [List.take_of_length_le (by rw [HKS.out,← HN.out];exact Nat.le_refl _)] at q)
    have HG2:=Lib.hid ((HB.out.block _ (by omega)).trans G2.out)
    have HG1:=Lib.hid ((HB.out.block _ (by omega)).trans G1.out)
    have HRS:=Lib.hid (show RS 4 Vc.cs wr (some ⟨w3.heap.size,0,none⟩) k k vs from RS.of_owns hro (by decide) Vc_len (by omega))
    clear hro r3 k0 k1
    go_wp2_with fail
    go_loopw [31] (fun i wq=>∃ j:Nat,j≤k∧i=.int .i64 j∧(∀ (i:Nat) (v:Vc),i < j→vs[i]?=some v→(v.x.k == 0)=false)∧Below wr.heap.size wr wq) (fun i _=>k - (intOf i).toNat)
    case atStart=>exact ⟨0,by omega,rfl,fun i v hi=>by omega,Below.refl _ _⟩
    case round =>
     obtain ⟨j,hjk,rfl,hne,hbq⟩:=hrel
     have HNE:=Lib.hid hne
     have HBQ:=Lib.hid hbq
     have zq:=hbq.size
     clear hne hbq
     by_cases hjlt:j < k
     · obtain ⟨nb,no,v,he,hvj,hcl0⟩:=HRS.out.at hjlt
       simp only [Option.some.injEq,Addr.mk.injEq,and_true] at he
       obtain ⟨rfl,rfl⟩:=he
       have hcl:=fun i u hu=>(HBQ.out.cell (p:=⟨w3.heap.size,0+j * 4+i,none⟩) (block_lt_of_cell (hcl0 i u hu))).trans (hcl0 i u hu)
       have n0:=hcl 0 _ rfl
       have n1:=hcl 1 _ rfl
       have n2:=hcl 2 _ rfl
       have n3:=hcl 3 _ rfl
       simp only [Nat.add_zero,Nat.zero_add] at n0 n1 n2 n3
       have hjI:(j:Int) < (k:Int):=by omega
       have HVJ:=Lib.hid hvj
       clear hcl hcl0 hvj
       cases h0:(v.x.k == 0)
       · have H0:=Lib.hid h0
         go_wp2_with (go_at_call 53;refine (refuse_any _ _).mono ?_;rintro e w' ⟨rfl,rfl⟩)
         refine ⟨⟨j+1,by omega,by go_num,fun i u hi hu=>?_,HBQ.out.alloc zq _⟩,by simp [intOf];omega⟩
         by_cases e:i=j
         · subst e
           rw [HVJ.out] at hu
           cases hu
           exact H0.out
         · exact HNE.out i u (by omega) hu
       · have HA:=Lib.hid (show allW (wK ns p.vw d) nd=.error 110 by
          unfold allW
          rw [HSQ'.out]
          unfold opW
          exact if_pos (List.any_eq_true.2 ⟨v.x,List.mem_map.2 ⟨v,List.mem_of_getElem? HVJ.out,rfl⟩,h0⟩))
         go_wp2_with (go_at_call 53;refine (refuse_any _ _).mono ?_;rintro e w' ⟨rfl,rfl⟩)
         exact ⟨rfl,.err HA.out,(HB3.out.trans ((HB.out.trans (HBQ.out.mono zr)).mono (by omega))).alloc (by omega) _⟩
     · have hjI:¬ (j:Int) < (k:Int):=by omega
       have HNZ:=Lib.hid (show ((vs.map Vc.x).any fun v=>v.k == 0)=false by
        rw [List.any_eq_false]
        intro u hu
        obtain ⟨v,hv,rfl⟩:=List.mem_map.1 hu
        obtain ⟨i,hi⟩:=List.getElem?_of_mem hv
        have:=HNE.out i v (by have:=(List.getElem?_eq_some_iff.1 hi).1;have:=HVL.out;omega) hi
        rw [this]
        decide)
       rename_i _ wq _
       have hg1:=(HBQ.out.block _ (by omega)).trans HG1.out
       have hg2:=(HBQ.out.block _ (by omega)).trans HG2.out
       have o0:=cell_of_row _ _ 0 _ _ _ hg1
       simp only [nodeV,List.getElem?_toArray,List.getElem?_cons_zero] at o0
       have HQ2:=Lib.hid hg2
       have HBW:=Lib.hid (HB3.out.trans ((HB.out.trans (HBQ.out.mono zr)).mono (by omega)))
       have HRQ:=Lib.hid (HRS.out.below HBQ.out)
       have HSQV:=Lib.hid (fun v hv=>(HSV.out v hv).below HBQ.out)
       clear hg1 hg2
       have HAW:=Lib.hid (show allW (wK ns p.vw d) nd=(if nd.op=6 then gatheredW (vs.map Vc.x) else match vs.map Vc.x with | [a]=>singleW nd.op a | a :: b :: _=>doubleW nd.op a b | []=>.error 1) by
        unfold allW
        rw [HSQ'.out]
        show opW nd.op (vs.map Vc.x)=_
        unfold opW
        rw [HNZ.out]
        simp only [Bool.false_eq_true,if_false]
        rfl)
       have HFIT:=Lib.hid (fit_seq _ (fun r hr=>by obtain ⟨q,hq,rfl⟩:=List.mem_map.1 hr;exact fit_wK hv hn d q (HK.out q hq)) _ HSQ'.out)
       cases h6:(nd.op == 6)
       · have h6':nd.op ≠ 6:=by simpa using h6
         rcases hop with h | h | h
         · exact absurd h h6'
         · obtain rfl:k=1:=by rw [HN.out];exact h
           obtain ⟨v,rfl⟩:∃ v,vs=[v]:=by
            have:=HVL.out
            match vs,this with
            | [v],_=>exact ⟨v,rfl⟩
           have HS:=Lib.hid (show allW (wK ns p.vw d) nd=singleW nd.op v.x by rw [HAW.out,if_neg h6'];rfl)
           have HFX:=Lib.hid (HFIT.out v.x (by simp))
           have hsvv:=HSQV.out v (by simp)
           have HVLL:=Lib.hid (show v.l=v.x.ss.length by
            obtain ⟨a',l',c',e,hl,-⟩:=hsvv
            simp only [VA,Value.agg.injEq,Array.mk.injEq,List.cons.injEq,Value.slice.injEq,true_and,and_true] at e
            obtain ⟨rfl,rfl,rfl⟩:=e
            exact hl)
           obtain ⟨nb,no,u,he,hu,hcl⟩:=HRQ.out.at (show 0 < 1 by omega)
           simp only [Option.some.injEq,Addr.mk.injEq,and_true] at he
           obtain ⟨rfl,rfl⟩:=he
           obtain rfl:v=u:=by simpa using hu
           have n0:=hcl 0 _ rfl
           have n1:=hcl 1 _ rfl
           have n2:=hcl 2 _ rfl
           have n3:=hcl 3 _ rfl
           simp only [Nat.zero_mul,Nat.add_zero,Nat.zero_add] at n0 n1 n2 n3
           clear hcl hu hsvv h h6' HRS HIH HNE
           have hcase:(∃ r,singleW nd.op v.x=.ok r)∨(∃ er,singleW nd.op v.x=.error er):=by
            cases hq:singleW nd.op v.x with
            | ok r=>exact .inl ⟨r,rfl⟩
            | error er=>exact .inr ⟨er,rfl⟩
           rcases hcase with ⟨r,hsr⟩ | ⟨er,hsr⟩
           · go_wp2_with fail
             go_region_held3 (fun w'=>w'.cell? ⟨w.heap.size+1,0,none⟩=some (.int .i64 nd.op)∧w'.cell? ⟨w3.heap.size,0,none⟩=some (.int .i64 v.x.k)∧w'.cell? ⟨w3.heap.size,1,none⟩=some (.int .i64 v.x.n)∧w'.cell? ⟨w3.heap.size,2,none⟩=some (.string v.x.t)∧w'.cell? ⟨w3.heap.size,3,none⟩=some (.slice v.a v.l v.c))
              (first | exact ⟨o0,n0,n1,n2,n3⟩ | exact ⟨keepc hb6 o0,keepc hb6 n0,keepc hb6 n1,keepc hb6 n2,keepc hb6 n3⟩ | exact ⟨keeps4 (keepc hb6 o0) (by omega),keeps4 (keepc hb6 n0) (by omega),keeps4 (keepc hb6 n1) (by omega),keeps4 (keepc hb6 n2) (by omega),keeps4 (keepc hb6 n3) (by omega)⟩)
              (first | (go_at_call 68;refine (single_any wr.drew nd.op v.x v.a v.l v.c HFX.out.n HVLL.out).mono ?_;rintro e w6 ⟨hn6,hb6⟩;have g6:=(hb6.block (w.heap.size+2) (by show _ < wr.heap.size;omega)).trans HQ2.out;obtain ⟨c0,c1,c2,c3,f0,f1,f2,f3⟩:=box4 g6;rw [hsr] at hn6;obtain ⟨rfl,hs6⟩:=hn6))
             go_wp2_with fail
             refine retbox rfl (w1:=w6) g6 rfl ?_
             exact ⟨(NOut.ok (x:=r) (by rw [HS.out,hsr]) rfl hs6).mout _ _,below_box (by omega) (HBW.out.drew.trans (hb6.mono (by show w.heap.size≤wr.heap.size;omega))) _ _ _ _⟩
           · go_wp2_with fail
             refine wp_region_held_drew (S:=(fun w'=>w'.cell? ⟨w.heap.size+1,0,none⟩=some (.int .i64 nd.op)∧w'.cell? ⟨w3.heap.size,0,none⟩=some (.int .i64 v.x.k)∧w'.cell? ⟨w3.heap.size,1,none⟩=some (.int .i64 v.x.n)∧w'.cell? ⟨w3.heap.size,2,none⟩=some (.string v.x.t)∧w'.cell? ⟨w3.heap.size,3,none⟩=some (.slice v.a v.l v.c))) (by kernel_rfl) ⟨o0,n0,n1,n2,n3⟩ (fun hHeld=>?_)
             refine tkI (i:=0) (v:=?_) rfl ?_ ?_
             rotate_left
             · intro w hSw;(try dsimp only at hSw);go_simp;try with_reducible rfl
             (try simp only [Act.put,pa,pb,pc,pd,pe,pf])
             refine tkI (i:=1) (v:=?_) rfl ?_ ?_
             rotate_left
             · intro w hSw;(try dsimp only at hSw);go_simp;try with_reducible rfl
             (try simp only [Act.put,pa,pb,pc,pd,pe,pf])
             refine tkI (i:=2) (v:=?_) rfl ?_ ?_
             rotate_left
             · intro w hSw;(try dsimp only at hSw);go_simp;try with_reducible rfl
             (try simp only [Act.put,pa,pb,pc,pd,pe,pf])
             refine tkI (i:=3) (v:=?_) rfl ?_ ?_
             rotate_left
             · intro w hSw;(try dsimp only at hSw);go_simp;try with_reducible rfl
             (try simp only [Act.put,pa,pb,pc,pd,pe,pf])
             refine tkI (i:=4) (v:=?_) rfl ?_ ?_
             rotate_left
             · intro w hSw;(try dsimp only at hSw);go_simp;try with_reducible rfl
             (try simp only [Act.put,pa,pb,pc,pd,pe,pf])
             refine wpAnyH_ready (rs:=[5]) (by kernel_rfl) (by simp) ?_
             refine AllReadyH.cons rfl (fun K hK=>?_) AllReadyH.nil
             go_simp
             go_wp2_with (first | (go_at_call 68;refine (single_any wr.drew nd.op v.x v.a v.l v.c HFX.out.n HVLL.out).mono ?_;rintro e w6 ⟨hn6,hb6⟩;have g6:=(hb6.block (w.heap.size+2) (by show _ < wr.heap.size;omega)).trans HQ2.out;obtain ⟨c0,c1,c2,c3,f0,f1,f2,f3⟩:=box4 g6;rw [hsr] at hn6;have hn7:e=refused er:=hn6;subst hn7;exact ⟨rfl,.err (by rw [HS.out,hsr]),HBW.out.drew.trans (hb6.mono (by show w.heap.size≤wr.heap.size;omega))⟩))
         · obtain rfl:k=2:=by rw [HN.out];exact h
           obtain ⟨v,u,rfl⟩:∃ v u,vs=[v,u]:=by
            have:=HVL.out
            match vs,this with
            | [v,u],_=>exact ⟨v,u,rfl⟩
           have HS:=Lib.hid (show allW (wK ns p.vw d) nd=doubleW nd.op v.x u.x by rw [HAW.out,if_neg h6'];rfl)
           have HFX:=Lib.hid (HFIT.out v.x (by simp))
           have HFY:=Lib.hid (HFIT.out u.x (by simp))
           have hzz:∀ t ∈ [v,u],Fit t.x→RZ wr t.a t.l t.c t.x.ss:=fun t ht hf=>by
            have hsv:=HSQV.out t ht
            have hl:t.l=t.x.ss.length:=by
             obtain ⟨a',l',c',e,hl,-⟩:=hsv
             simp only [VA,Value.agg.injEq,Array.mk.injEq,List.cons.injEq,Value.slice.injEq,true_and,and_true] at e
             obtain ⟨rfl,rfl,rfl⟩:=e
             exact hl
            exact hsv.rz (by have:=(right_parts hf.r).2.2.2.2;omega)
           have HZX:=Lib.hid (show RZ wr.drew v.a v.l v.c v.x.ss from (hzz v (by simp) HFX.out).below (Below.refl _ _).drew)
           have HZY:=Lib.hid (show RZ wr.drew u.a u.l u.c u.x.ss from (hzz u (by simp) HFY.out).below (Below.refl _ _).drew)
           obtain ⟨nb,no,v',he,hu,hcl⟩:=HRQ.out.at (show 0 < 2 by omega)
           simp only [Option.some.injEq,Addr.mk.injEq,and_true] at he
           obtain ⟨rfl,rfl⟩:=he
           obtain rfl:v=v':=by simpa using hu
           obtain ⟨nb,no,u',he,hu',hcu⟩:=HRQ.out.at (show 1 < 2 by omega)
           simp only [Option.some.injEq,Addr.mk.injEq,and_true] at he
           obtain ⟨rfl,rfl⟩:=he
           obtain rfl:u=u':=by simpa using hu'
           have n0:=hcl 0 _ rfl
           have n1:=hcl 1 _ rfl
           have n2:=hcl 2 _ rfl
           have n3:=hcl 3 _ rfl
           have n4:=hcu 0 _ rfl
           have n5:=hcu 1 _ rfl
           have n6:=hcu 2 _ rfl
           have n7:=hcu 3 _ rfl
           simp only [Nat.zero_mul,Nat.add_zero,Nat.zero_add,Nat.one_mul,Nat.reduceAdd] at n0 n1 n2 n3 n4 n5 n6 n7
           clear hcl hcu hu hu' hzz h h6' HRS HIH HNE
           have hcase:(∃ r,doubleW nd.op v.x u.x=.ok r)∨(∃ er,doubleW nd.op v.x u.x=.error er):=by
            cases hq:doubleW nd.op v.x u.x with
            | ok r=>exact .inl ⟨r,rfl⟩
            | error er=>exact .inr ⟨er,rfl⟩
           rcases hcase with ⟨r,hsr⟩ | ⟨er,hsr⟩
           · go_wp2_with fail
             go_region_held3 (fun w'=>w'.cell? ⟨w.heap.size+1,0,none⟩=some (.int .i64 nd.op)∧w'.cell? ⟨w3.heap.size,0,none⟩=some (.int .i64 v.x.k)∧w'.cell? ⟨w3.heap.size,1,none⟩=some (.int .i64 v.x.n)∧w'.cell? ⟨w3.heap.size,2,none⟩=some (.string v.x.t)∧w'.cell? ⟨w3.heap.size,3,none⟩=some (.slice v.a v.l v.c)∧w'.cell? ⟨w3.heap.size,4,none⟩=some (.int .i64 u.x.k)∧w'.cell? ⟨w3.heap.size,5,none⟩=some (.int .i64 u.x.n)∧w'.cell? ⟨w3.heap.size,6,none⟩=some (.string u.x.t)∧w'.cell? ⟨w3.heap.size,7,none⟩=some (.slice u.a u.l u.c))
              (first | exact ⟨o0,n0,n1,n2,n3,n4,n5,n6,n7⟩ | exact ⟨keepc hb6 o0,keepc hb6 n0,keepc hb6 n1,keepc hb6 n2,keepc hb6 n3,keepc hb6 n4,keepc hb6 n5,keepc hb6 n6,keepc hb6 n7⟩ | exact ⟨keeps4 (keepc hb6 o0) (by omega),keeps4 (keepc hb6 n0) (by omega),keeps4 (keepc hb6 n1) (by omega),keeps4 (keepc hb6 n2) (by omega),keeps4 (keepc hb6 n3) (by omega),keeps4 (keepc hb6 n4) (by omega),keeps4 (keepc hb6 n5) (by omega),keeps4 (keepc hb6 n6) (by omega),keeps4 (keepc hb6 n7) (by omega)⟩)
              (first | (go_at_call 69;refine (double_any wr.drew nd.op v.x v.a v.l v.c HFX.out HZX.out u.x u.a u.l u.c HFY.out HZY.out).mono ?_;rintro e w6 ⟨hn6,hb6⟩;have g6:=(hb6.block (w.heap.size+2) (by show _ < wr.heap.size;omega)).trans HQ2.out;obtain ⟨c0,c1,c2,c3,f0,f1,f2,f3⟩:=box4 g6;rw [hsr] at hn6;obtain ⟨vv,rfl,hs6⟩:=hn6;obtain ⟨ra,rl,rc,rfl,-⟩:=id hs6))
             go_wp2_with fail
             refine retbox rfl (w1:=w6) g6 rfl ?_
             refine ⟨.ok (x:=r) (a:=ra) (l:=rl) (c:=rc) (by rw [HS.out,hsr]) ?_,below_box (by omega) (HBW.out.drew.trans (hb6.mono (by show w.heap.size≤wr.heap.size;omega))) _ _ _ _⟩
             refine SV.mono (B:=wr.drew.heap.size) ?_ (by show w.heap.size≤wr.heap.size;omega)
             refine SV.box hs6 ?_ _ _ _ _
             show _ < wr.heap.size
             omega
           · go_wp2_with fail
             refine wp_region_held_drew (S:=(fun w'=>w'.cell? ⟨w.heap.size+1,0,none⟩=some (.int .i64 nd.op)∧w'.cell? ⟨w3.heap.size,0,none⟩=some (.int .i64 v.x.k)∧w'.cell? ⟨w3.heap.size,1,none⟩=some (.int .i64 v.x.n)∧w'.cell? ⟨w3.heap.size,2,none⟩=some (.string v.x.t)∧w'.cell? ⟨w3.heap.size,3,none⟩=some (.slice v.a v.l v.c)∧w'.cell? ⟨w3.heap.size,4,none⟩=some (.int .i64 u.x.k)∧w'.cell? ⟨w3.heap.size,5,none⟩=some (.int .i64 u.x.n)∧w'.cell? ⟨w3.heap.size,6,none⟩=some (.string u.x.t)∧w'.cell? ⟨w3.heap.size,7,none⟩=some (.slice u.a u.l u.c))) (by kernel_rfl) ⟨o0,n0,n1,n2,n3,n4,n5,n6,n7⟩ (fun hHeld=>?_)
             refine tkI (i:=0) (v:=?_) rfl ?_ ?_
             rotate_left
             · intro w hSw;(try dsimp only at hSw);go_simp;try with_reducible rfl
             (try simp only [Act.put,pa,pb,pc,pd,pe,pf])
             refine tkI (i:=1) (v:=?_) rfl ?_ ?_
             rotate_left
             · intro w hSw;(try dsimp only at hSw);go_simp;try with_reducible rfl
             (try simp only [Act.put,pa,pb,pc,pd,pe,pf])
             refine tkI (i:=2) (v:=?_) rfl ?_ ?_
             rotate_left
             · intro w hSw;(try dsimp only at hSw);go_simp;try with_reducible rfl
             (try simp only [Act.put,pa,pb,pc,pd,pe,pf])
             refine tkI (i:=3) (v:=?_) rfl ?_ ?_
             rotate_left
             · intro w hSw;(try dsimp only at hSw);go_simp;try with_reducible rfl
             (try simp only [Act.put,pa,pb,pc,pd,pe,pf])
             refine tkI (i:=4) (v:=?_) rfl ?_ ?_
             rotate_left
             · intro w hSw;(try dsimp only at hSw);go_simp;try with_reducible rfl
             (try simp only [Act.put,pa,pb,pc,pd,pe,pf])
             refine tkI (i:=5) (v:=?_) rfl ?_ ?_
             rotate_left
             · intro w hSw;(try dsimp only at hSw);go_simp;try with_reducible rfl
             (try simp only [Act.put,pa,pb,pc,pd,pe,pf])
             refine tkI (i:=6) (v:=?_) rfl ?_ ?_
             rotate_left
             · intro w hSw;(try dsimp only at hSw);go_simp;try with_reducible rfl
             (try simp only [Act.put,pa,pb,pc,pd,pe,pf])
             refine tkI (i:=7) (v:=?_) rfl ?_ ?_
             rotate_left
             · intro w hSw;(try dsimp only at hSw);go_simp;try with_reducible rfl
             (try simp only [Act.put,pa,pb,pc,pd,pe,pf])
             refine wpAnyH_ready (rs:=[8]) (by kernel_rfl) (by simp) ?_
             refine AllReadyH.cons rfl (fun K hK=>?_) AllReadyH.nil
             go_simp
             go_wp2_with (first | (go_at_call 69;refine (double_any wr.drew nd.op v.x v.a v.l v.c HFX.out HZX.out u.x u.a u.l u.c HFY.out HZY.out).mono ?_;rintro e w6 ⟨hn6,hb6⟩;have g6:=(hb6.block (w.heap.size+2) (by show _ < wr.heap.size;omega)).trans HQ2.out;obtain ⟨c0,c1,c2,c3,f0,f1,f2,f3⟩:=box4 g6;rw [hsr] at hn6;have hn7:e=refused er:=hn6;subst hn7;exact ⟨rfl,.err (by rw [HS.out,hsr]),HBW.out.drew.trans (hb6.mono (by show w.heap.size≤wr.heap.size;omega))⟩))
       · have HG:=Lib.hid (show allW (wK ns p.vw d) nd=gatheredW (vs.map Vc.x) by rw [HAW.out];simp at h6;simp [h6])
         go_wp2_with fail
         with_reducible refine (gathered_any _ _ _ _ vs HRQ.out (by omega)).mono ?_
         rintro e w6 ⟨hm6,hb6⟩
         have g6:=(hb6.block _ (by omega)).trans HQ2.out
         obtain ⟨c0,c1,c2,c3,f0,f1,f2,f3⟩:=box4 g6
         have HB6:=Lib.hid (HBW.out.trans (hb6.mono (by omega)))
         rcases hm6.cases with ⟨r,ra,rl,rc,hr6,rfl,hs6⟩ | ⟨er,hr6,rfl⟩
         · go_wp2_with fail
           refine retbox rfl (w1:=w6) g6 rfl ?_
           exact ⟨.ok (by rw [HG.out,hr6]) ((hs6.box (by omega) _ _ _ _).mono (by omega)),below_box (by omega) HB6.out _ _ _ _⟩
         · go_wp2_with fail
           exact ⟨rfl,.err (by rw [HG.out,hr6]),HB6.out⟩
end Go.Proofs.YtcnckjlmldnblaaGreatDoor
