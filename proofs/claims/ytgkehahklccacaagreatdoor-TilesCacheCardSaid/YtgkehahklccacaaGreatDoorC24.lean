import Derived.Test.YtgkehahklccacaaGreatDoorC23
import Derived.Test.YtgkehahklccacaaGreatDoorC17
import Derived.Test.YtgkehahklccacaaGreatDoorC09
import Derived.IntWalk
namespace Go.Proofs.YtgkehahklccacaaGreatDoor
open Go Go.RowKit
open Go.Lib (hid)
set_option maxRecDepth 100000
set_option maxHeartbeats 1000000
set_option linter.unusedVariables false
set_option linter.unusedSimpArgs false
section
open Go.Maps Go.WideMaps Go.ChangeMaps
def MAtN (w:World) (b n:Nat) (M:Nat→Nat→Sc):Prop:=∃ D:DataW Unit,w.ownsMap Tryz.prog 121 sliceR b n D∧size D=n∧∀ l j,l < 1099511627776→j < 1099511627776→D.atKey (kl2 l j) .nil=scD (M l j)∧has D (kl2 l j)=(M l j).isSome
section
variable {w w' : World} {b n : Nat} {M : Nat → Nat → Sc}
theorem MAtN.at (h:MAtN w b n M):MAt w b n M:=by
 obtain ⟨D,h1,-,h2⟩:=h
 exact ⟨D,h1,h2⟩
theorem MAtN.keep (h:MAtN w b n M) (hk:w'.heap[b]?=w.heap[b]?):MAtN w' b n M:=by
 obtain ⟨D,⟨es,ck,hb,hr⟩,h3⟩:=h
 exact ⟨D,⟨es,ck,hk.trans hb,hr⟩,h3⟩
theorem MAtN.made (w:World):MAtN (w.alloc (.map #[] 0)) w.heap.size 0 (fun _ _=>none) :=
 ⟨_,World.ownsMap_made w Tryz.prog 121 sliceR,rfl,fun l j _ _=>⟨rfl,rfl⟩⟩
theorem MAtN.update (h:MAtN w b n M) (hn:n < maxLen) {l j:Nat} (hl:l < 1099511627776) (hj:j < 1099511627776) (p:Nat × Nat × Nat) (h0:M l j=none):∃ w',(Instr.mapUpdate 95 (.map (some b)) (keyV l j) (encS (some p))).run Tryz.prog w=.ok () w'∧MAtN w' b (n+1) (put2 M l j (some p))∧w.grownBy w' (some b):=by
 obtain ⟨D,h1,hz,h2⟩:=h
 obtain ⟨w',hrun,h3,h4⟩:=h1.update law121 Tryz.underlying95 hn (key121 hl hj) (sliceR_enc (some p))
 refine ⟨w',hrun,⟨_,h3,?_,putD (h1.tidy law121) h2 hl hj p⟩,h4⟩
 have hs:=size_put (k:=kl2 l j) (h1.tidy law121) (scD (some p))
 rw [hs,(h2 l j hl hj).2,h0,hz]
 rfl
theorem MAtN.len (h:MAtN w b n M) (ty:TypeId):(Builtin.len_ #[95] ty #[.map (some b)]).run Tryz.prog w=.ok (.int .i64 n) w:=by
 obtain ⟨D,h1,hz,-⟩:=h
 have:=h1.len Tryz.underlying95 ty
 rwa [hz] at this
end
structure Found (w:World) (B fb k:Nat) (dss:Nat→List Dg) (M:Nat→Nat→Sc):Prop where
 map:MAtN w fb k M
 lo:B≤fb
 at_:∀ j,j < k→∃ gl,M 0 j=some (gl,256,256)∧B≤gl∧gl ≠ fb∧gl < w.heap.size∧DS w (some ⟨gl,0,none⟩) 256 256 (dss j)
 no:∀ l j,¬ (l=0∧j < k)→M l j=none
theorem Found.keep {w w':World} {B fb k:Nat} {dss:Nat→List Dg} {M:Nat→Nat→Sc} (h:Found w B fb k dss M) (hs:w.heap.size≤w'.heap.size) (hk:∀ b,b < w.heap.size→(b=fb∨∃ j,j < k∧∃ n c,M 0 j=some (b,n,c))→w'.heap[b]?=w.heap[b]?):Found w' B fb k dss M:=by
 refine ⟨h.map.keep (hk fb h.map.at.lt (.inl rfl)),h.lo,fun j hj=>?_,h.no⟩
 obtain ⟨gl,h1,h2,h3,h4,h5⟩:=h.at_ j hj
 exact ⟨gl,h1,h2,h3,Nat.lt_of_lt_of_le h4 hs,h5.same (hk gl h4 (.inr ⟨j,hj,_,_,h1⟩))⟩
theorem Found.below {w w':World} {B fb k:Nat} {dss:Nat→List Dg} {M:Nat→Nat→Sc} (h:Found w B fb k dss M) (hb:Below w.heap.size w w'):Found w' B fb k dss M:=h.keep hb.size (fun b hb' _=>hb.block b hb')
def tilesQ (wd:Nat) (dss:Nat→List Dg) (k:Nat):List UInt8:=((List.range k).map fun j=>tileP wd j (dss j)).flatten
theorem tilesQ_succ (wd:Nat) (dss:Nat→List Dg) (k:Nat):tilesQ wd dss (k+1)=tilesQ wd dss k++tileP wd k (dss k):=by
 unfold tilesQ
 rw [List.range_succ,List.map_append,List.flatten_append];simp
theorem tilesQ_len (wd:Nat) (dss:Nat→List Dg):∀ k,(∀ j,j < k→(dss j).length=256)→(tilesQ wd dss k).length=8207 * k
 | 0,_=>rfl
 | k+1,h=>by
   rw [tilesQ_succ,List.length_append,tilesQ_len wd dss k (fun j hj=>h j (by omega)),tileP_len,h k (by omega)];omega
theorem tilesQ_split (wd:Nat) (dss:Nat→List Dg) {k m:Nat} (h:k < m):∃ r,tilesQ wd dss m=tilesQ wd dss k++tileP wd k (dss k)++r:=by
 induction m with
 | zero=>omega
 | succ m ih =>
   rw [tilesQ_succ]
   by_cases e:k=m
   · subst e;exact ⟨[],by simp⟩
   · obtain ⟨r,hr⟩:=ih (by omega)
     exact ⟨r++tileP wd m (dss m),by rw [hr];simp [List.append_assoc]⟩
theorem tilesQ_at (wd:Nat) (dss:Nat→List Dg) (rest:List UInt8) {k m:Nat} (h:k < m) (hl:∀ j,j < m→(dss j).length=256):((tilesQ wd dss m++rest).drop (8207 * k)).take 8207=tileP wd k (dss k):=by
 obtain ⟨r,hr⟩:=tilesQ_split wd dss h
 rw [hr,List.append_assoc,List.append_assoc,List.drop_left' (tilesQ_len wd dss k (fun j hj=>hl j (by omega))),List.take_left' (by rw [tileP_len,hl k h])]
theorem dropA_low {a:Option Addr} {n k c B:Nat} (h:∀ x,a=some x→0 < n→x.block < B) (hn:0 < n):∀ x,dropA a k c=some x→x.block < B:=by
 intro x e
 unfold dropA at e
 split at e
 · exact h x e hn
 · cases a with
   | none=>cases e
   | some y =>
     have e:=Option.some.inj e
     rw [← e]
     have:(y.add k).block=y.block:=by unfold Addr.add;split <;> rfl
     rw [this]
     exact h y rfl hn
set_option maxHeartbeats 8000000
theorem tread_any (w:World) (τ:Nat→Nat) (gt gd:Nat) (T:TT) (Y:TY) (h:TS w τ gt gd T Y) (ht:HalfTab w) (a:Option Addr) (n c:Nat) (dss:Nat→List Dg) (rest:List UInt8) (m size:Nat) (hr:R8 w a n c (tilesQ T.wd.toNat dss m++rest))
 (hl:∀ j,j < m→(dss j).length=256) (hm:m≤size / 256) (hs:size < 65536)
 (hno:m < size / 256→8207≤rest.length→∀ (wx:World) (ax:Option Addr) (cx:Nat),Below w.heap.size w wx→R8 wx ax 8207 cx (rest.take 8207)→Calls Tryz.prog 109 #[.pointer (some ⟨gt,0,none⟩),.agg #[.int .i64 ((0:Nat):Int),.int .i64 (m:Int)],.slice ax 8207 cx] wx fun e w'=>(∃ v,e=.returned (.tuple #[v,.bool false]))∧Below wx.heap.size wx w') :
 Calls Tryz.prog 57 #[.pointer (some ⟨gt,0,none⟩),.slice a n c,.int .i64 (size:Int)] w fun e w'=>∃ fb M,e=.returned (.map (some fb))∧Found w' w.heap.size fb m dss M∧Below w.heap.size w w':=by
 obtain ⟨F,hF⟩:∃ F,F=size / 256:=⟨_,rfl⟩
 rw [← hF] at hm hno
 have hF2:F≤255:=by omega
 have hq:(size:Int) / 256=(F:Int):=by omega
 have HH:=hid (And.intro h (And.intro ht (And.intro hl hs)))
 have HM:=hid (And.intro hm hF2)
 have HNO:=hid hno
 obtain ⟨B,hB⟩:∃ B,B=tilesQ T.wd.toNat dss m++rest:=⟨_,rfl⟩
 rw [← hB] at hr
 have hBn:n=B.length:=hr.1.symm
 have hnB:n=8207 * m+rest.length:=by rw [hBn,hB,List.length_append,tilesQ_len _ _ _ hl]
 have HB:=hid hB
 have HNB:=hid hnB
 have HR:=hid hr
 have HSZ:=hid h.sz
 clear h ht hl hs hm hF2 hno hr hBn hnB hB hF
 have hmm:=@run_makeMap Tryz.prog
 go_enter Tryz.func57,Tryz.ntmps57
 go_wp2_with fail
 clear hmm
 have hmd:=MAtN.made w
 obtain ⟨w1,hw1⟩:∃ w1,w1=w.alloc (.map #[] 0):=⟨_,rfl⟩
 obtain ⟨fb,hfb⟩:∃ fb,fb=w.heap.size:=⟨_,rfl⟩
 have hb1:Below w.heap.size w w1:=by rw [hw1];exact (Below.refl _ _).alloc (Nat.le_refl _) _
 have hz1:w1.heap.size=fb+1:=by rw [hw1,World.size_alloc,hfb]
 rw [← hw1,← hfb] at hmd ⊢
 have HMD:=hid (show Found w1 w.heap.size fb 0 dss (fun _ _=>none) from ⟨hmd,by omega,fun j hj=>by omega,fun _ _ _=>rfl⟩)
 have HB1:=hid hb1
 have HFB:=hid hfb
 clear hmd hw1 hb1 hz1 hfb
 go_loopw [1,8] (fun s v wr=>∃ k:Nat,k≤m∧v=.int .i64 ((k+1:Nat):Int)∧(∃ a' c',s=.slice a' (n - 8207 * k) c'∧R8 wr a' (n - 8207 * k) c' (B.drop (8207 * k))∧∀ x,a'=some x→0 < n - 8207 * k→x.block < w.heap.size)∧(∃ M,Found wr w.heap.size fb k dss M)∧Below w.heap.size w wr) (fun _ v _=>F+1 - (intOf v).toNat)
 case atStart=>exact ⟨0,by omega,rfl,⟨a,c,by simp,by have:=HR.out.below HB1.out;simpa using this,fun x e h0=>by { obtain ⟨b,off,e2,-⟩:=HR.out.2.2.2 0 (by have:=HR.out.1;omega);rw [e2] at e;cases e;exact HR.out.lt b off e2 (by omega) }⟩,⟨_,HMD.out⟩,HB1.out⟩
 case round =>
  obtain ⟨k,hk,rfl,⟨a1,c1,rfl,hr,hal⟩,⟨M,hM⟩,hb⟩:=hrel
  have HR1:=hid hr;have HAL:=hid hal;have HBW:=hid hb;have HMM:=hid hM;have HK:=hid hk
  obtain ⟨x,hx⟩:∃ x,x=k+1:=⟨_,rfl⟩
  rw [← hx]
  have HX:=hid hx
  clear hr hb hM hk hx hal
  by_cases hF:k < F
  · have h9:decide (x≤F)=true:=by have:=HX.out;simp;omega
    have hF2:=HM.out.2
    have hx255:x≤255:=by have:=HX.out;omega
    have hxk:(x:Int) - 1=(k:Int):=by have:=HX.out;omega
    have hF:=hid hF
    by_cases hlen:n - 8207 * k < 8207
    · have h8:decide (((n - 8207 * k:Nat):Int) < 8207)=true:=by simp;omega
      have hkm:k=m:=by
       have h1:=HK.out;have h2:=HNB.out;have h3:=HM.out.1
       rcases Nat.lt_or_ge k m with h | h
       · have:8207 * (k+1)≤8207 * m:=Nat.mul_le_mul_left _ h
         omega
       · omega
      generalize n - 8207 * k=n1 at *
      clear hlen
      go_upto_region 5 with (fail)
      clear h9
      go_wp2_with fail
      refine wp_loop_rounds 1 ?_
      rw [rounds_succ]
      go_wp2_with fail
      go_ret
      subst hkm
      have hb2:Below wr.heap.size wr (wr.alloc (.cells #[.int .i64 0,.int .i64 (k:Int)] 121)):=(Below.refl _ _).alloc (Nat.le_refl _) _
      exact ⟨fb,M,rfl,HMM.out.below hb2,HBW.out.trans (hb2.mono HBW.out.size)⟩
    · have h8:decide (((n - 8207 * k:Nat):Int) < 8207)=false:=by simp;omega
      obtain ⟨n1,hn1⟩:∃ n1,n1=n - 8207 * k:=⟨_,rfl⟩
      rw [← hn1] at HR1 HAL h8 ⊢
      have hn1g:8207≤n1:=by omega
      have hsl:=fun wx=>slice_to8 wx a1 n1 c1 8207 (by have:=HR1.out.2.1;omega)
      rw [show ((8207:Nat):Int)=(8207:Int) from rfl] at hsl
      have HN1:=hid hn1
      have HN1G:=hid hn1g
      obtain ⟨w2,hw2⟩:∃ w2,w2=wr.alloc (.cells #[.int .i64 0,.int .i64 (k:Int)] 121):=⟨_,rfl⟩
      have hb2:Below wr.heap.size wr w2:=by rw [hw2];exact (Below.refl _ _).alloc (Nat.le_refl _) _
      have hk2:w2.heap[wr.heap.size]?=some (.cells #[.int .i64 0,.int .i64 (k:Int)] 121 (0,0)):=by rw [hw2];exact heap_alloc_new _ _
      have HB2:=hid hb2
      have HK2:=hid hk2
      have hw2':=hw2.symm
      clear hw2 hlen hn1 hn1g hb2 hk2
      go_upto_region 5 with (fail)
      clear h9
      go_wp2_with fail
      refine wp_loop_rounds 1 ?_
      rw [rounds_succ]
      go_wp2_with fail
      have k0:=cell_of_row w2 wr.heap.size 0 _ _ _ HK2.out
      have k1:=cell_of_row w2 wr.heap.size 1 _ _ _ HK2.out
      simp only [List.getElem?_toArray,List.getElem?_cons_zero,List.getElem?_cons_succ] at k0 k1
      have HB2W:=hid (HBW.out.trans (HB2.out.mono HBW.out.size))
      have hr2:=(HR1.out.below HB2.out).take 8207 HN1G.out
      by_cases hkm:k < m
      · rw [HB.out,tilesQ_at _ _ _ hkm HH.out.2.2.1] at hr2
        have HB2D:=hid (show Below w.heap.size w w2.drew from ⟨HB2W.out.os,HB2W.out.tape,HB2W.out.output,HB2W.out.size,HB2W.out.block⟩)
        have HTK:=hid (show Calls Tryz.prog 109 #[.pointer (some ⟨gt,0,none⟩),.agg #[.int .i64 0,.int .i64 (k:Int)],.slice a1 8207 c1] w2.drew _ from ttake_ok w2.drew τ gt gd T Y (HH.out.1.below HB2D.out) k (by have:=HM.out;omega) a1 8207 c1 (dss k) (HH.out.2.2.1 k hkm) (show R8 w2.drew _ _ _ _ from hr2) (HH.out.2.1.below HB2D.out (by have:=HSZ.out;omega)))
        have HKM:=hid hkm
        have hkb:=(Array.getElem?_eq_some_iff.1 HK2.out).1
        clear hr2 hkm
        go_region_held3 (fun x=>x.cell? ⟨wr.heap.size,0,none⟩=some (.int .i64 0)∧x.cell? ⟨wr.heap.size,1,none⟩=some (.int .i64 (k:Int)))
         (first | exact ⟨k0,k1⟩ | exact ⟨(World.cell?_of_block (hb3.block wr.heap.size hkb)).trans k0,(World.cell?_of_block (hb3.block wr.heap.size hkb)).trans k1⟩)
         (first | (go_at_call 109;refine (HTK.out).mono ?_;rintro e w3 ⟨gl,rfl,hgl,hds,hb3⟩))
        have HM3:=hid ((HMM.out.below HB2.out).below (show Below w2.heap.size w2 w3 from ⟨hb3.os,hb3.tape,hb3.output,hb3.size,hb3.block⟩))
        have HB3:=hid (HB2D.out.trans (hb3.mono HB2D.out.size))
        have HDS:=hid hds
        have HGL:=hid (show w.heap.size≤gl∧w2.heap.size≤gl from ⟨Nat.le_trans HB2W.out.size hgl,hgl⟩)
        have HFBL:=hid (show fb < w2.heap.size from (HMM.out.below HB2.out).map.at.lt)
        obtain ⟨w4,hup,hm4,hg4⟩:=HM3.out.map.update (l:=0) (j:=k) (by unfold maxLen;have:=HKM.out;have:=HM.out;omega) (by decide) (by have:=HKM.out;have:=HM.out;omega) (gl,256,256) (HM3.out.no 0 k (by omega))
        have hup:(Instr.mapUpdate 95 (.map (some fb)) (.agg #[.int .i64 0,.int .i64 (k:Int)]) (.slice (some ⟨gl,0,none⟩) 256 256)).run Tryz.prog w3=.ok () w4:=hup
        have hfr:∀ wx,(Instr.slice 53 (.slice a1 n1 c1) (some (.int .i64 8207)) none none).run Tryz.prog wx=.ok (.slice (dropA a1 8207 c1) (n1 - 8207) (c1 - 8207)) wx:=fun wx=>slice_from (P:=Tryz.prog) sl22 wx a1 n1 c1 8207 8207 rfl HN1G.out
        have l0:=(World.cell?_of_block (hb3.block wr.heap.size hkb)).trans k0
        have l1:=(World.cell?_of_block (hb3.block wr.heap.size hkb)).trans k1
        have hglt:gl < w3.heap.size:=by
         obtain ⟨b,off,e,hlt,-⟩:=hds.at (i:=0) (List.getElem?_eq_getElem (by rw [HH.out.2.2.1 k HKM.out];decide))
         cases e;exact hlt
        have hF4:Found w4 w.heap.size fb (k+1) dss (put2 M 0 k (some (gl,256,256))):=by
         refine ⟨hm4,HM3.out.lo,fun j hj=>?_,fun l j hlj=>?_⟩
         · by_cases e:j=k
           · subst e
             exact ⟨gl,put2_same _ _ _ _,HGL.out.1,by have:=HGL.out.2;have:=HFBL.out;omega,Nat.lt_of_lt_of_le hglt hg4.size,hds.same (hg4.block gl hglt (fun e=>by have:=Option.some.inj e;have:=HGL.out.2;have:=HFBL.out;omega))⟩
           · obtain ⟨g',q1,q2,q3,q4,q5⟩:=HM3.out.at_ j (by omega)
             exact ⟨g',(put2_other _ (by rintro ⟨-,h⟩;exact e h)).trans q1,q2,q3,Nat.lt_of_lt_of_le q4 hg4.size,q5.same (hg4.block g' q4 (fun e=>q3 (Option.some.inj e)))⟩
         · rw [put2_other _ (by rintro ⟨rfl,rfl⟩;exact hlj ⟨rfl,by omega⟩)]
           exact HM3.out.no l j (by omega)
        have HF4:=hid hF4
        have HB4:=hid (HB3.out.grown hg4 HB3.out.size (fun q hq=>by rw [← Option.some.inj hq];exact HM3.out.lo))
        have hrd:R8 w4 (dropA a1 8207 c1) (n1 - 8207) (c1 - 8207) (B.drop (8207 * (k+1))):=by
         have h1:=(HR1.out.dropA 8207 HN1G.out)
         rw [List.drop_drop] at h1
         have h2:=h1.same (w':=w4) (fun b off e h0=>by
          have h9:b < w.heap.size:=dropA_low HAL.out (by have:=HN1G.out;omega) _ e
          exact (HB4.out.block b h9).trans (HBW.out.block b h9).symm)
         rwa [show 8207 * k+8207=8207 * (k+1) by omega] at h2
        have HRD:=hid hrd
        clear hgl hds hb3 hm4 hg4 hglt hF4 hrd k0 k1
        go_wp2_with fail
        have hk:=HKM.out
        have hx:=HX.out
        have hnk:n - 8207 * (k+1)=n1 - 8207:=by have:=HN1.out;omega
        refine ⟨⟨k+1,hk,by rw [hx];go_num,⟨dropA a1 8207 c1,c1 - 8207,by rw [hnk],by rw [hnk];exact HRD.out,fun x e h0=>dropA_low HAL.out (by have:=HN1G.out;omega) x e⟩,⟨_,HF4.out⟩,HB4.out⟩,by have:=hF.out;rw [hx];simp [intOf];omega⟩
      · have hkm:k=m:=by have:=HK.out;omega
        have hBd:B.drop (8207 * k)=rest:=by rw [HB.out,hkm];exact List.drop_left' (tilesQ_len _ _ _ HH.out.2.2.1)
        rw [hBd] at hr2
        have hrl:8207≤rest.length:=by have h1:=HN1.out;have h2:=HNB.out;have h3:=HN1G.out;rw [hkm] at h1;omega
        have HB2D:=hid (show Below w.heap.size w w2.drew from ⟨HB2W.out.os,HB2W.out.tape,HB2W.out.output,HB2W.out.size,HB2W.out.block⟩)
        have HTK:=hid (show Calls Tryz.prog 109 #[.pointer (some ⟨gt,0,none⟩),.agg #[.int .i64 0,.int .i64 (k:Int)],.slice a1 8207 c1] w2.drew _ from hkm ▸ HNO.out (by rw [← hkm];exact hF.out) hrl w2.drew a1 c1 HB2D.out (show R8 w2.drew _ _ _ _ from hr2))
        have HKM:=hid hkm
        have hkb:=(Array.getElem?_eq_some_iff.1 HK2.out).1
        clear hr2 hkm hrl hBd
        go_region_held3 (fun x=>x.cell? ⟨wr.heap.size,0,none⟩=some (.int .i64 0)∧x.cell? ⟨wr.heap.size,1,none⟩=some (.int .i64 (k:Int)))
         (first | exact ⟨k0,k1⟩ | exact ⟨(World.cell?_of_block (hb3.block wr.heap.size hkb)).trans k0,(World.cell?_of_block (hb3.block wr.heap.size hkb)).trans k1⟩)
         (first | (go_at_call 109;refine (HTK.out).mono ?_;rintro e w3 ⟨⟨v,rfl⟩,hb3⟩))
        have HM3:=hid ((HMM.out.below HB2.out).below (show Below w2.heap.size w2 w3 from ⟨hb3.os,hb3.tape,hb3.output,hb3.size,hb3.block⟩))
        have HB3:=hid (HB2D.out.trans (hb3.mono HB2D.out.size))
        clear hb3 k0 k1
        go_wp2_with fail
        go_ret
        rw [HKM.out] at HM3
        exact ⟨fb,M,rfl,HM3.out,HB3.out⟩
  · have h9:decide (x≤F)=false:=by have:=HX.out;simp;omega
    have hF2:=HM.out.2
    have hkm:k=m:=by have:=HK.out;have:=HM.out.1;omega
    go_wp2_with fail
    go_ret
    subst hkm
    exact ⟨fb,M,rfl,HMM.out,HBW.out⟩
end
section
open Go.Maps Go.WideMaps Go.ChangeMaps
def looseB (d:Dm):Bool:=decide (0 < d.changes.length) || d.loose.2.any fun n=>decide (0 < n)
def OpRet (w:World) (L:Lay) (gd:Nat) (d:Dm) (T:TT) (e:Ending) (w':World):Prop :=
 ∃ (gt:Nat) (τ:Nat→Nat) (Y:TY),e=.returned (.tuple #[.pointer (some ⟨gt,0,none⟩),.nilIface])∧BT w' L τ gt gd (d.claim tlN) T Y∧Upd L.ρ L.ρ w w'∧∀ k,τ k ≠ 0→w.heap.size≤k
theorem UB.upd {L L':Lay} {τ τ':Nat→Nat} {w0 w w':World} (h:UB L τ L' τ' w w') (hb:Below w0.heap.size w0 w) (hτ:∀ k,τ k ≠ 0→w0.heap.size≤k):Upd L.ρ L'.ρ w0 w' :=
 ⟨h.os.trans hb.os,h.tape.trans hb.tape,h.output.trans hb.output,Nat.le_trans hb.size h.size,fun k hk h0=>(h.block k (Nat.lt_of_lt_of_le hk hb.size) h0 (by
   rcases Nat.eq_zero_or_pos (τ k) with e | e
   · exact e
   · have:=hτ k (by omega);omega)).trans (hb.block k hk),⟨h.extL.same,fun k hk h0=>h.extL.old k (Nat.lt_of_lt_of_le hk hb.size) h0⟩⟩
noncomputable def op0:Code:=Tryz.f21.body.getD .skip
set_option maxHeartbeats 8000000
theorem open_tail (w0 w:World) (L:Lay) (τ:Nat→Nat) (gt gd:Nat) (d:Dm) (T:TT) (Y:TY) (h:BT w L τ gt gd d T Y) (hb0:Below w0.heap.size w0 w) (hτ:∀ k,τ k ≠ 0→w0.heap.size≤k) (hp:Pre d) (hun:∀ i,i < d.fs.length→(d.file i).units≤9223372036854775806) (hcl:d.claims.length < 1000000) (hco:-4611686018427387904≤d.claimOf tlN∧d.claimOf tlN≤4611686018427387904)
 (fb m:Nat) (dss:Nat→List Dg) (M:Nat→Nat→Sc) (hF:Found w w0.heap.size fb m dss M) (hm:m≤1000) (u1 u2 u3 u4 u5 u6 u7 u8 u9 vW vX vY vZ qA qB qC qD qE qF qG qH qI qJ qK qL qM qN qO qP qQ qR qS qT qU qV qW qX qY qZ jA jB jC jD jE jF jG jH jI jJ jK jL jM jN jO jP jQ jR jS jT jU jV jW jX jY jZ yA yB yC yD yE yF yG yH yI yJ yK yL yM yN yO yP yQ yR yS yT yU yV yW yX yY yZ zA zB zC zD zE zF uA uB uC uD uE uF uG uH uI uJ uK uL uM uN uO uP uQ uR uS uT uU uV uW uX uY uZ vA vB vC vD vE vF vG vH vI vJ vK vL vM vN vO vP vQ vR vS vT vU vV:Value) :
 Code.wp Tryz.prog (dropSeq 8 op0) (bodyPost Tryz.prog Tryz.f21 (OpRet w0 L gd d { T with held:=m,l0:=looseB d,l1:=looseB d,cl:=d.claimOf tlN+1 })) ⟨#[.pointer (some ⟨gd,0,none⟩),u1,u2,u3,u4,u5,u6,u7,u8,u9,vW,vX,.pointer (some ⟨gt,0,none⟩),.map (some fb),vY,vZ,qA,qB,qC,qD,qE,qF,qG,qH,qI,qJ,qK,qL,qM,qN,qO,qP,qQ,qR,qS,qT,qU,qV,qW,qX,qY,qZ,jA,jB,jC,jD,jE,jF,jG,jH,jI,jJ,jK,jL,jM,jN,jO,jP,jQ,jR,jS,jT,jU,jV,jW,jX,jY,jZ,yA,yB,yC,yD,yE,yF,yG,yH,yI,yJ,yK,yL,yM,yN,yO,yP,yQ,yR,yS,yT,yU,yV,yW,yX,yY,yZ,zA,zB,zC,zD,zE,zF,uA,uB,uC,uD,uE,uF,uG,uH,uI,uJ,uK,uL,uM,uN,uO,uP,uQ,uR,uS,uT,uU,uV,uW,uX,uY,uZ,vA,vB,vC,vD,vE,vF,vG,vH,vI,vJ,vK,vL,vM,vN,vO,vP,vQ,vR,vS,vT,vU,vV],[]⟩ w:=by
 have hln:∀ ty,(Builtin.len_ #[95] ty #[.map (some fb)]).run Tryz.prog w=.ok (.int .i64 m) w:=fun ty=>hF.map.len ty
 have e8:=h.t.cells.2.2.2.2.2.2.2.1
 have f8:=h.t.cells.2.2.2.2.2.2.2.2.2.2 8
 have HH:=hid h
 have HX:=hid (And.intro hb0 (And.intro hτ (And.intro hp (And.intro hun (And.intro hcl hco)))))
 clear h hb0 hτ hp hun hcl hco hF
 refine wp_two_k (c:=dropSeq 8 op0) ⟨_,_,rfl⟩ fun K hK=>?_
 have HK:=hid hK
 clear hK
 conv=>arg 2;whnf
 go_wp2_with fail
 refine HK.out _ _ ?_
 clear HK K
 rw [dropSeq_succ]
 obtain ⟨hb1,hg1⟩:=row_setCell (i:=8) HH.out.t.box (.int .i64 (m:Int))
 obtain ⟨ht1,hu1⟩:=HH.out.t.own1 (T':={ T with held:=m }) hg1 hb1 rfl rfl
 have HB1:=hid (HH.out.tiles ht1 hu1)
 have HU1:=hid hu1
 clear hb1 hg1 ht1 hu1 e8 f8 hln
 generalize w.setCell ⟨gt,8,none⟩ (.int .i64 (m:Int))=w1 at HB1 HU1 ⊢
 have HLO:=hid (loose_any w1 L gd d HB1.out.d HX.out.2.2.1 HX.out.2.2.2.1)
 obtain ⟨rn,hrn⟩:∃ rn,rn=d.reach.length:=⟨_,rfl⟩
 obtain ⟨cn,hcn⟩:∃ cn,cn=d.changes.length:=⟨_,rfl⟩
 have hrl:d.loose.2.length=rn:=by rw [hrn];simp [Dm.loose]
 have HRL:=hid hrl
 have HCN:=hid hcn
 rw [← hrn,← hcn] at HLO
 clear hrn hcn hrl
 refine wp_two_k (c:=dropSeq 9 op0) ⟨_,_,rfl⟩ fun K hK=>?_
 have HK:=hid hK
 clear hK
 conv=>arg 2;whnf
 go_wp2_with (go_at_call 35;refine HLO.out.mono ?_;rintro e w2 ⟨hb2,sa,sc,rfl,ho⟩;have HB2:=hid hb2;have HO:=hid ho;clear hb2 ho)
 refine HK.out _ _ ?_
 clear HK K
 rw [dropSeq_succ]
 obtain ⟨g3,hg3⟩:∃ g3,g3=w2.heap.size:=⟨_,rfl⟩
 have hx3:=heap_alloc_new w2 (.cells #[.slice sa rn sc,.int .i64 (cn:Int)] 43)
 have hb3:Below w2.heap.size w2 (w2.alloc (.cells #[.slice sa rn sc,.int .i64 (cn:Int)] 43)):=(Below.refl _ _).alloc (Nat.le_refl _) _
 have ho3:=HO.out.alloc (.cells #[.slice sa rn sc,.int .i64 (cn:Int)] 43)
 rw [← hg3] at hx3 ⊢
 generalize w2.alloc (.cells #[.slice sa rn sc,.int .i64 (cn:Int)] 43)=w3 at hx3 hb3 ho3 ⊢
 have k0:=cell_of_row w3 g3 0 _ _ _ hx3
 have k1:=cell_of_row w3 g3 1 _ _ _ hx3
 simp only [List.getElem?_toArray,List.getElem?_cons_zero,List.getElem?_cons_succ] at k0 k1
 have hb13:=HB2.out.trans (hb3.mono HB2.out.size)
 have HB3:=hid (HB1.out.below hb13)
 have HB13:=hid hb13
 have HO3:=hid ho3
 clear hg3 hx3 hb3 ho3 hb13
 refine wp_two_k (c:=dropSeq 10 op0) ⟨_,_,rfl⟩ fun K hK=>?_
 have HK:=hid hK
 clear hK
 conv=>arg 2;whnf
 go_wp2_with fail
 refine HK.out _ _ ?_
 clear HK K
 rw [dropSeq_succ]
 clear k1
 have HRI:=hid (RI.of_owns HO3.out (by rw [← HRL.out];have:=reach_len HX.out.2.2.1;simp [Dm.loose];omega))
 refine wp_two_k (c:=dropSeq 11 op0) ⟨_,_,rfl⟩ fun K hK=>?_
 have HK:=hid hK
 clear hK
 conv=>arg 2;whnf
 go_wp2_with fail
 go_loop [19,126] (fun b v=>∃ k:Nat,k≤rn∧v=.int .i64 (k:Int)∧b=.bool (decide (0 < cn) || (d.loose.2.take k).any fun n=>decide (0 < n))) (fun _ v=>rn - (intOf v).toNat)
 case atStart=>exact ⟨0,by omega,rfl,by simp⟩
 case round =>
  obtain ⟨k,hk,rfl,rfl⟩:=hrel
  by_cases hlt:k < rn
  · obtain ⟨x,hx⟩:∃ x,d.loose.2[k]?=some x:=⟨_,List.getElem?_eq_getElem (by rw [HRL.out];exact hlt)⟩
    obtain ⟨b',off',rfl,hc⟩:=HRI.out.2.2 k x hx
    unfold nV at hc
    have h9:decide ((k:Int) < (rn:Int))=true:=by simp;omega
    have HT:=hid (show ((d.loose.2.take (k+1)).any fun n=>decide (0 < n))=(((d.loose.2.take k).any fun n=>decide (0 < n)) || decide (0 < x)) by rw [List.take_add_one,hx];simp [List.any_append])
    obtain ⟨b1,hb1⟩:∃ b1,b1=(decide (0 < cn) || (d.loose.2.take k).any fun n=>decide (0 < n)):=⟨_,rfl⟩
    rw [← hb1]
    have HB1':=hid hb1
    have HLT:=hid hlt
    clear hb1 hlt hk hx
    have hkb:k≤1099511631873:=by have:=HRI.out.2.1;have:=HLT.out;omega
    by_cases hx0:0 < x
    · have h8:decide (0 < x)=true:=by simp;omega
      have HX0:=hid hx0
      clear hx0
      cases b1
      all_goals
       go_wp2_with fail
       go_round
       case rel=>exact ⟨k+1,HLT.out,by go_num,by rw [HT.out,← Bool.or_assoc,← HB1'.out];simp [HX0.out]⟩
       case measure=>have:=HLT.out;simp [intOf];omega
    · have h8:decide (0 < x)=false:=by simp;omega
      obtain rfl:x=0:=by omega
      clear hx0
      cases b1
      all_goals
       go_wp2_with fail
       go_round
       case rel=>exact ⟨k+1,HLT.out,by go_num,by rw [HT.out,← Bool.or_assoc,← HB1'.out];simp⟩
       case measure=>have:=HLT.out;simp [intOf];omega
  · obtain rfl:k=rn:=by omega
    have h9:decide ((k:Int) < (k:Int))=false:=by simp
    have hlo:(decide (0 < cn) || (d.loose.2.take k).any fun n=>decide (0 < n))=looseB d:=by
     rw [List.take_of_length_le (by rw [HRL.out];exact Nat.le_refl _),HCN.out];rfl
    rw [hlo]
    obtain ⟨lo,hlo2⟩:∃ lo,lo=looseB d:=⟨_,rfl⟩
    rw [← hlo2]
    have HLB:=hid hlo2
    clear hlo hlo2 hlt hk
    go_wp2_with fail
    refine HK.out _ _ ?_
    rw [dropSeq_succ]
    clear HK HRI HO HO3 HLO k0
    have e9:=HB3.out.t.cells.2.2.2.2.2.2.2.2.1
    have e10:=HB3.out.t.cells.2.2.2.2.2.2.2.2.2.1
    have f9:=HB3.out.t.cells.2.2.2.2.2.2.2.2.2.2 9
    have f10:=HB3.out.t.cells.2.2.2.2.2.2.2.2.2.2 10
    refine wp_two_k (c:=dropSeq 12 op0) ⟨_,_,rfl⟩ fun K hK=>?_
    have HK:=hid hK
    clear hK
    conv=>arg 2;whnf
    go_wp2_with fail
    refine HK.out _ _ ?_
    clear HK K
    rw [dropSeq_succ]
    clear e9 e10 f9 f10
    obtain ⟨hb4,hg4⟩:=row_setCell (i:=9) HB3.out.t.box (.bool lo)
    obtain ⟨ht4,hu4⟩:=HB3.out.t.own1 (T':={ T with held:=m,l0:=lo }) hg4 hb4 rfl rfl
    have HB4:=hid (HB3.out.tiles ht4 hu4)
    obtain ⟨hb5,hg5⟩:=row_setCell (i:=10) HB4.out.t.box (.bool lo)
    obtain ⟨ht5,hu5⟩:=HB4.out.t.own1 (T':={ T with held:=m,l0:=lo,l1:=lo }) hg5 hb5 rfl rfl
    have HB5:=hid (HB4.out.tiles ht5 hu5)
    have HU5:=hid (((UB.of_tiles (L:=L) HU1.out).trans (UB.of_below HB13.out)).trans ((UB.of_tiles (L:=L) hu4).trans (UB.of_tiles hu5)))
    clear hb4 hg4 ht4 hu4 hb5 hg5 ht5 hu5 HB4
    generalize (w3.setCell ⟨gt,9,none⟩ (.bool lo)).setCell ⟨gt,10,none⟩ (.bool lo)=w5 at HB5 HU5 ⊢
    have HCL:=hid (claim_any w5 L gd d HB5.out.d tlN (by decide) (by have:=HX.out.2.2.2.2.1;unfold maxLen;omega) HX.out.2.2.2.2.2)
    obtain ⟨co,hco⟩:∃ co,co=d.claimOf tlN+1:=⟨_,rfl⟩
    rw [← hco] at HCL ⊢
    clear hco
    refine wp_two_k (c:=dropSeq 13 op0) ⟨_,_,rfl⟩ fun K hK=>?_
    have HK:=hid hK
    clear hK
    conv=>arg 2;whnf
    go_wp2_with (go_at_call 58;refine HCL.out.mono ?_;rintro e w6 ⟨rfl,hd6,hu6⟩;have hB6:=HB5.out.disk hd6 hu6;have e2:=hB6.t.cells.2.2.1;have f2:=hB6.t.cells.2.2.2.2.2.2.2.2.2.2 2;have HB6:=hid hB6;have HU6:=hid (HU5.out.trans (UB.of_disk hu6));clear hd6 hu6 hB6)
    refine HK.out _ _ ?_
    clear HK K
    rw [dropSeq_succ]
    obtain ⟨hb7,hg7⟩:=row_setCell (i:=2) HB6.out.t.box (.int .i64 co)
    obtain ⟨ht7,hu7⟩:=HB6.out.t.own1 (T':={ T with held:=m,l0:=lo,l1:=lo,cl:=co }) hg7 hb7 rfl rfl
    have HB7:=hid (HB6.out.tiles ht7 hu7)
    have HU7:=hid (HU6.out.trans (UB.of_tiles hu7))
    clear e2 f2 hb7 hg7 ht7 hu7
    conv=>arg 2;whnf
    go_wp2_with fail
    go_ret2
    rw [← HLB.out]
    exact ⟨gt,τ,Y,rfl,HB7.out,HU7.out.upd HX.out.1 HX.out.2.1,HX.out.2.1⟩
end
section
open Go.Maps Go.WideMaps Go.ChangeMaps
theorem ret_i {k:IntKind} {a b:Int} (h:a=b):Ending.returned (.int k a)=.returned (.int k b):=by rw [h]
def wiP (x lo hi:Int):Int:=lo+x % (hi - lo+1)
theorem wiP_le (x lo hi:Int) (h:lo≤hi):lo≤wiP x lo hi∧wiP x lo hi≤hi:=by
 have h1:=Int.emod_nonneg x (show hi - lo+1 ≠ 0 by omega)
 have h2:=Int.emod_lt_of_pos x (show 0 < hi - lo+1 by omega)
 unfold wiP;omega
theorem within_any (w:World) (x lo hi:Int) (hx0:-9223372036854775808≤x) (hx1:x≤9223372036854775807) (h0:0≤lo) (h1:lo≤hi) (h2:hi≤1099511627776) :
 Calls Tryz.prog 8 #[.int .i64 x,.int .i64 lo,.int .i64 hi] w fun e w'=>e=.returned (.int .i64 (wiP x lo hi))∧w'=w:=by
 obtain ⟨m,hm⟩:∃ m,m=hi - lo+1:=⟨_,rfl⟩
 have ht1:- m < x.tmod m:=by
  have:=Int.lt_tmod_of_pos x (show 0 < m by omega);omega
 have ht2:x.tmod m < m:=Int.tmod_lt_of_pos x (by omega)
 have he:x % m=if x.tmod m < 0 then x.tmod m+m else x.tmod m:=by
  by_cases hs:0≤x
  · rw [Int.tmod_eq_emod_of_nonneg hs,if_neg (by have:=Int.emod_nonneg x (show m ≠ 0 by omega);omega)]
  · have e1:=Int.tmod_eq_emod (a:=x) (b:=m)
    have e2:=Int.emod_nonneg x (show m ≠ 0 by omega)
    have e3:=Int.emod_lt_of_pos x (show 0 < m by omega)
    by_cases hd:m ∣ x
    · rw [if_pos (Or.inr hd)] at e1
      have:=Int.emod_eq_zero_of_dvd hd
      rw [if_neg (by omega)];omega
    · rw [if_neg (by rintro (h | h) <;> contradiction)] at e1
      have e4:x % m ≠ 0:=fun e=>hd (Int.dvd_of_emod_eq_zero e)
      rw [if_pos (by omega)];omega
 have hw:wiP x lo hi=lo+x % m:=by unfold wiP;rw [hm]
 have hne:(m == 0)=false:=by simp;omega
 have hmm:hi - lo+1=m:=hm.symm
 rw [hw,he]
 generalize hT:x.tmod m=t at *
 have HT:=hid hT
 have HM:=hid hm
 clear hw he hm
 go_enter Tryz.func8,Tryz.ntmps8
 by_cases ht:t < 0
 · rw [if_pos ht]
   go_wp2
   go_ret
   exact ⟨ret_i (by have:=HM.out;omega),rfl⟩
 · rw [if_neg ht]
   go_wp2
   go_ret
   exact ⟨rfl,rfl⟩
theorem byte_of (x:Int) (h0:0≤x) (h1:x < 256):∃ c:UInt8,Value.int .u8 x=b8 c:=by
 refine ⟨UInt8.ofNat x.toNat,?_⟩
 unfold b8
 rw [show (UInt8.ofNat x.toNat).toNat=x.toNat by simp;omega]
 congr 1
 omega
theorem dg_store {w:World} {g:Nat} {l:Dg} (h:w.heap[g]?=some (.cells (dgA l.1) 38 (0,0))) (p:Nat) (v:Value) (hv:∃ c:UInt8,v=b8 c):∃ l':Dg,(w.setCell ⟨g,p,none⟩ v).heap[g]?=some (.cells (dgA l'.1) 38 (0,0)):=by
 obtain ⟨c,rfl⟩:=hv
 refine ⟨⟨l.1.set p c,by rw [List.length_set];exact l.2⟩,?_⟩
 rw [heap_setCell_same w g p _ _ (b8 c) h]
 congr 2
 unfold dgA
 simp [List.map_set]
theorem dg_cell {w:World} {g:Nat} {l:Dg} (h:w.heap[g]?=some (.cells (dgA l.1) 38 (0,0))) (p:Nat) (hp:p < 32):∃ v,w.cell? ⟨g,p,none⟩=some v :=
 ⟨_,(cell_of_row w g p _ _ _ h).trans (Array.getElem?_eq_getElem (by rw [dgA_size,l.2];exact hp))⟩
def zDg:Dg:=⟨List.replicate 32 0,rfl⟩
def DgRet (w:World) (e:Ending) (w':World):Prop:=∃ d:Dg,e=.returned (.agg (dgA d.1))∧Below w.heap.size w w'
set_option maxHeartbeats 4000000
theorem leafof_any (w:World) (x y:Int) :
 Calls Tryz.prog 36 #[.int .i64 x,.int .i64 y] w (DgRet w):=by
 go_enter Tryz.func36,Tryz.ntmps36
 go_upto_region 2 with (fail)
 obtain ⟨o1,ho1⟩:∃ o1:Obj,o1=.cells #[.int .u8 0,.int .u8 0,.int .u8 0,.int .u8 0,.int .u8 0,.int .u8 0,.int .u8 0,.int .u8 0,.int .u8 0,.int .u8 0,.int .u8 0,.int .u8 0,.int .u8 0,.int .u8 0,.int .u8 0,.int .u8 0,.int .u8 0,.int .u8 0,.int .u8 0,.int .u8 0,.int .u8 0,.int .u8 0,.int .u8 0,.int .u8 0,.int .u8 0,.int .u8 0,.int .u8 0,.int .u8 0,.int .u8 0,.int .u8 0,.int .u8 0,.int .u8 0] 38:=⟨_,rfl⟩
 rw [← ho1]
 obtain ⟨w2,hw2⟩:∃ w2,w2=(w.alloc o1).alloc o1:=⟨_,rfl⟩
 obtain ⟨r0,hr0⟩:∃ r0,r0=w.heap.size:=⟨_,rfl⟩
 obtain ⟨d5,hd5⟩:∃ d5,d5=r0+1:=⟨_,rfl⟩
 have hz2:w2.heap.size=d5+1:=by rw [hw2,World.size_alloc,World.size_alloc];omega
 have ho2:o1=.cells (dgA zDg.1) 38 (0,0):=by rw [ho1];rfl
 have hh5:w2.heap[d5]?=some (.cells (dgA zDg.1) 38 (0,0)):=by rw [hw2,hd5,hr0,← World.size_alloc w o1,heap_alloc_new,ho2]
 have hh0:w2.heap[r0]?=some (.cells (dgA zDg.1) 38 (0,0)):=by
  have e1:(w.alloc o1).heap[r0]?=some o1:=by rw [hr0];exact heap_alloc_new _ _
  have e2:=((Below.refl (w.alloc o1).heap.size (w.alloc o1)).alloc (Nat.le_refl _) o1).block r0 (by rw [World.size_alloc];omega)
  rw [hw2,← ho2]
  exact e2.trans e1
 have hb2:Below r0 w w2:=by rw [hw2,hr0];exact ((Below.refl _ _).alloc (Nat.le_refl _) _).alloc (by simp) _
 rw [← hw2,← hr0,← hd5]
 have HH5:=hid hh5;have HH0:=hid hh0;have HB2:=hid hb2;have HZ2:=hid hz2;have HD5:=hid hd5;have HR0:=hid hr0
 clear hh5 hh0 hb2 hz2 hd5 hr0 hw2 ho1 ho2 o1
 generalize hX:IntKind.u64.wrap (IntKind.u64.wrap (IntKind.u64.wrap x * 2654435769)+IntKind.u64.wrap y)=X0
 go_upto_region 4 with (fail)
 clear hX
 go_loopw [7,6] (fun v z wr=>∃ k:Nat,k≤4∧v=.int .i64 ((8 * k:Nat):Int)∧(∃ X:Int,z=.int .u64 X)∧(∃ l:Dg,wr.heap[d5]?=some (.cells (dgA l.1) 38 (0,0)))∧Below d5 w2 wr) (fun v _ _=>32 - (intOf v).toNat)
 case atStart=>exact ⟨0,by omega,rfl,⟨_,rfl⟩,⟨zDg,HH5.out⟩,Below.refl _ _⟩
 case round =>
  rename World=>wo
  obtain ⟨k,hk,rfl,⟨X,rfl⟩,⟨l,hl⟩,hb⟩:=hrel
  obtain ⟨k8,hk8⟩:∃ k8,k8=8 * k:=⟨_,rfl⟩
  rw [← hk8]
  have HL:=hid hl;have HB:=hid hb;have HK8:=hid hk8;have HK:=hid hk
  by_cases hlt:k < 4
  · have h9:decide ((k8:Int) < 32)=true:=by simp;omega
    have hk32:k8≤24:=by omega
    have HLT:=hid hlt
    clear hl hb hk8 hk hlt
    go_upto_region 11 with (fail)
    clear h9
    go_loopw [9] (fun v wr=>∃ j:Nat,j≤8∧v=.int .i64 (j:Int)∧(∃ l:Dg,wr.heap[d5]?=some (.cells (dgA l.1) 38 (0,0)))∧Below d5 w2 wr) (fun v _=>8 - (intOf v).toNat)
    case atStart=>exact ⟨0,by omega,rfl,⟨l,HL.out⟩,HB.out⟩
    case round =>
     obtain ⟨j,hj,rfl,⟨l2,hl⟩,hb⟩:=hrel
     have HL2:=hid hl;have HB3:=hid hb;have HJ:=hid hj
     by_cases hlt:j < 8
     · have h9:decide ((j:Int) < 8)=true:=by simp;omega
       have hj7:j≤7:=by omega
       obtain ⟨p,hp⟩:∃ p,p=k8+j:=⟨_,rfl⟩
       have hp31:p < 32:=by omega
       have hkj:(k8:Int)+(j:Int)=(p:Int):=by omega
       obtain ⟨q,hq⟩:∃ q,q=8 * j:=⟨_,rfl⟩
       have hqj:8 * (j:Int)=(q:Int):=by omega
       have hq56:q≤56:=by omega
       have hp0:(0:Int)≤(q:Int):=by omega
       obtain ⟨v0,hv0⟩:=dg_cell hl p hp31
       have hf0:=frozen_of_row wr d5 p _ _ hl
       have HLT2:=hid hlt
       clear hl hb hj hp hq hlt
       go_wp2_with fail
       refine ⟨⟨j+1,by have:=HLT2.out;omega,by go_num,dg_store HL2.out p _ (byte_of _ ?_ ?_),HB3.out.setCell (Nat.le_refl _) _⟩,by have:=HLT2.out;simp [intOf];omega⟩
       · exact Int.emod_nonneg _ (by decide)
       · exact Int.emod_lt_of_pos _ (by decide)
     · obtain rfl:j=8:=by omega
       have h9:decide (((8:Nat):Int) < 8)=false:=by decide
       clear hl hb hj hlt
       go_wp2_with fail
       go_roundw
       case rel=>exact ⟨k+1,by have:=HLT.out;omega,by (rw [show 8 * (k+1)=k8+8 by have:=HK8.out;omega];go_num),⟨_,rfl⟩,⟨l2,HL2.out⟩,HB3.out⟩
       case measure=>have:=hk32;simp [intOf];omega
  · obtain rfl:k=4:=by omega
    have h9:decide (((32:Nat):Int) < 32)=false:=by decide
    obtain rfl:k8=32:=by omega
    have hO:=(hb.block r0 (by have:=HD5.out;omega)).trans HH0.out
    have HTH:=hid (there_block hO)
    obtain ⟨E,hE⟩:∃ E,E=dgA l.1:=⟨_,rfl⟩
    have HE:=hid hE
    have HDS:=hid (show E.size=32 by rw [hE,dgA_size,l.2])
    have HE1:=hid (show E.all (·.oneCell')=true by rw [hE];exact dgA_all _)
    rw [← hE] at hl
    have HL9:=hid hl
    have HGF:=hid (setCells_all hO E.toList (by rw [Array.length_toList,HDS.out];rfl))
    clear hlt hk hl hb hO hk8 hE
    go_upto_region 14 with (fail)
    clear h9
    refine wp_region_lit ?_
    refine wpList_load_row rfl 38 (.tmp 5) (by rfl) d5 (by rfl) 38 E (0,0) _ HL9.out Tryz.underlying38 rfl (by rw [HDS.out];exact info38) ?_
    refine wpList_store_mid rfl 38 (.tmp 4) (.tmp 50) (by rfl) r0 0 E (by rfl) (by rfl) (by rw [HDS.out];exact HTH.out) (by rw [HDS.out];exact info38) HE1.out ?_
    have HB9:=hid ((HB2.out.trans (HB.out.mono (by have:=HD5.out;omega))).grown (setCells_grown r0 E.toList 0 wo) (by have:=HB.out.size;have:=HZ2.out;have:=HD5.out;omega) (fun k hk=>by rw [← Option.some.inj hk];exact Nat.le_refl _))
    generalize wo.setCells r0 0 E.toList=w9 at *
    have hGF:w9.heap[r0]?=some (.cells E 38 (0,0)):=by have:=HGF.out;simpa using this
    have HGF9:=hid hGF
    clear HGF hGF
    go_wp2_with fail
    refine bodyPost_ret (v:=.agg E) (results_cell_row (p:=4) (ty:=38) rfl _ _ r0 38 E (0,0) _ rfl HGF9.out Tryz.underlying38 rfl (by rw [HDS.out];exact info38)) rfl ⟨l,by rw [HE.out],?_⟩
    rw [← HR0.out]
    exact HB9.out
end
end Go.Proofs.YtgkehahklccacaaGreatDoor
