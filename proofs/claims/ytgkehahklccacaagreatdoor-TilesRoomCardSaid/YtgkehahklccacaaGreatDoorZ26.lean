import Derived.Test.YtgkehahklccacaaGreatDoorZ25
import Derived.Test.YtgkehahklccacaaGreatDoorZ20
namespace Go.Proofs.YtgkehahklccacaaGreatDoor
open Go Go.RowKit
open Go.Lib (hid)
set_option maxRecDepth 100000
set_option maxHeartbeats 1000000
set_option linter.unusedVariables false
set_option linter.unusedSimpArgs false
section
open Go.Maps Go.WideMaps Go.ChangeMaps
set_option maxHeartbeats 4000000
theorem ttake_ok (w:World) (τ:Nat→Nat) (gt gd:Nat) (T:TT) (Y:TY) (h:TS w τ gt gd T Y) (j:Nat) (hj:j < 1099511627776) (a:Option Addr) (n c:Nat) (ds:List Dg) (hds:ds.length=256) (hr:R8 w a n c (tileP T.wd.toNat j ds)) (ht:HalfTab w) :
 Calls Tryz.prog 109 #[.pointer (some ⟨gt,0,none⟩),.agg #[.int .i64 ((0:Nat):Int),.int .i64 (j:Int)],.slice a n c] w fun e w'=>∃ gl,e=.returned (.tuple #[.slice (some ⟨gl,0,none⟩) 256 256,.bool true])∧w.heap.size≤gl∧DS w' (some ⟨gl,0,none⟩) 256 256 ds∧Below w.heap.size w w':=by
 obtain ⟨wn,hwn⟩:∃ wn:Nat,wn=T.wd.toNat:=⟨_,rfl⟩
 have hwb:=h.wdb
 have HWN:=hid (show T.wd=(wn:Int) by omega)
 have HWL:=hid (show wn≤32 by omega)
 rw [← hwn] at hr
 obtain ⟨w0,hw0⟩:∃ w0,w0=w.alloc (.cells #[.int .i64 ((0:Nat):Int),.int .i64 (j:Int)] 121):=⟨_,rfl⟩
 have hb0:Below w.heap.size w w0:=by rw [hw0];exact (Below.refl _ _).alloc (Nat.le_refl _) _
 have hz0:w0.heap.size=w.heap.size+1:=by rw [hw0,alloc_size']
 have HZ0:=hid hz0
 have HKX:=hid (show w0.heap[w.heap.size]?=some (.cells #[.int .i64 ((0:Nat):Int),.int .i64 (j:Int)] 121 (0,0)) by rw [hw0];exact heap_alloc_new _ _)
 have hw0':w0=w.alloc (.cells #[.int .i64 0,.int .i64 (j:Int)] 121):=hw0
 clear hw0
 have HT:=hid (And.intro h (And.intro ht (And.intro hds hj)))
 have HB0:=hid hb0
 have HTL:=hid (show (tileP wn j ds).length=8207 by rw [tileP_len,hds])
 have HR:=hid hr
 have hn:n=8207:=by rw [← hr.1,HTL.out]
 subst hn
 have hsl:=fun wx=>slice_to8 wx a 8207 c 8203 (by have:=HR.out.2.1;omega)
 rw [show ((8203:Nat):Int)=(8203:Int) from rfl] at hsl
 have c3:=HT.out.1.cells.2.2.2.1
 rw [HWN.out] at c3
 have hwj:IntKind.u64.wrap (j:Int)=(j:Int):=by simp [IntKind.wrap,IntKind.bits,IntKind.signed];omega
 have hz:2 < w.heap.size:=by have:=HT.out.1.sz;omega
 have hgt:=HT.out.1.dom gt (by rw [HT.out.1.lg];decide)
 have HZ:=hid (And.intro hz hgt)
 have HC3:=hid c3
 have v0:valN (((tileP wn j ds).drop 0).take 1)=210:=by rw [tile_kind];exact valN_be 1 210 (by decide)
 have v1:valN (((tileP wn j ds).drop 1).take 1)=wn:=by rw [tile_wd];exact valN_be 1 wn (by have:=HWL.out;omega)
 have v2:valN (((tileP wn j ds).drop 2).take 1)=0:=by rw [tile_lvl];exact valN_be 1 0 (by decide)
 have v3:valN (((tileP wn j ds).drop 3).take 8)=j:=by rw [tile_idx];exact valN_be 8 j (by omega)
 have v4:valN (((tileP wn j ds).drop 8203).take 4)=(crc (tileH wn j ds)).toNat:=by rw [tile_crc _ _ _ hds];exact valN_be 4 _ (crc_lt _)
 have HV:=hid (And.intro v0 (And.intro v1 (And.intro v2 (And.intro v3 v4))))
 have hap:∀ b off,a=some ⟨b,off,none⟩→b < w.heap.size:=fun b off e=>hr.lt b off e (by decide)
 have HAP:=hid hap
 clear h ht hds hr hb0 hwn hwb hj v0 v1 v2 v3 v4 hz hgt c3 hap
 go_enter Tryz.func109,Tryz.ntmps109
 go_wp2_with (first
  | (go_at_call 172;rw [← hw0'];refine (read_new w0 a 8207 c (tileP wn j ds) (HR.out.below HB0.out) (by decide)).mono ?_;rintro e w1 ⟨gr,rfl,hgr,hr1,hb1⟩;have HR1:=hid hr1;have HB1:=hid hb1;have HGR:=hid hgr;clear hgr hr1 hb1)
  | (go_at_call 173;refine (take_u8 w1 gr _ 0 HR1.out (by rw [HTL.out];decide)).mono ?_;rintro e w2 ⟨rfl,hr,hg⟩;rw [HV.out.1];have HR2:=hid hr;have HB2:=hid (HB1.out.grown hg HB1.out.size (by intro q hq;cases hq;exact HGR.out));clear hr hg)
  | (go_at_call 173;refine (take_u8 w2 gr _ 1 HR2.out (by rw [HTL.out];decide)).mono ?_;rintro e w3 ⟨rfl,hr,hg⟩;rw [HV.out.2.1];have HR3:=hid hr;have HB3:=hid (HB2.out.grown hg HB2.out.size (by intro q hq;cases hq;exact HGR.out));clear hr hg)
  | (go_at_call 173;refine (take_u8 w3 gr _ 2 HR3.out (by rw [HTL.out];decide)).mono ?_;rintro e w4 ⟨rfl,hr,hg⟩;rw [HV.out.2.2.1];have HR4:=hid hr;have HB4:=hid (HB3.out.grown hg HB3.out.size (by intro q hq;cases hq;exact HGR.out));clear hr hg)
  | (go_at_call 174;refine (take_u64 w4 gr _ 3 HR4.out (by rw [HTL.out];decide)).mono ?_;rintro e w5 ⟨rfl,hr,hg⟩;rw [HV.out.2.2.2.1];have HR5:=hid hr;have HB5:=hid (HB4.out.grown hg HB4.out.size (by intro q hq;cases hq;exact HGR.out));clear hr hg)
  | (go_at_call 175;obtain ⟨a5,n5,c5,hx5⟩:=HR5.out;refine (digests_any w5 gr a5 n5 c5 _ 11 hx5 (by rw [HTL.out];decide)).mono ?_;rintro e w6 ⟨gl,rfl,hgl,hd,hx6,hg⟩;rw [tile_ds _ _ _ HT.out.2.2.1] at hd;have HR6:=hid hx6.rd;have HGL:=hid (show gl ≠ gr∧w0.heap.size≤gl by { have:=HR5.out.lt;have:=HB5.out.size;omega });have HD6:=hid hd;have HGS:=hid (show gl < w6.heap.size by { obtain ⟨b,off,e,hlt,-⟩:=hd.at (i:=0) (List.getElem?_eq_getElem (by rw [HT.out.2.2.1];decide));cases e;exact hlt });have HB6:=hid (HB5.out.grown hg HB5.out.size (by intro q hq;cases hq;exact HGR.out));clear hgl hd hx6 hg hx5)
  | (go_at_call 176;refine (take_u32 w6 gr _ 8203 HR6.out (by rw [HTL.out];decide)).mono ?_;rintro e w7 ⟨rfl,hr,hg⟩;rw [HV.out.2.2.2.2];have HR7:=hid hr;have HD7:=hid (HD6.out.same (hg.block gl HGS.out (fun e=>HGL.out.1 (by injection e))));have HB7:=hid (HB6.out.grown hg HB6.out.size (by intro q hq;cases hq;exact HGR.out));have hbb:=HB0.out.trans (HB7.out.mono (by have:=HB0.out.size;omega));have HBB:=hid hbb;have d3:=(hbb.cell (p:=⟨gt,3,none⟩) HZ.out.2).trans HC3.out;have k0:=cell_of_row w7 w.heap.size 0 _ _ _ ((HB7.out.block w.heap.size (by have:=HZ0.out;omega)).trans HKX.out);have k1:=cell_of_row w7 w.heap.size 1 _ _ _ ((HB7.out.block w.heap.size (by have:=HZ0.out;omega)).trans HKX.out);simp only [List.getElem?_toArray,List.getElem?_cons_zero,List.getElem?_cons_succ] at k0 k1;have hwn:wrap64 (wn:Int)=(wn:Int):=wrap64_small (by omega) (by have:=HWL.out;omega);have HRC:=hid (tile_head wn j ds HT.out.2.2.1 ▸ (HR.out.below hbb).take 8203 (by decide));have HHT:=hid (HT.out.2.1.below hbb HZ.out.1);clear hbb hr hg)
  | (go_at_call 162;refine (crc_any _ _ _ _ _ HRC.out HHT.out).mono ?_;rintro e wx ⟨rfl,hw⟩;subst hw)
  | (go_at_call 177;obtain ⟨a7,n7,c7,hx7⟩:=HR7.out;refine (done_any w7 gr a7 n7 c7 _ (by rw [HTL.out];exact hx7)).mono ?_;rintro e w8 ⟨rfl,kk,hw8⟩;subst hw8))
 exact bodyPost_ret (v:=.tuple #[.slice (some ⟨gl,0,none⟩) 256 256,.bool true]) (by simp [results,Tryz.results109,go_sem]) rfl ⟨gl,rfl,by have:=HGL.out.2;have:=HZ0.out;omega,HD7.out.same rfl,below_drewN HBB.out _⟩
end
section
open Go.Maps Go.WideMaps Go.ChangeMaps
def MAtN (w:World) (b n:Nat) (M:Nat→Nat→Sc):Prop:=∃ D:DataW Unit,w.ownsMap Tryz.prog 121 sliceR b n D∧size D=n∧∀ l j,l < 1099511627776→j < 1099511627776→D.atKey (kl2 l j) .nil=scD (M l j)∧has D (kl2 l j)=(M l j).isSome
section
variable {w w' : World} {b n : Nat} {M : Nat → Nat → Sc}
theorem MAtN.at (h:MAtN w b n M):MAt w b n M:=by
 obtain ⟨D,h1,-,h2⟩:=h
 exact ⟨D,h1,h2⟩
theorem MAtN.keep (h:MAtN w b n M) (hk:w'.heap[b]?=w.heap[b]?):MAtN w' b n M:=by
 obtain ⟨D,⟨es,ck,hb,hr⟩,h3⟩:=h
 exact ⟨D,⟨es,ck,hk.trans hb,hr⟩,h3⟩
theorem MAtN.made (w:World):MAtN (w.alloc (.map #[] 0)) w.heap.size 0 (fun _ _=>none) :=
 ⟨_,World.ownsMap_made w Tryz.prog 121 sliceR,rfl,fun l j _ _=>⟨rfl,rfl⟩⟩
theorem MAtN.update (h:MAtN w b n M) (hn:n < maxLen) {l j:Nat} (hl:l < 1099511627776) (hj:j < 1099511627776) (p:Nat × Nat × Nat) (h0:M l j=none):∃ w',(Instr.mapUpdate 95 (.map (some b)) (keyV l j) (encS (some p))).run Tryz.prog w=.ok () w'∧MAtN w' b (n+1) (put2 M l j (some p))∧w.grownBy w' (some b):=by
 obtain ⟨D,h1,hz,h2⟩:=h
 obtain ⟨w',hrun,h3,h4⟩:=h1.update law121 Tryz.underlying95 hn (key121 hl hj) (sliceR_enc (some p))
 refine ⟨w',hrun,⟨_,h3,?_,putD (h1.tidy law121) h2 hl hj p⟩,h4⟩
 have hs:=size_put (k:=kl2 l j) (h1.tidy law121) (scD (some p))
 rw [hs,(h2 l j hl hj).2,h0,hz]
 rfl
theorem MAtN.len (h:MAtN w b n M) (ty:TypeId):(Builtin.len_ #[95] ty #[.map (some b)]).run Tryz.prog w=.ok (.int .i64 n) w:=by
 obtain ⟨D,h1,hz,-⟩:=h
 have:=h1.len Tryz.underlying95 ty
 rwa [hz] at this
end
structure Found (w:World) (B fb k:Nat) (dss:Nat→List Dg) (M:Nat→Nat→Sc):Prop where
 map:MAtN w fb k M
 lo:B≤fb
 at_:∀ j,j < k→∃ gl,M 0 j=some (gl,256,256)∧B≤gl∧gl ≠ fb∧gl < w.heap.size∧DS w (some ⟨gl,0,none⟩) 256 256 (dss j)
 no:∀ l j,¬ (l=0∧j < k)→M l j=none
theorem Found.keep {w w':World} {B fb k:Nat} {dss:Nat→List Dg} {M:Nat→Nat→Sc} (h:Found w B fb k dss M) (hs:w.heap.size≤w'.heap.size) (hk:∀ b,b < w.heap.size→(b=fb∨∃ j,j < k∧∃ n c,M 0 j=some (b,n,c))→w'.heap[b]?=w.heap[b]?):Found w' B fb k dss M:=by
 refine ⟨h.map.keep (hk fb h.map.at.lt (.inl rfl)),h.lo,fun j hj=>?_,h.no⟩
 obtain ⟨gl,h1,h2,h3,h4,h5⟩:=h.at_ j hj
 exact ⟨gl,h1,h2,h3,Nat.lt_of_lt_of_le h4 hs,h5.same (hk gl h4 (.inr ⟨j,hj,_,_,h1⟩))⟩
theorem Found.below {w w':World} {B fb k:Nat} {dss:Nat→List Dg} {M:Nat→Nat→Sc} (h:Found w B fb k dss M) (hb:Below w.heap.size w w'):Found w' B fb k dss M:=h.keep hb.size (fun b hb' _=>hb.block b hb')
def tilesQ (wd:Nat) (dss:Nat→List Dg) (k:Nat):List UInt8:=((List.range k).map fun j=>tileP wd j (dss j)).flatten
theorem tilesQ_succ (wd:Nat) (dss:Nat→List Dg) (k:Nat):tilesQ wd dss (k+1)=tilesQ wd dss k++tileP wd k (dss k):=by
 unfold tilesQ
 rw [List.range_succ,List.map_append,List.flatten_append];simp
theorem tilesQ_len (wd:Nat) (dss:Nat→List Dg):∀ k,(∀ j,j < k→(dss j).length=256)→(tilesQ wd dss k).length=8207 * k
 | 0,_=>rfl
 | k+1,h=>by
   rw [tilesQ_succ,List.length_append,tilesQ_len wd dss k (fun j hj=>h j (by omega)),tileP_len,h k (by omega)];omega
theorem tilesQ_split (wd:Nat) (dss:Nat→List Dg) {k m:Nat} (h:k < m):∃ r,tilesQ wd dss m=tilesQ wd dss k++tileP wd k (dss k)++r:=by
 induction m with
 | zero=>omega
 | succ m ih =>
   rw [tilesQ_succ]
   by_cases e:k=m
   · subst e;exact ⟨[],by simp⟩
   · obtain ⟨r,hr⟩:=ih (by omega)
     exact ⟨r++tileP wd m (dss m),by rw [hr];simp [List.append_assoc]⟩
theorem tilesQ_at (wd:Nat) (dss:Nat→List Dg) (rest:List UInt8) {k m:Nat} (h:k < m) (hl:∀ j,j < m→(dss j).length=256):((tilesQ wd dss m++rest).drop (8207 * k)).take 8207=tileP wd k (dss k):=by
 obtain ⟨r,hr⟩:=tilesQ_split wd dss h
 rw [hr,List.append_assoc,List.append_assoc,List.drop_left' (tilesQ_len wd dss k (fun j hj=>hl j (by omega))),List.take_left' (by rw [tileP_len,hl k h])]
theorem dropA_low {a:Option Addr} {n k c B:Nat} (h:∀ x,a=some x→0 < n→x.block < B) (hn:0 < n):∀ x,dropA a k c=some x→x.block < B:=by
 intro x e
 unfold dropA at e
 split at e
 · exact h x e hn
 · cases a with
   | none=>cases e
   | some y =>
     have e:=Option.some.inj e
     rw [← e]
     have:(y.add k).block=y.block:=by unfold Addr.add;split <;> rfl
     rw [this]
     exact h y rfl hn
set_option maxHeartbeats 8000000
theorem tread_any (w:World) (τ:Nat→Nat) (gt gd:Nat) (T:TT) (Y:TY) (h:TS w τ gt gd T Y) (ht:HalfTab w) (a:Option Addr) (n c:Nat) (dss:Nat→List Dg) (rest:List UInt8) (m size:Nat) (hr:R8 w a n c (tilesQ T.wd.toNat dss m++rest))
 (hl:∀ j,j < m→(dss j).length=256) (hm:m≤size / 256) (hs:size < 65536)
 (hno:m < size / 256→8207≤rest.length→∀ (wx:World) (ax:Option Addr) (cx:Nat),Below w.heap.size w wx→R8 wx ax 8207 cx (rest.take 8207)→Calls Tryz.prog 109 #[.pointer (some ⟨gt,0,none⟩),.agg #[.int .i64 ((0:Nat):Int),.int .i64 (m:Int)],.slice ax 8207 cx] wx fun e w'=>(∃ v,e=.returned (.tuple #[v,.bool false]))∧Below wx.heap.size wx w') :
 Calls Tryz.prog 57 #[.pointer (some ⟨gt,0,none⟩),.slice a n c,.int .i64 (size:Int)] w fun e w'=>∃ fb M,e=.returned (.map (some fb))∧Found w' w.heap.size fb m dss M∧Below w.heap.size w w':=by
 obtain ⟨F,hF⟩:∃ F,F=size / 256:=⟨_,rfl⟩
 rw [← hF] at hm hno
 have hF2:F≤255:=by omega
 have hq:(size:Int) / 256=(F:Int):=by omega
 have HH:=hid (And.intro h (And.intro ht (And.intro hl hs)))
 have HM:=hid (And.intro hm hF2)
 have HNO:=hid hno
 obtain ⟨B,hB⟩:∃ B,B=tilesQ T.wd.toNat dss m++rest:=⟨_,rfl⟩
 rw [← hB] at hr
 have hBn:n=B.length:=hr.1.symm
 have hnB:n=8207 * m+rest.length:=by rw [hBn,hB,List.length_append,tilesQ_len _ _ _ hl]
 have HB:=hid hB
 have HNB:=hid hnB
 have HR:=hid hr
 have HSZ:=hid h.sz
 clear h ht hl hs hm hF2 hno hr hBn hnB hB hF
 have hmm:=@run_makeMap Tryz.prog
 go_enter Tryz.func57,Tryz.ntmps57
 go_wp2_with fail
 clear hmm
 have hmd:=MAtN.made w
 obtain ⟨w1,hw1⟩:∃ w1,w1=w.alloc (.map #[] 0):=⟨_,rfl⟩
 obtain ⟨fb,hfb⟩:∃ fb,fb=w.heap.size:=⟨_,rfl⟩
 have hb1:Below w.heap.size w w1:=by rw [hw1];exact (Below.refl _ _).alloc (Nat.le_refl _) _
 have hz1:w1.heap.size=fb+1:=by rw [hw1,World.size_alloc,hfb]
 rw [← hw1,← hfb] at hmd ⊢
 have HMD:=hid (show Found w1 w.heap.size fb 0 dss (fun _ _=>none) from ⟨hmd,by omega,fun j hj=>by omega,fun _ _ _=>rfl⟩)
 have HB1:=hid hb1
 have HFB:=hid hfb
 clear hmd hw1 hb1 hz1 hfb
 go_loopw [1,8] (fun s v wr=>∃ k:Nat,k≤m∧v=.int .i64 ((k+1:Nat):Int)∧(∃ a' c',s=.slice a' (n - 8207 * k) c'∧R8 wr a' (n - 8207 * k) c' (B.drop (8207 * k))∧∀ x,a'=some x→0 < n - 8207 * k→x.block < w.heap.size)∧(∃ M,Found wr w.heap.size fb k dss M)∧Below w.heap.size w wr) (fun _ v _=>F+1 - (intOf v).toNat)
 case atStart=>exact ⟨0,by omega,rfl,⟨a,c,by simp,by have:=HR.out.below HB1.out;simpa using this,fun x e h0=>by { obtain ⟨b,off,e2,-⟩:=HR.out.2.2.2 0 (by have:=HR.out.1;omega);rw [e2] at e;cases e;exact HR.out.lt b off e2 (by omega) }⟩,⟨_,HMD.out⟩,HB1.out⟩
 case round =>
  obtain ⟨k,hk,rfl,⟨a1,c1,rfl,hr,hal⟩,⟨M,hM⟩,hb⟩:=hrel
  have HR1:=hid hr;have HAL:=hid hal;have HBW:=hid hb;have HMM:=hid hM;have HK:=hid hk
  obtain ⟨x,hx⟩:∃ x,x=k+1:=⟨_,rfl⟩
  rw [← hx]
  have HX:=hid hx
  clear hr hb hM hk hx hal
  by_cases hF:k < F
  · have h9:decide (x≤F)=true:=by have:=HX.out;simp;omega
    have hF2:=HM.out.2
    have hx255:x≤255:=by have:=HX.out;omega
    have hxk:(x:Int) - 1=(k:Int):=by have:=HX.out;omega
    have hF:=hid hF
    by_cases hlen:n - 8207 * k < 8207
    · have h8:decide (((n - 8207 * k:Nat):Int) < 8207)=true:=by simp;omega
      have hkm:k=m:=by
       have h1:=HK.out;have h2:=HNB.out;have h3:=HM.out.1
       rcases Nat.lt_or_ge k m with h | h
       · have:8207 * (k+1)≤8207 * m:=Nat.mul_le_mul_left _ h
         omega
       · omega
      generalize n - 8207 * k=n1 at *
      clear hlen
      go_upto_region 5 with (fail)
      clear h9
      go_wp2_with fail
      refine wp_loop_rounds 1 ?_
      rw [rounds_succ]
      go_wp2_with fail
      go_ret
      subst hkm
      have hb2:Below wr.heap.size wr (wr.alloc (.cells #[.int .i64 0,.int .i64 (k:Int)] 121)):=(Below.refl _ _).alloc (Nat.le_refl _) _
      exact ⟨fb,M,rfl,HMM.out.below hb2,HBW.out.trans (hb2.mono HBW.out.size)⟩
    · have h8:decide (((n - 8207 * k:Nat):Int) < 8207)=false:=by simp;omega
      obtain ⟨n1,hn1⟩:∃ n1,n1=n - 8207 * k:=⟨_,rfl⟩
      rw [← hn1] at HR1 HAL h8 ⊢
      have hn1g:8207≤n1:=by omega
      have hsl:=fun wx=>slice_to8 wx a1 n1 c1 8207 (by have:=HR1.out.2.1;omega)
      rw [show ((8207:Nat):Int)=(8207:Int) from rfl] at hsl
      have HN1:=hid hn1
      have HN1G:=hid hn1g
      obtain ⟨w2,hw2⟩:∃ w2,w2=wr.alloc (.cells #[.int .i64 0,.int .i64 (k:Int)] 121):=⟨_,rfl⟩
      have hb2:Below wr.heap.size wr w2:=by rw [hw2];exact (Below.refl _ _).alloc (Nat.le_refl _) _
      have hk2:w2.heap[wr.heap.size]?=some (.cells #[.int .i64 0,.int .i64 (k:Int)] 121 (0,0)):=by rw [hw2];exact heap_alloc_new _ _
      have HB2:=hid hb2
      have HK2:=hid hk2
      have hw2':=hw2.symm
      clear hw2 hlen hn1 hn1g hb2 hk2
      go_upto_region 5 with (fail)
      clear h9
      go_wp2_with fail
      refine wp_loop_rounds 1 ?_
      rw [rounds_succ]
      go_wp2_with fail
      have k0:=cell_of_row w2 wr.heap.size 0 _ _ _ HK2.out
      have k1:=cell_of_row w2 wr.heap.size 1 _ _ _ HK2.out
      simp only [List.getElem?_toArray,List.getElem?_cons_zero,List.getElem?_cons_succ] at k0 k1
      have HB2W:=hid (HBW.out.trans (HB2.out.mono HBW.out.size))
      have hr2:=(HR1.out.below HB2.out).take 8207 HN1G.out
      by_cases hkm:k < m
      · rw [HB.out,tilesQ_at _ _ _ hkm HH.out.2.2.1] at hr2
        have HB2D:=hid (show Below w.heap.size w w2.drew from ⟨HB2W.out.os,HB2W.out.tape,HB2W.out.output,HB2W.out.size,HB2W.out.block⟩)
        have HTK:=hid (show Calls Tryz.prog 109 #[.pointer (some ⟨gt,0,none⟩),.agg #[.int .i64 0,.int .i64 (k:Int)],.slice a1 8207 c1] w2.drew _ from ttake_ok w2.drew τ gt gd T Y (HH.out.1.below HB2D.out) k (by have:=HM.out;omega) a1 8207 c1 (dss k) (HH.out.2.2.1 k hkm) (show R8 w2.drew _ _ _ _ from hr2) (HH.out.2.1.below HB2D.out (by have:=HSZ.out;omega)))
        have HKM:=hid hkm
        have hkb:=(Array.getElem?_eq_some_iff.1 HK2.out).1
        clear hr2 hkm
        go_region_held3 (fun x=>x.cell? ⟨wr.heap.size,0,none⟩=some (.int .i64 0)∧x.cell? ⟨wr.heap.size,1,none⟩=some (.int .i64 (k:Int)))
         (first | exact ⟨k0,k1⟩ | exact ⟨(World.cell?_of_block (hb3.block wr.heap.size hkb)).trans k0,(World.cell?_of_block (hb3.block wr.heap.size hkb)).trans k1⟩)
         (first | (go_at_call 109;refine (HTK.out).mono ?_;rintro e w3 ⟨gl,rfl,hgl,hds,hb3⟩))
        have HM3:=hid ((HMM.out.below HB2.out).below (show Below w2.heap.size w2 w3 from ⟨hb3.os,hb3.tape,hb3.output,hb3.size,hb3.block⟩))
        have HB3:=hid (HB2D.out.trans (hb3.mono HB2D.out.size))
        have HDS:=hid hds
        have HGL:=hid (show w.heap.size≤gl∧w2.heap.size≤gl from ⟨Nat.le_trans HB2W.out.size hgl,hgl⟩)
        have HFBL:=hid (show fb < w2.heap.size from (HMM.out.below HB2.out).map.at.lt)
        obtain ⟨w4,hup,hm4,hg4⟩:=HM3.out.map.update (l:=0) (j:=k) (by unfold maxLen;have:=HKM.out;have:=HM.out;omega) (by decide) (by have:=HKM.out;have:=HM.out;omega) (gl,256,256) (HM3.out.no 0 k (by omega))
        have hup:(Instr.mapUpdate 95 (.map (some fb)) (.agg #[.int .i64 0,.int .i64 (k:Int)]) (.slice (some ⟨gl,0,none⟩) 256 256)).run Tryz.prog w3=.ok () w4:=hup
        have hfr:∀ wx,(Instr.slice 53 (.slice a1 n1 c1) (some (.int .i64 8207)) none none).run Tryz.prog wx=.ok (.slice (dropA a1 8207 c1) (n1 - 8207) (c1 - 8207)) wx:=fun wx=>slice_from (P:=Tryz.prog) sl22 wx a1 n1 c1 8207 8207 rfl HN1G.out
        have l0:=(World.cell?_of_block (hb3.block wr.heap.size hkb)).trans k0
        have l1:=(World.cell?_of_block (hb3.block wr.heap.size hkb)).trans k1
        have hglt:gl < w3.heap.size:=by
         obtain ⟨b,off,e,hlt,-⟩:=hds.at (i:=0) (List.getElem?_eq_getElem (by rw [HH.out.2.2.1 k HKM.out];decide))
         cases e;exact hlt
        have hF4:Found w4 w.heap.size fb (k+1) dss (put2 M 0 k (some (gl,256,256))):=by
         refine ⟨hm4,HM3.out.lo,fun j hj=>?_,fun l j hlj=>?_⟩
         · by_cases e:j=k
           · subst e
             exact ⟨gl,put2_same _ _ _ _,HGL.out.1,by have:=HGL.out.2;have:=HFBL.out;omega,Nat.lt_of_lt_of_le hglt hg4.size,hds.same (hg4.block gl hglt (fun e=>by have:=Option.some.inj e;have:=HGL.out.2;have:=HFBL.out;omega))⟩
           · obtain ⟨g',q1,q2,q3,q4,q5⟩:=HM3.out.at_ j (by omega)
             exact ⟨g',(put2_other _ (by rintro ⟨-,h⟩;exact e h)).trans q1,q2,q3,Nat.lt_of_lt_of_le q4 hg4.size,q5.same (hg4.block g' q4 (fun e=>q3 (Option.some.inj e)))⟩
         · rw [put2_other _ (by rintro ⟨rfl,rfl⟩;exact hlj ⟨rfl,by omega⟩)]
           exact HM3.out.no l j (by omega)
        have HF4:=hid hF4
        have HB4:=hid (HB3.out.grown hg4 HB3.out.size (fun q hq=>by rw [← Option.some.inj hq];exact HM3.out.lo))
        have hrd:R8 w4 (dropA a1 8207 c1) (n1 - 8207) (c1 - 8207) (B.drop (8207 * (k+1))):=by
         have h1:=(HR1.out.dropA 8207 HN1G.out)
         rw [List.drop_drop] at h1
         have h2:=h1.same (w':=w4) (fun b off e h0=>by
          have h9:b < w.heap.size:=dropA_low HAL.out (by have:=HN1G.out;omega) _ e
          exact (HB4.out.block b h9).trans (HBW.out.block b h9).symm)
         rwa [show 8207 * k+8207=8207 * (k+1) by omega] at h2
        have HRD:=hid hrd
        clear hgl hds hb3 hm4 hg4 hglt hF4 hrd k0 k1
        go_wp2_with fail
        have hk:=HKM.out
        have hx:=HX.out
        have hnk:n - 8207 * (k+1)=n1 - 8207:=by have:=HN1.out;omega
        refine ⟨⟨k+1,hk,by rw [hx];go_num,⟨dropA a1 8207 c1,c1 - 8207,by rw [hnk],by rw [hnk];exact HRD.out,fun x e h0=>dropA_low HAL.out (by have:=HN1G.out;omega) x e⟩,⟨_,HF4.out⟩,HB4.out⟩,by have:=hF.out;rw [hx];simp [intOf];omega⟩
      · have hkm:k=m:=by have:=HK.out;omega
        have hBd:B.drop (8207 * k)=rest:=by rw [HB.out,hkm];exact List.drop_left' (tilesQ_len _ _ _ HH.out.2.2.1)
        rw [hBd] at hr2
        have hrl:8207≤rest.length:=by have h1:=HN1.out;have h2:=HNB.out;have h3:=HN1G.out;rw [hkm] at h1;omega
        have HB2D:=hid (show Below w.heap.size w w2.drew from ⟨HB2W.out.os,HB2W.out.tape,HB2W.out.output,HB2W.out.size,HB2W.out.block⟩)
        have HTK:=hid (show Calls Tryz.prog 109 #[.pointer (some ⟨gt,0,none⟩),.agg #[.int .i64 0,.int .i64 (k:Int)],.slice a1 8207 c1] w2.drew _ from hkm ▸ HNO.out (by rw [← hkm];exact hF.out) hrl w2.drew a1 c1 HB2D.out (show R8 w2.drew _ _ _ _ from hr2))
        have HKM:=hid hkm
        have hkb:=(Array.getElem?_eq_some_iff.1 HK2.out).1
        clear hr2 hkm hrl hBd
        go_region_held3 (fun x=>x.cell? ⟨wr.heap.size,0,none⟩=some (.int .i64 0)∧x.cell? ⟨wr.heap.size,1,none⟩=some (.int .i64 (k:Int)))
         (first | exact ⟨k0,k1⟩ | exact ⟨(World.cell?_of_block (hb3.block wr.heap.size hkb)).trans k0,(World.cell?_of_block (hb3.block wr.heap.size hkb)).trans k1⟩)
         (first | (go_at_call 109;refine (HTK.out).mono ?_;rintro e w3 ⟨⟨v,rfl⟩,hb3⟩))
        have HM3:=hid ((HMM.out.below HB2.out).below (show Below w2.heap.size w2 w3 from ⟨hb3.os,hb3.tape,hb3.output,hb3.size,hb3.block⟩))
        have HB3:=hid (HB2D.out.trans (hb3.mono HB2D.out.size))
        clear hb3 k0 k1
        go_wp2_with fail
        go_ret
        rw [HKM.out] at HM3
        exact ⟨fb,M,rfl,HM3.out,HB3.out⟩
  · have h9:decide (x≤F)=false:=by have:=HX.out;simp;omega
    have hF2:=HM.out.2
    have hkm:k=m:=by have:=HK.out;have:=HM.out.1;omega
    go_wp2_with fail
    go_ret
    subst hkm
    exact ⟨fb,M,rfl,HMM.out,HBW.out⟩
end
section
open Go.Maps Go.WideMaps Go.ChangeMaps
def looseB (d:Dm):Bool:=decide (0 < d.changes.length) || d.loose.2.any fun n=>decide (0 < n)
def OpRet (w:World) (L:Lay) (gd:Nat) (d:Dm) (T:TT) (e:Ending) (w':World):Prop :=
 ∃ (gt:Nat) (τ:Nat→Nat) (Y:TY),e=.returned (.tuple #[.pointer (some ⟨gt,0,none⟩),.nilIface])∧BT w' L τ gt gd (d.claim tlN) T Y∧Upd L.ρ L.ρ w w'∧∀ k,τ k ≠ 0→w.heap.size≤k
theorem UB.upd {L L':Lay} {τ τ':Nat→Nat} {w0 w w':World} (h:UB L τ L' τ' w w') (hb:Below w0.heap.size w0 w) (hτ:∀ k,τ k ≠ 0→w0.heap.size≤k):Upd L.ρ L'.ρ w0 w' :=
 ⟨h.os.trans hb.os,h.tape.trans hb.tape,h.output.trans hb.output,Nat.le_trans hb.size h.size,fun k hk h0=>(h.block k (Nat.lt_of_lt_of_le hk hb.size) h0 (by
   rcases Nat.eq_zero_or_pos (τ k) with e | e
   · exact e
   · have:=hτ k (by omega);omega)).trans (hb.block k hk),⟨h.extL.same,fun k hk h0=>h.extL.old k (Nat.lt_of_lt_of_le hk hb.size) h0⟩⟩
noncomputable def op0:Code:=Tryz.f21.body.getD .skip
set_option maxHeartbeats 8000000
theorem open_tail (w0 w:World) (L:Lay) (τ:Nat→Nat) (gt gd:Nat) (d:Dm) (T:TT) (Y:TY) (h:BT w L τ gt gd d T Y) (hb0:Below w0.heap.size w0 w) (hτ:∀ k,τ k ≠ 0→w0.heap.size≤k) (hp:Pre d) (hun:∀ i,i < d.fs.length→(d.file i).units≤9223372036854775806) (hcl:d.claims.length < 1000000) (hco:-4611686018427387904≤d.claimOf tlN∧d.claimOf tlN≤4611686018427387904)
 (fb m:Nat) (dss:Nat→List Dg) (M:Nat→Nat→Sc) (hF:Found w w0.heap.size fb m dss M) (hm:m≤1000) (u1 u2 u3 u4 u5 u6 u7 u8 u9 u10 u11 u14 u15 u16 u17 u18 u19 u20 u21 u22 u23 u24 u25 u26 u27 u28 u29 u30 u31 u32 u33 u34 u35 u36 u37 u38 u39 u40 u41 u42 u43 u44 u45 u46 u47 u48 u49 u50 u51 u52 u53 u54 u55 u56 u57 u58 u59 u60 u61 u62 u63 u64 u65 u66 u67 u68 u69 u70 u71 u72 u73 u74 u75 u76 u77 u78 u79 u80 u81 u82 u83 u84 u85 u86 u87 u88 u89 u90 u91 u92 u93 u94 u95 u96 u97 u98 u99 u100 u101 u102 u103 u104 u105 u106 u107 u108 u109 u110 u111 u112 u113 u114 u115 u116 u117 u118 u119 u120 u121 u122 u123 u124 u125 u126 u127 u128 u129 u130 u131 u132 u133 u134 u135 u136 u137 u138 u139 u140 u141 u142 u143 u144 u145 u146 u147:Value) :
 Code.wp Tryz.prog (dropSeq 8 op0) (bodyPost Tryz.prog Tryz.f21 (OpRet w0 L gd d { T with held:=m,l0:=looseB d,l1:=looseB d,cl:=d.claimOf tlN+1 })) ⟨#[.pointer (some ⟨gd,0,none⟩),u1,u2,u3,u4,u5,u6,u7,u8,u9,u10,u11,.pointer (some ⟨gt,0,none⟩),.map (some fb),u14,u15,u16,u17,u18,u19,u20,u21,u22,u23,u24,u25,u26,u27,u28,u29,u30,u31,u32,u33,u34,u35,u36,u37,u38,u39,u40,u41,u42,u43,u44,u45,u46,u47,u48,u49,u50,u51,u52,u53,u54,u55,u56,u57,u58,u59,u60,u61,u62,u63,u64,u65,u66,u67,u68,u69,u70,u71,u72,u73,u74,u75,u76,u77,u78,u79,u80,u81,u82,u83,u84,u85,u86,u87,u88,u89,u90,u91,u92,u93,u94,u95,u96,u97,u98,u99,u100,u101,u102,u103,u104,u105,u106,u107,u108,u109,u110,u111,u112,u113,u114,u115,u116,u117,u118,u119,u120,u121,u122,u123,u124,u125,u126,u127,u128,u129,u130,u131,u132,u133,u134,u135,u136,u137,u138,u139,u140,u141,u142,u143,u144,u145,u146,u147],[]⟩ w:=by
 have hln:∀ ty,(Builtin.len_ #[95] ty #[.map (some fb)]).run Tryz.prog w=.ok (.int .i64 m) w:=fun ty=>hF.map.len ty
 have e8:=h.t.cells.2.2.2.2.2.2.2.1
 have f8:=h.t.cells.2.2.2.2.2.2.2.2.2.2 8
 have HH:=hid h
 have HX:=hid (And.intro hb0 (And.intro hτ (And.intro hp (And.intro hun (And.intro hcl hco)))))
 clear h hb0 hτ hp hun hcl hco hF
 refine wp_two_k (c:=dropSeq 8 op0) ⟨_,_,rfl⟩ fun K hK=>?_
 have HK:=hid hK
 clear hK
 conv=>arg 2;whnf
 go_wp2_with fail
 refine HK.out _ _ ?_
 clear HK K
 rw [dropSeq_succ]
 obtain ⟨hb1,hg1⟩:=row_setCell (i:=8) HH.out.t.box (.int .i64 (m:Int))
 obtain ⟨ht1,hu1⟩:=HH.out.t.own1 (T':={ T with held:=m }) hg1 hb1 rfl rfl
 have HB1:=hid (HH.out.tiles ht1 hu1)
 have HU1:=hid hu1
 clear hb1 hg1 ht1 hu1 e8 f8 hln
 generalize w.setCell ⟨gt,8,none⟩ (.int .i64 (m:Int))=w1 at HB1 HU1 ⊢
 have HLO:=hid (loose_any w1 L gd d HB1.out.d HX.out.2.2.1 HX.out.2.2.2.1)
 obtain ⟨rn,hrn⟩:∃ rn,rn=d.reach.length:=⟨_,rfl⟩
 obtain ⟨cn,hcn⟩:∃ cn,cn=d.changes.length:=⟨_,rfl⟩
 have hrl:d.loose.2.length=rn:=by rw [hrn];simp [Dm.loose]
 have HRL:=hid hrl
 have HCN:=hid hcn
 rw [← hrn,← hcn] at HLO
 clear hrn hcn hrl
 refine wp_two_k (c:=dropSeq 9 op0) ⟨_,_,rfl⟩ fun K hK=>?_
 have HK:=hid hK
 clear hK
 conv=>arg 2;whnf
 go_wp2_with (go_at_call 35;refine HLO.out.mono ?_;rintro e w2 ⟨hb2,sa,sc,rfl,ho⟩;have HB2:=hid hb2;have HO:=hid ho;clear hb2 ho)
 refine HK.out _ _ ?_
 clear HK K
 rw [dropSeq_succ]
 obtain ⟨g3,hg3⟩:∃ g3,g3=w2.heap.size:=⟨_,rfl⟩
 have hx3:=heap_alloc_new w2 (.cells #[.slice sa rn sc,.int .i64 (cn:Int)] 43)
 have hb3:Below w2.heap.size w2 (w2.alloc (.cells #[.slice sa rn sc,.int .i64 (cn:Int)] 43)):=(Below.refl _ _).alloc (Nat.le_refl _) _
 have ho3:=HO.out.alloc (.cells #[.slice sa rn sc,.int .i64 (cn:Int)] 43)
 rw [← hg3] at hx3 ⊢
 generalize w2.alloc (.cells #[.slice sa rn sc,.int .i64 (cn:Int)] 43)=w3 at hx3 hb3 ho3 ⊢
 have k0:=cell_of_row w3 g3 0 _ _ _ hx3
 have k1:=cell_of_row w3 g3 1 _ _ _ hx3
 simp only [List.getElem?_toArray,List.getElem?_cons_zero,List.getElem?_cons_succ] at k0 k1
 have hb13:=HB2.out.trans (hb3.mono HB2.out.size)
 have HB3:=hid (HB1.out.below hb13)
 have HB13:=hid hb13
 have HO3:=hid ho3
 clear hg3 hx3 hb3 ho3 hb13
 refine wp_two_k (c:=dropSeq 10 op0) ⟨_,_,rfl⟩ fun K hK=>?_
 have HK:=hid hK
 clear hK
 conv=>arg 2;whnf
 go_wp2_with fail
 refine HK.out _ _ ?_
 clear HK K
 rw [dropSeq_succ]
 clear k1
 have HRI:=hid (RI.of_owns HO3.out (by rw [← HRL.out];have:=reach_len HX.out.2.2.1;simp [Dm.loose];omega))
 refine wp_two_k (c:=dropSeq 11 op0) ⟨_,_,rfl⟩ fun K hK=>?_
 have HK:=hid hK
 clear hK
 conv=>arg 2;whnf
 go_wp2_with fail
 go_loop [19,126] (fun b v=>∃ k:Nat,k≤rn∧v=.int .i64 (k:Int)∧b=.bool (decide (0 < cn) || (d.loose.2.take k).any fun n=>decide (0 < n))) (fun _ v=>rn - (intOf v).toNat)
 case atStart=>exact ⟨0,by omega,rfl,by simp⟩
 case round =>
  obtain ⟨k,hk,rfl,rfl⟩:=hrel
  by_cases hlt:k < rn
  · obtain ⟨x,hx⟩:∃ x,d.loose.2[k]?=some x:=⟨_,List.getElem?_eq_getElem (by rw [HRL.out];exact hlt)⟩
    obtain ⟨b',off',rfl,hc⟩:=HRI.out.2.2 k x hx
    unfold nV at hc
    have h9:decide ((k:Int) < (rn:Int))=true:=by simp;omega
    have HT:=hid (show ((d.loose.2.take (k+1)).any fun n=>decide (0 < n))=(((d.loose.2.take k).any fun n=>decide (0 < n)) || decide (0 < x)) by rw [List.take_add_one,hx];simp [List.any_append])
    obtain ⟨b1,hb1⟩:∃ b1,b1=(decide (0 < cn) || (d.loose.2.take k).any fun n=>decide (0 < n)):=⟨_,rfl⟩
    rw [← hb1]
    have HB1':=hid hb1
    have HLT:=hid hlt
    clear hb1 hlt hk hx
    have hkb:k≤1099511631873:=by have:=HRI.out.2.1;have:=HLT.out;omega
    by_cases hx0:0 < x
    · have h8:decide (0 < x)=true:=by simp;omega
      have HX0:=hid hx0
      clear hx0
      cases b1
      all_goals
       go_wp2_with fail
       go_round
       case rel=>exact ⟨k+1,HLT.out,by go_num,by rw [HT.out,← Bool.or_assoc,← HB1'.out];simp [HX0.out]⟩
       case measure=>have:=HLT.out;simp [intOf];omega
    · have h8:decide (0 < x)=false:=by simp;omega
      obtain rfl:x=0:=by omega
      clear hx0
      cases b1
      all_goals
       go_wp2_with fail
       go_round
       case rel=>exact ⟨k+1,HLT.out,by go_num,by rw [HT.out,← Bool.or_assoc,← HB1'.out];simp⟩
       case measure=>have:=HLT.out;simp [intOf];omega
  · obtain rfl:k=rn:=by omega
    have h9:decide ((k:Int) < (k:Int))=false:=by simp
    have hlo:(decide (0 < cn) || (d.loose.2.take k).any fun n=>decide (0 < n))=looseB d:=by
     rw [List.take_of_length_le (by rw [HRL.out];exact Nat.le_refl _),HCN.out];rfl
    rw [hlo]
    obtain ⟨lo,hlo2⟩:∃ lo,lo=looseB d:=⟨_,rfl⟩
    rw [← hlo2]
    have HLB:=hid hlo2
    clear hlo hlo2 hlt hk
    go_wp2_with fail
    refine HK.out _ _ ?_
    rw [dropSeq_succ]
    clear HK HRI HO HO3 HLO k0
    have e9:=HB3.out.t.cells.2.2.2.2.2.2.2.2.1
    have e10:=HB3.out.t.cells.2.2.2.2.2.2.2.2.2.1
    have f9:=HB3.out.t.cells.2.2.2.2.2.2.2.2.2.2 9
    have f10:=HB3.out.t.cells.2.2.2.2.2.2.2.2.2.2 10
    refine wp_two_k (c:=dropSeq 12 op0) ⟨_,_,rfl⟩ fun K hK=>?_
    have HK:=hid hK
    clear hK
    conv=>arg 2;whnf
    go_wp2_with fail
    refine HK.out _ _ ?_
    clear HK K
    rw [dropSeq_succ]
    clear e9 e10 f9 f10
    obtain ⟨hb4,hg4⟩:=row_setCell (i:=9) HB3.out.t.box (.bool lo)
    obtain ⟨ht4,hu4⟩:=HB3.out.t.own1 (T':={ T with held:=m,l0:=lo }) hg4 hb4 rfl rfl
    have HB4:=hid (HB3.out.tiles ht4 hu4)
    obtain ⟨hb5,hg5⟩:=row_setCell (i:=10) HB4.out.t.box (.bool lo)
    obtain ⟨ht5,hu5⟩:=HB4.out.t.own1 (T':={ T with held:=m,l0:=lo,l1:=lo }) hg5 hb5 rfl rfl
    have HB5:=hid (HB4.out.tiles ht5 hu5)
    have HU5:=hid (((UB.of_tiles (L:=L) HU1.out).trans (UB.of_below HB13.out)).trans ((UB.of_tiles (L:=L) hu4).trans (UB.of_tiles hu5)))
    clear hb4 hg4 ht4 hu4 hb5 hg5 ht5 hu5 HB4
    generalize (w3.setCell ⟨gt,9,none⟩ (.bool lo)).setCell ⟨gt,10,none⟩ (.bool lo)=w5 at HB5 HU5 ⊢
    have HCL:=hid (claim_any w5 L gd d HB5.out.d tlN (by decide) (by have:=HX.out.2.2.2.2.1;unfold maxLen;omega) HX.out.2.2.2.2.2)
    obtain ⟨co,hco⟩:∃ co,co=d.claimOf tlN+1:=⟨_,rfl⟩
    rw [← hco] at HCL ⊢
    clear hco
    refine wp_two_k (c:=dropSeq 13 op0) ⟨_,_,rfl⟩ fun K hK=>?_
    have HK:=hid hK
    clear hK
    conv=>arg 2;whnf
    go_wp2_with (go_at_call 58;refine HCL.out.mono ?_;rintro e w6 ⟨rfl,hd6,hu6⟩;have hB6:=HB5.out.disk hd6 hu6;have e2:=hB6.t.cells.2.2.1;have f2:=hB6.t.cells.2.2.2.2.2.2.2.2.2.2 2;have HB6:=hid hB6;have HU6:=hid (HU5.out.trans (UB.of_disk hu6));clear hd6 hu6 hB6)
    refine HK.out _ _ ?_
    clear HK K
    rw [dropSeq_succ]
    obtain ⟨hb7,hg7⟩:=row_setCell (i:=2) HB6.out.t.box (.int .i64 co)
    obtain ⟨ht7,hu7⟩:=HB6.out.t.own1 (T':={ T with held:=m,l0:=lo,l1:=lo,cl:=co }) hg7 hb7 rfl rfl
    have HB7:=hid (HB6.out.tiles ht7 hu7)
    have HU7:=hid (HU6.out.trans (UB.of_tiles hu7))
    clear e2 f2 hb7 hg7 ht7 hu7
    conv=>arg 2;whnf
    go_wp2_with fail
    go_ret2
    rw [← HLB.out]
    exact ⟨gt,τ,Y,rfl,HB7.out,HU7.out.upd HX.out.1 HX.out.2.1,HX.out.2.1⟩
end
end Go.Proofs.YtgkehahklccacaaGreatDoor
