import Derived.Test.YtcnckjlmldnblaaGreatDoorE32
import Derived.Test.YtcnckjlmldnblaaGreatDoorE43
import Derived.Test.YtcnckjlmldnblaaGreatDoorE54
import Derived.Test.YtcnckjlmldnblaaGreatDoorE55
import Derived.BigGuardPart
import Derived.OrdersHeld
import Derived.Deep.RegionHeld3
import Derived.Handy
import Derived.IntWalk
namespace Go.Proofs.YtcnckjlmldnblaaGreatDoor
open Go Go.RowKit
open List renaming setIfInBounds_toArray → rA, set_cons_zero → rB, set_cons_succ → rC, getElem_toArray → rD, getElem_cons_succ → rE, getElem_cons_zero → rF
set_option maxRecDepth 100000
set_option maxHeartbeats 16000000
set_option linter.unusedVariables false
set_option linter.unusedSimpArgs false
theorem RS.atS2 {α:Type} {s:Nat} {enc:α→List Value} {w:World} {b off n c:Nat} {xs:List α} (h:RS s enc w (some ⟨b,off,none⟩) n c xs) {i:Nat} {x:α} (hx:xs[i]?=some x):∀ j v,(enc x)[j]?=some v→w.cell? ⟨b,off+i * s+j,none⟩=some v:=by
 obtain ⟨b',o',e,hc⟩:=h.2.2.2 i x hx
 cases e
 exact hc
abbrev markN:ByteArray:={ data:=#[109,97,114,107] }
/-- Names with values whose members lie in rows of their own, with room. -/
def roomB (l:List Bc) (hs:List Nat):List Bc:=List.zipWith (fun b h=>⟨b.nm,⟨b.v.x,some ⟨h,0,none⟩,b.v.l,b.v.l+80⟩⟩) l hs
abbrev roomS (b:Bc):List ByteArray:=b.v.x.ss++List.replicate 80 markN
/-- What the law's made has laid of the values: a row of them, and a row of members each. -/
structure MdW (W:World) (B:Nat) (l:List Bc) (hs:List Nat) (v:Value):Prop where
 n:hs.length=l.length
 v:W.ownsRow B 50 5 v l.length ((roomB l hs).flatMap Bc.cs)
 r:∀ (i:Nat) (b:Bc) (h:Nat),l[i]?=some b→hs[i]?=some h→W.ownsRow B 9 1 (.slice (some ⟨h,0,none⟩) (b.v.l+80) (b.v.l+80)) (b.v.l+80) ((roomS b).flatMap Sv)
 s:∀ (i j x y:Nat),i < j→hs[i]?=some x→hs[j]?=some y→x < y
theorem MdW.below {W W':World} {B:Nat} {l:List Bc} {hs:List Nat} {v:Value} (h:MdW W B l hs v) (hb:Below W.heap.size W W'):MdW W' B l hs v :=
 ⟨h.n,own_below h.v hb,fun i b g hi hg=>own_below (h.r i b g hi hg) hb,h.s⟩
theorem MdW.lt {W:World} {B:Nat} {l:List Bc} {hs:List Nat} {v:Value} (h:MdW W B l hs v) {x:Nat} (hx:x ∈ hs):x < W.heap.size:=by
 obtain ⟨i,hi⟩:=List.getElem?_of_mem hx
 obtain ⟨b,hb⟩:∃ b,l[i]?=some b:=⟨_,List.getElem?_eq_getElem (by have:=(List.getElem?_eq_some_iff.1 hi).1;rw [h.n] at this;exact this)⟩
 exact ((h.r i b x hb hi).lt x rfl).2
theorem roomB_snoc {l:List Bc} {hs:List Nat} {b:Bc} {g:Nat} (hn:hs.length=l.length):roomB (l++[b]) (hs++[g])=roomB l hs++[⟨b.nm,⟨b.v.x,some ⟨g,0,none⟩,b.v.l,b.v.l+80⟩⟩]:=by
 unfold roomB
 rw [List.zipWith_append hn.symm]
 rfl
/-- One value more. -/
theorem MdW.add {W0 W W':World} {B:Nat} {l:List Bc} {hs:List Nat} {v v':Value} {b:Bc} {g:Nat} (h:MdW W B l hs v) (hW:W0.heap.size≤g) (hlt:∀ x ∈ hs,x < W0.heap.size) (hg:W.ownsRow B 9 1 (.slice (some ⟨g,0,none⟩) (b.v.l+80) (b.v.l+80)) (b.v.l+80) ((roomS b).flatMap Sv))
 (ho:W'.ownsRow B 50 5 v' (l.length+1) ((roomB l hs).flatMap Bc.cs++Bc.cs ⟨b.nm,⟨b.v.x,some ⟨g,0,none⟩,b.v.l,b.v.l+80⟩⟩)) (hgr:W.grownBy W' v.ownBlock):MdW W' B (l++[b]) (hs++[g]) v':=by
 refine ⟨by simp [h.n],?_,fun i c x hi hx=>?_,fun i j x y hij hx hy=>?_⟩
 · rw [roomB_snoc h.n,List.flatMap_append,List.length_append]
   simpa using ho
 · by_cases e:i < l.length
   · rw [List.getElem?_append_left e] at hi
     rw [List.getElem?_append_left (by rw [h.n];exact e)] at hx
     exact own_grown (h.r i c x hi hx) h.v (by decide) hgr
   · rw [List.getElem?_append_right (by omega)] at hi
     rw [List.getElem?_append_right (by rw [h.n];omega),h.n] at hx
     have e0:i - l.length=0:=by have:=(List.getElem?_eq_some_iff.1 hi).1;simp at this;omega
     rw [e0] at hi hx
     simp at hi hx
     subst hi hx
     exact own_grown hg h.v (by decide) hgr
 · by_cases e:j < hs.length
   · rw [List.getElem?_append_left (by omega)] at hx
     rw [List.getElem?_append_left e] at hy
     exact h.s i j x y hij hx hy
   · rw [List.getElem?_append_right (by omega)] at hy
     have e0:j - hs.length=0:=by have:=(List.getElem?_eq_some_iff.1 hy).1;simp at this;omega
     rw [e0] at hy
     simp at hy
     subst hy
     rw [List.getElem?_append_left (by omega)] at hx
     have:=hlt x (List.mem_of_getElem? hx)
     omega
abbrev boxB (b:Bc) (a:Option Addr) (l c:Nat):Obj:=.cells #[.string b.nm,.int .i64 b.v.x.k,.int .i64 b.v.x.n,.string b.v.x.t,.slice a l c] 50
/-- What the law's made answers. -/
def MadeOut (e:Ending) (w':World) (B:Nat) (p:Pd):Prop:=∃ pp:Pd,e=.returned (.tuple #[.iface 72 (.agg pp.cs),.bool true])∧PdOwn w' B pp∧pp.vw=⟨p.bs.map fun b=>(b.nm,b.v.x),p.os,p.rs,p.clock,p.steps⟩
theorem MdW.low {W W':World} {B F:Nat} {l:List Bc} {hs:List Nat} {v:Value} (h:MdW W B l hs v) (hb:Below F W W') (hv:∀ q,v.ownBlock=some q→q < F) (hh:∀ x ∈ hs,x < F):MdW W' B l hs v :=
 ⟨h.n,own_low h.v hb hv,fun i b g hi hg=>own_low (h.r i b g hi hg) hb (fun q hq=>by simp [Value.ownBlock] at hq;subst hq;exact hh _ (List.mem_of_getElem? hg)),h.s⟩
abbrev markB:Bc:=⟨markN,⟨⟨0,0,{ data:=#[] },[]⟩,none,0,0⟩⟩
abbrev zB:Bc:=⟨ByteArray.empty,⟨⟨0,0,ByteArray.empty,[]⟩,none,0,0⟩⟩
theorem roomB_len {l:List Bc} {hs:List Nat} (h:hs.length=l.length):(roomB l hs).length=l.length:=by
 unfold roomB
 rw [List.length_zipWith,h]
 omega
theorem roomB_vals {l:List Bc} {hs:List Nat} (h:hs.length=l.length):(roomB l hs).map (fun b=>(b.nm,b.v.x))=l.map fun b=>(b.nm,b.v.x):=by
 induction l generalizing hs with
 | nil=>simp [roomB]
 | cons b t ih =>
   cases hs with
   | nil=>simp at h
   | cons g hs =>
     have:=ih (hs:=hs) (by simpa using h)
     simp only [roomB,List.zipWith_cons_cons,List.map_cons] at this ⊢
     rw [this]
theorem roomB_at {l:List Bc} {hs:List Nat} {i:Nat} {b':Bc} (h:(roomB l hs)[i]?=some b'):∃ b g,l[i]?=some b∧hs[i]?=some g∧b'=⟨b.nm,⟨b.v.x,some ⟨g,0,none⟩,b.v.l,b.v.l+80⟩⟩:=by
 unfold roomB at h
 rw [List.getElem?_zipWith] at h
 cases h1:l[i]? with
 | none=>rw [h1] at h;cases h
 | some b =>
   cases h2:hs[i]? with
   | none=>rw [h1,h2] at h;cases h
   | some g=>rw [h1,h2] at h;simp at h;exact ⟨b,g,rfl,rfl,h.symm⟩
theorem Bc_one (x:Bc):∀ v ∈ Bc.cs x,v.oneCell'=true:=fun v hv=>by
 simp only [Bc.cs,List.mem_cons,List.not_mem_nil,or_false] at hv
 rcases hv with rfl | rfl | rfl | rfl | rfl <;> rfl
theorem PdOwn.grown {W W':World} {Z q:Nat} {pp:Pd} (h:PdOwn W Z pp) (hg:W.grownBy W' (some q)) (hq:q < Z):PdOwn W' Z pp:=by
 have ne:∀ {e s n:Nat} {v:Value} {xs:List Value},W.ownsRow Z e s v n xs→W'.ownsRow Z e s v n xs:=fun {e s n v xs} ho=>ho.kept hg (.inr fun he=>by have:=(ho.lt q he).1;omega)
 refine ⟨ne h.v,ne h.o,ne h.r,fun b hb=>⟨?_,(h.b b hb).2⟩,h.n⟩
 obtain ⟨a,l,c,e,hl,hh⟩:=(h.b b hb).1
 exact ⟨a,l,c,e,hl,hh.elim .inl fun ho=>.inr (ne ho)⟩
theorem PdOwn.mono {W:World} {Z Y:Nat} {pp:Pd} (h:PdOwn W Z pp) (hy:Y≤Z):PdOwn W Y pp :=
 ⟨owns_mono h.v hy,owns_mono h.o hy,owns_mono h.r hy,fun b hb=>⟨(h.b b hb).1.mono hy,(h.b b hb).2⟩,h.n⟩
/-- What stands while the law's made writes over what it laid. -/
structure Dr (w2 W:World) (B:Nat) (p pp:Pd) (hs:List Nat) (va:Option Addr) (vc o1 r1 Z m:Nat):Prop where
 r:∀ (i:Nat) (b:Bc) (h:Nat),m≤i→p.bs[i]?=some b→hs[i]?=some h→W.ownsRow B 9 1 (.slice (some ⟨h,0,none⟩) (b.v.l+80) (b.v.l+80)) (b.v.l+80) ((roomS b).flatMap Sv)
 o:∃ xs,W.ownsRow B 9 1 (.slice (some ⟨o1,0,none⟩) (p.ol+80) (p.ol+80)) (p.ol+80) xs
 q:∃ xs,W.ownsRow B 9 1 (.slice (some ⟨r1,0,none⟩) (p.rl+80) (p.rl+80)) (p.rl+80) xs
 d:PdOwn W Z pp
 v:W.ownsRow B 50 5 (.slice va p.vl vc) p.vl ((roomB p.bs hs).flatMap Bc.cs)
 b:Below B w2 W
section
variable {w2 W W' : World} {B : Nat} {p pp : Pd} {hs : List Nat} {va : Option Addr} {vc o1 r1 Z m : Nat}
theorem Dr.below (h:Dr w2 W B p pp hs va vc o1 r1 Z m) (hB:B≤w2.heap.size) (hb:Below W.heap.size W W'):Dr w2 W' B p pp hs va vc o1 r1 Z m:=by
 obtain ⟨xs,ho⟩:=h.o
 obtain ⟨ys,hq⟩:=h.q
 exact ⟨fun i b g hi h1 h2=>own_below (h.r i b g hi h1 h2) hb,⟨xs,own_below ho hb⟩,⟨ys,own_below hq hb⟩,h.d.below hb,own_below h.v hb,h.b.trans (hb.mono (by have:=h.b.size;omega))⟩
theorem Dr.mono (h:Dr w2 W B p pp hs va vc o1 r1 Z m) {m':Nat} (hm:m≤m'):Dr w2 W B p pp hs va vc o1 r1 Z m' :=
 ⟨fun i b g hi h1 h2=>h.r i b g (by omega) h1 h2,h.o,h.q,h.d,h.v,h.b⟩
theorem Dr.grown (h:Dr w2 W B p pp hs va vc o1 r1 Z m) {g:Nat} (hg:W.grownBy W' (some g)) (hB:B≤w2.heap.size) (hBg:B≤g) (hr:∀ (i x:Nat),m≤i→hs[i]?=some x→x ≠ g) (ho1:o1 ≠ g) (hr1:r1 ≠ g) (hz:g < Z) (hv:(Value.slice va p.vl vc).ownBlock ≠ some g):Dr w2 W' B p pp hs va vc o1 r1 Z m:=by
 obtain ⟨xs,ho⟩:=h.o
 obtain ⟨ys,hq⟩:=h.q
 exact ⟨fun i b x hi h1 h2=>(h.r i b x hi h1 h2).kept hg (.inr fun e=>by simp [Value.ownBlock] at e;exact hr i x hi h2 e),⟨xs,ho.kept hg (.inr fun e=>by simp [Value.ownBlock] at e;exact ho1 e)⟩,⟨ys,hq.kept hg (.inr fun e=>by simp [Value.ownBlock] at e;exact hr1 e)⟩,h.d.grown hg hz,h.v.kept hg (.inr hv),h.b.grown hg (by have:=h.b.size;omega) (fun k hk=>by cases hk;exact hBg)⟩
end
def fullL (l:List Bc) (k:Nat):List Bc:=List.replicate k markB++(l++List.replicate 80 markB).drop k
theorem fullL_at {l:List Bc} {k:Nat}:(fullL l k)[k]?=(l++List.replicate 80 markB)[k]?:=by
 unfold fullL
 rw [List.getElem?_append_right (by simp)]
 simp
theorem fullL_set {l:List Bc} {k:Nat} (h:k < l.length+80):(fullL l k).set k markB=fullL l (k+1):=by
 unfold fullL
 rw [List.set_append_right _ _ (by simp),List.length_replicate,Nat.sub_self,List.drop_eq_getElem_cons (by simp;omega),List.set_cons_zero,show List.replicate (k+1) markB=List.replicate k markB++[markB] from List.replicate_succ',List.append_assoc]
 rfl
theorem fullL_same {l:List Bc} {k:Nat} (h:l.length≤k) (hk:k < l.length+80):fullL l (k+1)=fullL l k:=by
 have hm:(l++List.replicate 80 markB)[k]?=some markB:=by
  rw [List.getElem?_append_right h,List.getElem?_replicate,if_pos (by omega)]
 rw [← fullL_set hk]
 apply List.ext_getElem?
 intro i
 rw [List.getElem?_set]
 by_cases e:k=i
 · subst e
   rw [if_pos rfl,fullL_at,hm,if_pos]
   unfold fullL
   simp
   omega
 · rw [if_neg e]
theorem fullL_zero {l:List Bc}:fullL l 0=l++List.replicate 80 markB:=by simp [fullL]
theorem made_any (w:World) (p:Pd) (hp:VwArg w p) (hl:p.vl+p.ol+p.rl≤300) (hbl:∀ b ∈ p.bs,b.v.l≤50000) :
 Calls Tryz.prog 17 #[.agg p.cs] w fun e w'=>MadeOut e w' w.heap.size p∧Below w.heap.size w w':=by
 obtain ⟨w2,hw2⟩:∃ w2,w2=(w.alloc (boxW35 p)).alloc (.cells #[.string { data:=#[109,97,114,107] },.int .i64 0,.int .i64 0,.string { data:=#[] },.slice none 0 0] 50):=⟨_,rfl⟩
 have g0:w2.heap[w.heap.size]?=some (boxW35 p):=by rw [hw2];exact heap_alloc2_old w _ _
 have g1:w2.heap[w.heap.size+1]?=some (.cells #[.string { data:=#[109,97,114,107] },.int .i64 0,.int .i64 0,.string { data:=#[] },.slice none 0 0] 50 (0,0)):=by rw [hw2];exact heap_alloc2_new w _ _
 have hb2:Below w.heap.size w w2:=by rw [hw2];exact bel2 _ _ _
 have z2:w2.heap.size=w.heap.size+2:=by rw [hw2];simp
 have HP:=Lib.hid hp
 have HL:=Lib.hid hl
 have HBL:=Lib.hid hbl
 have HVL:=Lib.hid hp.v.1
 have G0:=Lib.hid g0
 have G1:=Lib.hid g1
 have HB2:=Lib.hid hb2
 obtain ⟨B,hB⟩:∃ B,B=w2.heap.size:=⟨_,rfl⟩
 have hzB:w.heap.size+1 < B:=by omega
 have HBB:=Lib.hid hB
 have hvl:p.vl≤300:=by omega
 clear hp hl hbl g0 g1 hb2 z2 hB
 go_enter Tryz.func17,Tryz.ntmps17
 go_upto_region 2 with (fail)
 rw [← hw2]
 clear hw2
 go_wp2_with fail
 go_loopw [5,6] (fun v i wr=>∃ (k:Nat) (hs:List Nat),k≤p.vl∧i=.int .i64 k∧MdW wr B (p.bs.take k) hs v∧Below B w2 wr) (fun _ i _=>p.vl - (intOf i).toNat)
 case atStart=>exact ⟨0,[],by omega,rfl,⟨rfl,World.ownsRow_nil _ _ _ _,fun i b h hi=>by simp at hi,fun i j x y _ hi=>by simp at hi⟩,Below.refl _ _⟩
 case round =>
  obtain ⟨k,hs,hk,rfl,hm,hb⟩:=hrel
  have hlk:(p.bs.take k).length=k:=by simp;have:=HVL.out;omega
  obtain ⟨va,vc,hv,-⟩:=owns_shape hm.v
  rw [hlk] at hv
  subst hv
  have HLK:=Lib.hid hlk
  have HM:=Lib.hid hm
  clear hlk
  have HBR:=Lib.hid hb
  have HBA:=Lib.hid (HB2.out.trans (hb.mono (by have:=HBB.out;have:=HB2.out.size;omega)))
  have hG0:=(hb.block w.heap.size (by omega)).trans G0.out
  have HG0:=Lib.hid hG0
  have q0:=cell_of_row wr _ 0 _ _ _ hG0
  simp only [List.getElem?_toArray,List.getElem?_cons_zero] at q0
  clear hm hb hG0
  by_cases hlt:k < p.vl
  · have hltI:(k:Int) < (p.vl:Int):=by omega
    obtain ⟨nb,no,nd,he,hnd,-⟩:=HP.out.v.at hlt
    have hrs:=HP.out.v.below HBA.out
    rw [he] at hrs q0
    have n0:=hrs.atS2 hnd 0 _ rfl
    have n1:=hrs.atS2 hnd 1 _ rfl
    have n2:=hrs.atS2 hnd 2 _ rfl
    have n3:=hrs.atS2 hnd 3 _ rfl
    have n4:=hrs.atS2 hnd 4 _ rfl
    simp only [Nat.add_zero] at n0
    have HND:=Lib.hid hnd
    have HMB:=Lib.hid (List.mem_of_getElem? hnd)
    clear hnd hrs he
    go_upto_region 7 with (fail)
    obtain ⟨w3,hw3⟩:∃ w3,w3=wr.alloc (boxB nd nd.v.a nd.v.l nd.v.c):=⟨_,rfl⟩
    have gb:=heap_alloc_new wr (boxB nd nd.v.a nd.v.l nd.v.c)
    have hb3:Below wr.heap.size wr w3:=by rw [hw3];exact bel1 _ _
    rw [← hw3] at gb ⊢
    clear hw3
    have HNV:=Lib.hid ((HP.out.b nd HMB.out).1.rs.below HBA.out)
    have hl50:=HBL.out nd HMB.out
    have l0:(0:Int)≤(nd.v.l:Int):=by omega
    have l1:(nd.v.l:Int)≤(nd.v.l:Int)+80:=by omega
    have l2:(0:Int)≤(nd.v.l:Int)+80:=by omega
    clear n0 n1 n2 n3 n4 q0
    refine wp_region_held_drew (S:=(fun w'=>Below wr.heap.size wr w')) (by kernel_rfl) ((hb3).drew) (fun hHeld=>?_)
    obtain ⟨wd,hwd⟩:∃ wd,wd=w3.drew:=⟨_,rfl⟩
    have GB:=Lib.hid (show wd.heap[wr.heap.size]?=some (boxB nd nd.v.a nd.v.l nd.v.c) by rw [hwd];exact gb)
    rw [← hwd] at hHeld ⊢
    clear hwd gb hb3
    refine tkI (i:=0) (v:=?_) rfl ?_ ?_
    rotate_left
    · intro w hSw;(try dsimp only at hSw);go_simp;try with_reducible rfl
    (try simp only [Act.put,rA,rB,rC,rD,rE,rF])
    refine tkI (i:=1) (v:=?_) rfl ?_ ?_
    rotate_left
    · intro w hSw;(try dsimp only at hSw);go_simp;try with_reducible rfl
    (try simp only [Act.put,rA,rB,rC,rD,rE,rF])
    refine tkI (i:=4) (v:=?_) rfl ?_ ?_
    rotate_left
    · intro w hSw;(try dsimp only at hSw);go_simp;try with_reducible rfl
    (try simp only [Act.put,rA,rB,rC,rD,rE,rF])
    refine tkI (i:=5) (v:=?_) rfl ?_ ?_
    rotate_left
    · intro w hSw;(try dsimp only at hSw);go_simp;try with_reducible rfl
    (try simp only [Act.put,rA,rB,rC,rD,rE,rF])
    refine wpAnyH_ready (rs:=[2,6]) (by kernel_rfl) (by simp) ?_
    refine AllReadyH.cons (o:=_) rfl (fun K hK=>?_) (AllReadyH.cons (o:=_) rfl (fun K hK=>?_) AllReadyH.nil)
    · have cb:=cell_of_row _ _ 4 _ _ _ GB.out
      simp only [List.getElem?_toArray,List.getElem?_cons_zero,List.getElem?_cons_succ] at cb
      go_simp
      refine hK.out _ _ hHeld (fun hHeld=>?_)
      clear hK K cb
      (try simp only [Act.put,rA,rB,rC,rD,rE,rF])
      refine wpAnyH_ready (rs:=[3,6]) (by kernel_rfl) (by simp) ?_
      refine AllReadyH.cons (o:=_) rfl (fun K hK=>?_) (AllReadyH.cons (o:=_) rfl (fun K hK=>?_) AllReadyH.nil)
      · go_simp
        refine (roomy_S wd nd.v.a nd.v.l nd.v.c nd.v.x.ss { data:=#[109,97,114,107] } ((HNV.out).below hHeld) (by omega)).mono ?_
        rintro e y1 ⟨g,rfl,ho,hb⟩
        have HOG:=Lib.hid ho
        have HGW:=Lib.hid hHeld.size
        have GB':=Lib.hid ((hb.block _ (Array.getElem?_eq_some_iff.1 GB.out).1).trans GB.out)
        clear GB
        have GB:=Lib.hid GB'.out
        clear GB'
        refine hK.out _ _ (hHeld.trans (hb.mono hHeld.size)) (fun hHeld=>?_)
        clear hK K ho hb
        (try simp only [Act.put,rA,rB,rC,rD,rE,rF])
        refine wpAnyH_ready (rs:=[6]) (by kernel_rfl) (by simp) ?_
        refine AllReadyH.cons (o:=_) rfl (fun K hK=>?_) AllReadyH.nil
        have cb:=cell_of_row _ _ 4 _ _ _ GB.out
        simp only [List.getElem?_toArray,List.getElem?_cons_zero,List.getElem?_cons_succ] at cb
        go_simp
        refine hK.out _ _ hHeld (fun hHeld=>?_)
        clear hK K cb
        (try simp only [Act.put,rA,rB,rC,rD,rE,rF])
        refine tkI (i:=7) (v:=?_) rfl ?_ ?_
        rotate_left
        · intro w hSw;(try dsimp only at hSw);go_simp;try with_reducible rfl
        (try simp only [Act.put,rA,rB,rC,rD,rE,rF])
        refine tkI (i:=8) (v:=?_) rfl ?_ ?_
        rotate_left
        · intro w hSw;(try dsimp only at hSw);go_simp;try with_reducible rfl
        (try simp only [Act.put,rA,rB,rC,rD,rE,rF])
        refine tkI (i:=9) (v:=?_) rfl ?_ ?_
        rotate_left
        · intro w hSw;(try dsimp only at hSw);go_simp;try with_reducible rfl
        (try simp only [Act.put,rA,rB,rC,rD,rE,rF])
        refine tkI (i:=10) (v:=?_) rfl ?_ ?_
        rotate_left
        · intro w hSw;(try dsimp only at hSw);go_simp;try with_reducible rfl
        (try simp only [Act.put,rA,rB,rC,rD,rE,rF])
        have cb:=cell_of_row _ _ 4 _ _ _ GB.out
        have fb:=frozen_of_row _ _ 4 _ _ GB.out
        simp only [List.getElem?_toArray,List.getElem?_cons_zero,List.getElem?_cons_succ] at cb
        refine wpAnyH_ready (rs:=[11]) (by kernel_rfl) (by simp) ?_
        refine AllReadyH.cons (o:=_) rfl (fun K hK=>?_) AllReadyH.nil
        go_simp
        refine hK.out _ _ (hHeld.setCell (p:=⟨wr.heap.size,4,none⟩) (Nat.le_refl _) _) (fun hHeld=>?_)
        clear hK K cb fb
        (try simp only [Act.put,rA,rB,rC,rD,rE,rF])
        refine wpAnyH_done (by kernel_rfl) ?_ _
        go_upto_region 8 with (fail)
        obtain ⟨w5,hw5⟩:∃ w5,w5=y1.setCell ⟨wr.heap.size,4,none⟩ (.slice (some ⟨g,0,none⟩) nd.v.l (nd.v.l+80)):=⟨_,rfl⟩
        have g5:w5.heap[wr.heap.size]?=some (boxB nd (some ⟨g,0,none⟩) nd.v.l (nd.v.l+80)):=by rw [hw5];exact heap_setCell_same y1 _ 4 _ _ _ GB.out
        have hb5:Below wr.heap.size wr w5:=by rw [hw5];exact hHeld
        have hgw:=(HOG.out.lt g rfl).1
        have o5:w5.ownsRow B 9 1 (.slice (some ⟨g,0,none⟩) (nd.v.l+80) (nd.v.l+80)) (nd.v.l+80) ((roomS nd).flatMap Sv):=by
         rw [hw5]
         exact owns_mono (ownsRow_setCell_other (a:=⟨wr.heap.size,4,none⟩) HOG.out (own_ne HOG.out GB.out (by decide)) _) (by have:=HGW.out;have:=HBB.out;have:=HBR.out.size;omega)
        rw [← hw5]
        clear hw5 hHeld HOG
        have HGG:=Lib.hid (show wr.heap.size≤g by have:=HGW.out;omega)
        have HO5:=Lib.hid o5
        have HB5:=Lib.hid hb5
        have HM5:=Lib.hid (HM.out.below hb5)
        have HB5B:=Lib.hid (HBR.out.trans (hb5.mono (by have:=HBB.out;have:=HBR.out.size;omega)))
        have c0:=cell_of_row w5 _ 0 _ _ _ g5
        have c1:=cell_of_row w5 _ 1 _ _ _ g5
        have c2:=cell_of_row w5 _ 2 _ _ _ g5
        have c3:=cell_of_row w5 _ 3 _ _ _ g5
        have c4:=cell_of_row w5 _ 4 _ _ _ g5
        simp only [List.getElem?_toArray,List.getElem?_cons_zero,List.getElem?_cons_succ] at c0 c1 c2 c3 c4
        clear g5 hb5 o5 hgw GB HGW
        go_wp2_with (at_builtin;(refine L_appendN rfl _ _ _ rfl sl33 B (.slice va k vc) k _ rfl (by have h:=own_below HM5.out.v (bel1 _ (.cells #[.string nd.nm,.int .i64 nd.v.x.k,.int .i64 nd.v.x.n,.string nd.v.x.t,.slice (some ⟨g,0,none⟩) nd.v.l (nd.v.l+80)] 50));rwa [HLK.out] at h) _ 1 1 (Bc.cs (⟨nd.nm,⟨nd.v.x,some ⟨g,0,none⟩,nd.v.l,nd.v.l+80⟩⟩:Bc)) rfl rfl (new_bc w5 (⟨nd.nm,⟨nd.v.x,some ⟨g,0,none⟩,nd.v.l,nd.v.l+80⟩⟩:Bc)) (by simp [Bc.cs,Value.oneCell']) (by omega) (by simp [maxLen];omega) (by have:=HBB.out;have:=HB5B.out.size;simp;omega) (fun a6 c6 w6 ho6 hg6 hat6=>?_)
                                 have hm6:=MdW.add (W0:=wr) (b:=nd) (HM5.out.below (bel1 _ _)) HGG.out (fun x hx=>HM.out.lt hx) (own_below HO5.out (bel1 _ _)) (v':=.slice a6 (k+1) c6) (by rw [HLK.out];exact ho6) hg6
                                 have hb6:=(HB5B.out.alloc (by have:=HBB.out;have:=HB5B.out.size;omega) _).grown hg6 (by have:=HBB.out;have:=HB5B.out.size;simp;omega) (fun q hq=>by have:=(HM5.out.v.lt q hq).1;omega)
                                 have HM6:=Lib.hid hm6
                                 have HB6:=Lib.hid hb6
                                 clear ho6 hg6 hat6 hm6 hb6))
        go_roundw
        case rel=>exact ⟨k+1,hs++[g],by omega,by go_num,by rw [List.take_add_one,HND.out];exact HM6.out,HB6.out⟩
        case measure=>simp [intOf];omega
      · have cb:=cell_of_row _ _ 4 _ _ _ GB.out
        simp only [List.getElem?_toArray,List.getElem?_cons_zero,List.getElem?_cons_succ] at cb
        go_simp
        refine hK.out _ _ hHeld (fun hHeld=>?_)
        clear hK K cb
        (try simp only [Act.put,rA,rB,rC,rD,rE,rF])
        refine tkI (i:=7) (v:=?_) rfl ?_ ?_
        rotate_left
        · intro w hSw;(try dsimp only at hSw);go_simp;try with_reducible rfl
        (try simp only [Act.put,rA,rB,rC,rD,rE,rF])
        refine wpAnyH_ready (rs:=[3]) (by kernel_rfl) (by simp) ?_
        refine AllReadyH.cons (o:=_) rfl (fun K hK=>?_) AllReadyH.nil
        go_simp
        refine (roomy_S wd nd.v.a nd.v.l nd.v.c nd.v.x.ss { data:=#[109,97,114,107] } ((HNV.out).below hHeld) (by omega)).mono ?_
        rintro e y1 ⟨g,rfl,ho,hb⟩
        have HOG:=Lib.hid ho
        have HGW:=Lib.hid hHeld.size
        have GB':=Lib.hid ((hb.block _ (Array.getElem?_eq_some_iff.1 GB.out).1).trans GB.out)
        clear GB
        have GB:=Lib.hid GB'.out
        clear GB'
        refine hK.out _ _ (hHeld.trans (hb.mono hHeld.size)) (fun hHeld=>?_)
        clear hK K ho hb
        (try simp only [Act.put,rA,rB,rC,rD,rE,rF])
        refine tkI (i:=8) (v:=?_) rfl ?_ ?_
        rotate_left
        · intro w hSw;(try dsimp only at hSw);go_simp;try with_reducible rfl
        (try simp only [Act.put,rA,rB,rC,rD,rE,rF])
        refine tkI (i:=9) (v:=?_) rfl ?_ ?_
        rotate_left
        · intro w hSw;(try dsimp only at hSw);go_simp;try with_reducible rfl
        (try simp only [Act.put,rA,rB,rC,rD,rE,rF])
        refine tkI (i:=10) (v:=?_) rfl ?_ ?_
        rotate_left
        · intro w hSw;(try dsimp only at hSw);go_simp;try with_reducible rfl
        (try simp only [Act.put,rA,rB,rC,rD,rE,rF])
        have cb:=cell_of_row _ _ 4 _ _ _ GB.out
        have fb:=frozen_of_row _ _ 4 _ _ GB.out
        simp only [List.getElem?_toArray,List.getElem?_cons_zero,List.getElem?_cons_succ] at cb
        refine wpAnyH_ready (rs:=[11]) (by kernel_rfl) (by simp) ?_
        refine AllReadyH.cons (o:=_) rfl (fun K hK=>?_) AllReadyH.nil
        go_simp
        refine hK.out _ _ (hHeld.setCell (p:=⟨wr.heap.size,4,none⟩) (Nat.le_refl _) _) (fun hHeld=>?_)
        clear hK K cb fb
        (try simp only [Act.put,rA,rB,rC,rD,rE,rF])
        refine wpAnyH_done (by kernel_rfl) ?_ _
        go_upto_region 8 with (fail)
        obtain ⟨w5,hw5⟩:∃ w5,w5=y1.setCell ⟨wr.heap.size,4,none⟩ (.slice (some ⟨g,0,none⟩) nd.v.l (nd.v.l+80)):=⟨_,rfl⟩
        have g5:w5.heap[wr.heap.size]?=some (boxB nd (some ⟨g,0,none⟩) nd.v.l (nd.v.l+80)):=by rw [hw5];exact heap_setCell_same y1 _ 4 _ _ _ GB.out
        have hb5:Below wr.heap.size wr w5:=by rw [hw5];exact hHeld
        have hgw:=(HOG.out.lt g rfl).1
        have o5:w5.ownsRow B 9 1 (.slice (some ⟨g,0,none⟩) (nd.v.l+80) (nd.v.l+80)) (nd.v.l+80) ((roomS nd).flatMap Sv):=by
         rw [hw5]
         exact owns_mono (ownsRow_setCell_other (a:=⟨wr.heap.size,4,none⟩) HOG.out (own_ne HOG.out GB.out (by decide)) _) (by have:=HGW.out;have:=HBB.out;have:=HBR.out.size;omega)
        rw [← hw5]
        clear hw5 hHeld HOG
        have HGG:=Lib.hid (show wr.heap.size≤g by have:=HGW.out;omega)
        have HO5:=Lib.hid o5
        have HB5:=Lib.hid hb5
        have HM5:=Lib.hid (HM.out.below hb5)
        have HB5B:=Lib.hid (HBR.out.trans (hb5.mono (by have:=HBB.out;have:=HBR.out.size;omega)))
        have c0:=cell_of_row w5 _ 0 _ _ _ g5
        have c1:=cell_of_row w5 _ 1 _ _ _ g5
        have c2:=cell_of_row w5 _ 2 _ _ _ g5
        have c3:=cell_of_row w5 _ 3 _ _ _ g5
        have c4:=cell_of_row w5 _ 4 _ _ _ g5
        simp only [List.getElem?_toArray,List.getElem?_cons_zero,List.getElem?_cons_succ] at c0 c1 c2 c3 c4
        clear g5 hb5 o5 hgw GB HGW
        go_wp2_with (at_builtin;(refine L_appendN rfl _ _ _ rfl sl33 B (.slice va k vc) k _ rfl (by have h:=own_below HM5.out.v (bel1 _ (.cells #[.string nd.nm,.int .i64 nd.v.x.k,.int .i64 nd.v.x.n,.string nd.v.x.t,.slice (some ⟨g,0,none⟩) nd.v.l (nd.v.l+80)] 50));rwa [HLK.out] at h) _ 1 1 (Bc.cs (⟨nd.nm,⟨nd.v.x,some ⟨g,0,none⟩,nd.v.l,nd.v.l+80⟩⟩:Bc)) rfl rfl (new_bc w5 (⟨nd.nm,⟨nd.v.x,some ⟨g,0,none⟩,nd.v.l,nd.v.l+80⟩⟩:Bc)) (by simp [Bc.cs,Value.oneCell']) (by omega) (by simp [maxLen];omega) (by have:=HBB.out;have:=HB5B.out.size;simp;omega) (fun a6 c6 w6 ho6 hg6 hat6=>?_)
                                 have hm6:=MdW.add (W0:=wr) (b:=nd) (HM5.out.below (bel1 _ _)) HGG.out (fun x hx=>HM.out.lt hx) (own_below HO5.out (bel1 _ _)) (v':=.slice a6 (k+1) c6) (by rw [HLK.out];exact ho6) hg6
                                 have hb6:=(HB5B.out.alloc (by have:=HBB.out;have:=HB5B.out.size;omega) _).grown hg6 (by have:=HBB.out;have:=HB5B.out.size;simp;omega) (fun q hq=>by have:=(HM5.out.v.lt q hq).1;omega)
                                 have HM6:=Lib.hid hm6
                                 have HB6:=Lib.hid hb6
                                 clear ho6 hg6 hat6 hm6 hb6))
        go_roundw
        case rel=>exact ⟨k+1,hs++[g],by omega,by go_num,by rw [List.take_add_one,HND.out];exact HM6.out,HB6.out⟩
        case measure=>simp [intOf];omega
    · have cb:=cell_of_row _ _ 4 _ _ _ GB.out
      simp only [List.getElem?_toArray,List.getElem?_cons_zero,List.getElem?_cons_succ] at cb
      go_simp
      refine hK.out _ _ hHeld (fun hHeld=>?_)
      clear hK K cb
      (try simp only [Act.put,rA,rB,rC,rD,rE,rF])
      refine tkI (i:=7) (v:=?_) rfl ?_ ?_
      rotate_left
      · intro w hSw;(try dsimp only at hSw);go_simp;try with_reducible rfl
      (try simp only [Act.put,rA,rB,rC,rD,rE,rF])
      refine wpAnyH_ready (rs:=[2]) (by kernel_rfl) (by simp) ?_
      refine AllReadyH.cons (o:=_) rfl (fun K hK=>?_) AllReadyH.nil
      have cb:=cell_of_row _ _ 4 _ _ _ GB.out
      simp only [List.getElem?_toArray,List.getElem?_cons_zero,List.getElem?_cons_succ] at cb
      go_simp
      refine hK.out _ _ hHeld (fun hHeld=>?_)
      clear hK K cb
      (try simp only [Act.put,rA,rB,rC,rD,rE,rF])
      refine wpAnyH_ready (rs:=[3]) (by kernel_rfl) (by simp) ?_
      refine AllReadyH.cons (o:=_) rfl (fun K hK=>?_) AllReadyH.nil
      go_simp
      refine (roomy_S wd nd.v.a nd.v.l nd.v.c nd.v.x.ss { data:=#[109,97,114,107] } ((HNV.out).below hHeld) (by omega)).mono ?_
      rintro e y1 ⟨g,rfl,ho,hb⟩
      have HOG:=Lib.hid ho
      have HGW:=Lib.hid hHeld.size
      have GB':=Lib.hid ((hb.block _ (Array.getElem?_eq_some_iff.1 GB.out).1).trans GB.out)
      clear GB
      have GB:=Lib.hid GB'.out
      clear GB'
      refine hK.out _ _ (hHeld.trans (hb.mono hHeld.size)) (fun hHeld=>?_)
      clear hK K ho hb
      (try simp only [Act.put,rA,rB,rC,rD,rE,rF])
      refine tkI (i:=8) (v:=?_) rfl ?_ ?_
      rotate_left
      · intro w hSw;(try dsimp only at hSw);go_simp;try with_reducible rfl
      (try simp only [Act.put,rA,rB,rC,rD,rE,rF])
      refine tkI (i:=9) (v:=?_) rfl ?_ ?_
      rotate_left
      · intro w hSw;(try dsimp only at hSw);go_simp;try with_reducible rfl
      (try simp only [Act.put,rA,rB,rC,rD,rE,rF])
      refine tkI (i:=10) (v:=?_) rfl ?_ ?_
      rotate_left
      · intro w hSw;(try dsimp only at hSw);go_simp;try with_reducible rfl
      (try simp only [Act.put,rA,rB,rC,rD,rE,rF])
      have cb:=cell_of_row _ _ 4 _ _ _ GB.out
      have fb:=frozen_of_row _ _ 4 _ _ GB.out
      simp only [List.getElem?_toArray,List.getElem?_cons_zero,List.getElem?_cons_succ] at cb
      refine wpAnyH_ready (rs:=[11]) (by kernel_rfl) (by simp) ?_
      refine AllReadyH.cons (o:=_) rfl (fun K hK=>?_) AllReadyH.nil
      go_simp
      refine hK.out _ _ (hHeld.setCell (p:=⟨wr.heap.size,4,none⟩) (Nat.le_refl _) _) (fun hHeld=>?_)
      clear hK K cb fb
      (try simp only [Act.put,rA,rB,rC,rD,rE,rF])
      refine wpAnyH_done (by kernel_rfl) ?_ _
      go_upto_region 8 with (fail)
      obtain ⟨w5,hw5⟩:∃ w5,w5=y1.setCell ⟨wr.heap.size,4,none⟩ (.slice (some ⟨g,0,none⟩) nd.v.l (nd.v.l+80)):=⟨_,rfl⟩
      have g5:w5.heap[wr.heap.size]?=some (boxB nd (some ⟨g,0,none⟩) nd.v.l (nd.v.l+80)):=by rw [hw5];exact heap_setCell_same y1 _ 4 _ _ _ GB.out
      have hb5:Below wr.heap.size wr w5:=by rw [hw5];exact hHeld
      have hgw:=(HOG.out.lt g rfl).1
      have o5:w5.ownsRow B 9 1 (.slice (some ⟨g,0,none⟩) (nd.v.l+80) (nd.v.l+80)) (nd.v.l+80) ((roomS nd).flatMap Sv):=by
       rw [hw5]
       exact owns_mono (ownsRow_setCell_other (a:=⟨wr.heap.size,4,none⟩) HOG.out (own_ne HOG.out GB.out (by decide)) _) (by have:=HGW.out;have:=HBB.out;have:=HBR.out.size;omega)
      rw [← hw5]
      clear hw5 hHeld HOG
      have HGG:=Lib.hid (show wr.heap.size≤g by have:=HGW.out;omega)
      have HO5:=Lib.hid o5
      have HB5:=Lib.hid hb5
      have HM5:=Lib.hid (HM.out.below hb5)
      have HB5B:=Lib.hid (HBR.out.trans (hb5.mono (by have:=HBB.out;have:=HBR.out.size;omega)))
      have c0:=cell_of_row w5 _ 0 _ _ _ g5
      have c1:=cell_of_row w5 _ 1 _ _ _ g5
      have c2:=cell_of_row w5 _ 2 _ _ _ g5
      have c3:=cell_of_row w5 _ 3 _ _ _ g5
      have c4:=cell_of_row w5 _ 4 _ _ _ g5
      simp only [List.getElem?_toArray,List.getElem?_cons_zero,List.getElem?_cons_succ] at c0 c1 c2 c3 c4
      clear g5 hb5 o5 hgw GB HGW
      go_wp2_with (at_builtin;(refine L_appendN rfl _ _ _ rfl sl33 B (.slice va k vc) k _ rfl (by have h:=own_below HM5.out.v (bel1 _ (.cells #[.string nd.nm,.int .i64 nd.v.x.k,.int .i64 nd.v.x.n,.string nd.v.x.t,.slice (some ⟨g,0,none⟩) nd.v.l (nd.v.l+80)] 50));rwa [HLK.out] at h) _ 1 1 (Bc.cs (⟨nd.nm,⟨nd.v.x,some ⟨g,0,none⟩,nd.v.l,nd.v.l+80⟩⟩:Bc)) rfl rfl (new_bc w5 (⟨nd.nm,⟨nd.v.x,some ⟨g,0,none⟩,nd.v.l,nd.v.l+80⟩⟩:Bc)) (by simp [Bc.cs,Value.oneCell']) (by omega) (by simp [maxLen];omega) (by have:=HBB.out;have:=HB5B.out.size;simp;omega) (fun a6 c6 w6 ho6 hg6 hat6=>?_)
                               have hm6:=MdW.add (W0:=wr) (b:=nd) (HM5.out.below (bel1 _ _)) HGG.out (fun x hx=>HM.out.lt hx) (own_below HO5.out (bel1 _ _)) (v':=.slice a6 (k+1) c6) (by rw [HLK.out];exact ho6) hg6
                               have hb6:=(HB5B.out.alloc (by have:=HBB.out;have:=HB5B.out.size;omega) _).grown hg6 (by have:=HBB.out;have:=HB5B.out.size;simp;omega) (fun q hq=>by have:=(HM5.out.v.lt q hq).1;omega)
                               have HM6:=Lib.hid hm6
                               have HB6:=Lib.hid hb6
                               clear ho6 hg6 hat6 hm6 hb6))
      go_roundw
      case rel=>exact ⟨k+1,hs++[g],by omega,by go_num,by rw [List.take_add_one,HND.out];exact HM6.out,HB6.out⟩
      case measure=>simp [intOf];omega
  · have hltI:¬ (k:Int) < (p.vl:Int):=by omega
    obtain rfl:k=p.vl:=by omega
    have hbs:p.bs.take p.vl=p.bs:=List.take_of_length_le (by have:=HVL.out;omega)
    have HMF:=Lib.hid (show MdW wr B p.bs hs (.slice va p.vl vc) by have h:=HM.out;rwa [hbs] at h)
    have HNH:=Lib.hid HMF.out.n
    have HRL:=Lib.hid ((roomB_len HMF.out.n).trans HVL.out)
    obtain ⟨F,hF⟩:∃ F,F=wr.heap.size:=⟨_,rfl⟩
    have HF:=Lib.hid hF
    have HBF:=Lib.hid (show B≤F by have:=HBB.out;have:=HBR.out.size;omega)
    have HVF:=Lib.hid (fun q hq=>by rw [HF.out];exact (HMF.out.v.lt q hq).2:∀ q,(Value.slice va p.vl vc).ownBlock=some q→q < F)
    have HHF:=Lib.hid (fun x hx=>by rw [HF.out];exact HMF.out.lt hx:∀ x ∈ hs,x < F)
    clear hbs hF HM HLK hltI
    go_wp2_with (first
     | (at_make;refine L_make rfl _ _ _ rfl sl33 B .i64 .i64 _ (p.vl+80) rfl rfl (by omega) (by omega) (by simp [maxLen];omega) (by have:=HBF.out;have:=HF.out;omega) (fun w3 ho3 hg3=>?_)
        rw [← HF.out] at ho3 ⊢
        have hb3:Below F wr w3:=by have:=(Below.refl wr.heap.size wr).grown hg3 (Nat.le_refl _) (by intro k hk;cases hk);rwa [← HF.out] at this
        have HB3:=Lib.hid hb3
        have HRV:=Lib.hid (show RS 5 Bc.cs w3 va p.vl vc (roomB p.bs hs) by
         have h:=own_low HMF.out.v hb3 HVF.out
         rw [HVL.out] at h
         exact RS.of_owns h (by decide) Bc_len (by omega))
        have HO3:=Lib.hid ho3
        have q0:=cell_of_row w3 _ 0 _ _ _ ((hb3.block w.heap.size (by have:=HBF.out;omega)).trans HG0.out)
        clear hg3 hb3 ho3)
     | (refine L_copyN rfl _ _ _ rfl sl33 B F (p.vl+80) (p.vl+80) _ rfl HO3.out Bc_len Bc_one _ _ _ _ rfl HRV.out (by omega) (fun w4 ho4 hg4=>?_)))
    have hb4:=HB3.out.grown hg4 (by have:=HF.out;have:=HB3.out.size;omega) (by intro k hk;cases hk;omega)
    have ho5:w4.ownsRow B 50 5 (.slice (some ⟨F,0,none⟩) (p.vl+80) (p.vl+80)) (p.vl+80) ((roomB p.bs hs++List.replicate (p.vl - p.vl) markB++List.replicate (p.vl+80 - p.vl) zB).flatMap Bc.cs):=by
     have e2:(madeCells (Value.cells (.agg #[.string ByteArray.empty,.int .i64 0,.int .i64 0,.string ByteArray.empty,.slice none 0 0])) ((p.vl+80) * 5)).toList=(List.replicate (p.vl+80) zB).flatMap Bc.cs:=madeFlat Bc.cs 5 (by decide) Bc_len zB (p.vl+80)
     rw [e2,dropRep Bc.cs 5 Bc_len zB p.vl] at ho4
     simpa using ho4
    have HO5:=Lib.hid ho5
    have HB5:=Lib.hid hb4
    clear hb4 ho4 hg4 ho5
    obtain ⟨wo,rfl⟩:∃ wo:World,wo=wr:=⟨_,rfl⟩
    go_wp2_with fail
    go_loopw [9] (fun i wx=>∃ j:Nat,p.vl≤j∧j≤p.vl+80∧i=.int .i64 j∧Below F wo wx∧wx.ownsRow B 50 5 (.slice (some ⟨F,0,none⟩) (p.vl+80) (p.vl+80)) (p.vl+80) ((roomB p.bs hs++List.replicate (j - p.vl) markB++List.replicate (p.vl+80 - j) zB).flatMap Bc.cs)) (fun i _=>p.vl+80 - (intOf i).toNat)
    case atStart=>exact ⟨p.vl,by omega,by omega,rfl,HB5.out,HO5.out⟩
    case round =>
     obtain ⟨j,hj1,hj2,rfl,hb,ho⟩:=hrel
     have HBJ:=Lib.hid hb
     have HOJ:=Lib.hid ho
     by_cases hjt:j < p.vl+80
     · have hz:=fill_at zB (roomB p.bs hs) p.vl j markB HRL.out hj1 hjt
       have HZ:=Lib.hid hz
       have c0:=own_at Bc_len ho hz 0 _ rfl
       have c1:=own_at Bc_len ho hz 1 _ rfl
       have c2:=own_at Bc_len ho hz 2 _ rfl
       have c3:=own_at Bc_len ho hz 3 _ rfl
       have c4:=own_at Bc_len ho hz 4 _ rfl
       simp only [Nat.add_zero] at c0
       have f0:=ho.frozenAt (j * 5)
       have f1:=ho.frozenAt (j * 5+1)
       have f2:=ho.frozenAt (j * 5+2)
       have f3:=ho.frozenAt (j * 5+3)
       have f4:=ho.frozenAt (j * 5+4)
       have hg1:=(hb.block (w.heap.size+1) (by have:=HBF.out;omega)).trans ((HBR.out.block (w.heap.size+1) (by omega)).trans G1.out)
       have m0:=cell_of_row wr _ 0 _ _ _ hg1
       have m1:=cell_of_row wr _ 1 _ _ _ hg1
       have m2:=cell_of_row wr _ 2 _ _ _ hg1
       have m3:=cell_of_row wr _ 3 _ _ _ hg1
       have m4:=cell_of_row wr _ 4 _ _ _ hg1
       simp only [List.getElem?_toArray,List.getElem?_cons_zero,List.getElem?_cons_succ] at m0 m1 m2 m3 m4
       have ho':=(own_chain (Bc.cs markB) _ wr (j * 5) ho).1
       rw [setList_flat Bc.cs 5 Bc_len _ j markB (List.getElem?_eq_some_iff.1 hz).1,fill_step zB (roomB p.bs hs) p.vl j markB HRL.out hj1 hjt] at ho'
       have HO':=Lib.hid ho'
       have HB':=Lib.hid (below_chain (Nat.le_refl F) (Bc.cs markB) wr (j * 5) hb)
       have hjI:(j:Int) < (p.vl:Int)+80:=by omega
       clear hb ho hz hg1 ho'
       go_wp2_with fail
       go_roundw
       case rel=>exact ⟨j+1,by omega,by omega,by go_num,HB'.out,HO'.out⟩
       case measure=>simp [intOf];omega
     · obtain rfl:j=p.vl+80:=by omega
       clear hb ho
       have HG:=Lib.hid ((HBJ.out.block w.heap.size (by have:=HBF.out;omega)).trans HG0.out)
       have HBA2:=Lib.hid (HBA.out.trans (HBJ.out.mono (by have:=HF.out;have:=HBA.out.size;omega)))
       have q0:=cell_of_row wr _ 0 _ _ _ HG.out
       have q1:=cell_of_row wr _ 1 _ _ _ HG.out
       have q2:=cell_of_row wr _ 2 _ _ _ HG.out
       have q3:=cell_of_row wr _ 3 _ _ _ HG.out
       have q4:=cell_of_row wr _ 4 _ _ _ HG.out
       simp only [List.getElem?_toArray,List.getElem?_cons_zero,List.getElem?_cons_succ] at q0 q1 q2 q3 q4
       have hol:p.ol≤300:=by have:=HL.out;omega
       have hrl:p.rl≤300:=by have:=HL.out;omega
       go_wp2_with fail
       with_reducible refine (roomy_S wr p.oa p.ol p.oc p.os { data:=#[109,97,114,107] } (HP.out.o.rs.below HBA2.out) (by omega)).mono ?_
       rintro e w6 ⟨o1,rfl,hoo,hb6⟩
       have HOO:=Lib.hid hoo
       have HB6:=Lib.hid hb6
       have HG6:=Lib.hid ((hb6.block _ (Array.getElem?_eq_some_iff.1 HG.out).1).trans HG.out)
       have HBA6:=Lib.hid (HBA2.out.trans (hb6.mono HBA2.out.size))
       clear hoo hb6 q0 q1 q2 q3 q4
       have q0:=cell_of_row w6 _ 0 _ _ _ HG6.out
       have q1:=cell_of_row w6 _ 1 _ _ _ HG6.out
       have q2:=cell_of_row w6 _ 2 _ _ _ HG6.out
       have q3:=cell_of_row w6 _ 3 _ _ _ HG6.out
       have q4:=cell_of_row w6 _ 4 _ _ _ HG6.out
       simp only [List.getElem?_toArray,List.getElem?_cons_zero,List.getElem?_cons_succ] at q0 q1 q2 q3 q4
       go_wp2_with fail
       with_reducible refine (roomy_S w6 p.ra p.rl p.rc p.rs { data:=#[109,97,114,107] } (HP.out.r.rs.below HBA6.out) (by omega)).mono ?_
       rintro e w7 ⟨r1,rfl,hor,hb7⟩
       have HOR:=Lib.hid hor
       have HB7:=Lib.hid hb7
       have HG7:=Lib.hid ((hb7.block _ (Array.getElem?_eq_some_iff.1 HG6.out).1).trans HG6.out)
       have HBA7:=Lib.hid (HBA6.out.trans (hb7.mono HBA6.out.size))
       have HW7:=Lib.hid (HB6.out.trans (hb7.mono HB6.out.size))
       have HO7:=Lib.hid (own_below HOO.out hb7)
       have HF7:=Lib.hid (own_below HOJ.out HW7.out)
       have HM7:=Lib.hid ((HMF.out.low HBJ.out HVF.out HHF.out).below HW7.out)
       have HRF:=Lib.hid (show RS 5 Bc.cs w7 (some ⟨F,0,none⟩) p.vl (p.vl+80) (roomB p.bs hs) by
        have h:RS 5 Bc.cs w7 (some ⟨F,0,none⟩) (p.vl+80) (p.vl+80) ((roomB p.bs hs++List.replicate (p.vl+80 - p.vl) markB++List.replicate (p.vl+80 - (p.vl+80)) zB)):=RS.of_owns HF7.out (by decide) Bc_len (by omega)
        rw [List.append_assoc] at h
        have:=h.cut
        rwa [HRL.out] at this)
       have HRO:=Lib.hid (show RZ w7 (some ⟨o1,0,none⟩) p.ol (p.ol+80) p.os from ⟨by have:=(RS.of_owns HO7.out (by decide) Sv_len (by omega)).cut;rwa [HP.out.o.rs.1] at this,fun h=>by cases h⟩)
       have HRR:=Lib.hid (show RZ w7 (some ⟨r1,0,none⟩) p.rl (p.rl+80) p.rs from ⟨by have:=(RS.of_owns HOR.out (by decide) Sv_len (by omega)).cut;rwa [HP.out.r.rs.1] at this,fun h=>by cases h⟩)
       have HRB:=Lib.hid (fun b hb=>by
        obtain ⟨i,hi⟩:=List.getElem?_of_mem hb
        obtain ⟨b0,g,h1,h2,rfl⟩:=roomB_at hi
        have hb0:=HP.out.b b0 (List.mem_of_getElem? h1)
        have hl0:=HBL.out b0 (List.mem_of_getElem? h1)
        have hr:=(RS.of_owns (HM7.out.r i b0 g h1 h2) (by decide) Sv_len (by omega)).cut
        rw [hb0.1.rs.1] at hr
        exact ⟨⟨hr,fun h=>by cases h⟩,hb0.2.1,by show b0.v.l≤1000000;omega⟩:∀ b ∈ roomB p.bs hs,RZ w7 b.v.a b.v.l b.v.c b.v.x.ss∧I64 b.v.x.n∧b.v.l≤1000000)
       clear hor hb7 q0 q1 q2 q3 q4
       have q0:=cell_of_row w7 _ 0 _ _ _ HG7.out
       have q1:=cell_of_row w7 _ 1 _ _ _ HG7.out
       have q2:=cell_of_row w7 _ 2 _ _ _ HG7.out
       have q3:=cell_of_row w7 _ 3 _ _ _ HG7.out
       have q4:=cell_of_row w7 _ 4 _ _ _ HG7.out
       simp only [List.getElem?_toArray,List.getElem?_cons_zero,List.getElem?_cons_succ] at q0 q1 q2 q3 q4
       have l0:(0:Int)≤(p.vl:Int):=by omega
       have l1:(p.vl:Int)≤(p.vl:Int)+80:=by omega
       have o0:(0:Int)≤(p.ol:Int):=by omega
       have o2:(p.ol:Int)≤(p.ol:Int)+80:=by omega
       have r0:(0:Int)≤(p.rl:Int):=by omega
       have r2:(p.rl:Int)≤(p.rl:Int)+80:=by omega
       go_wp2_with fail
       refine wp_region_held_drew (S:=(fun w'=>Below w7.heap.size w7 w'∧w'.cell? ⟨w.heap.size,0,none⟩=some (.slice p.va p.vl p.vc)∧w'.cell? ⟨w.heap.size,1,none⟩=some (.slice p.oa p.ol p.oc)∧w'.cell? ⟨w.heap.size,2,none⟩=some (.slice p.ra p.rl p.rc)∧w'.cell? ⟨w.heap.size,3,none⟩=some (.int .i64 p.clock)∧w'.cell? ⟨w.heap.size,4,none⟩=some (.int .i64 p.steps))) (by kernel_rfl) ⟨(Below.refl _ _).drew,q0,q1,q2,q3,q4⟩ (fun hHeld=>?_)
       clear q0 q1 q2 q3 q4
       obtain ⟨wd,hwd⟩:∃ wd,wd=w7.drew:=⟨_,rfl⟩
       rw [← hwd] at hHeld ⊢
       clear hwd
       refine tkI (i:=0) (v:=?_) rfl ?_ ?_
       rotate_left
       · intro w hSw;(try dsimp only at hSw);go_simp;try with_reducible rfl
       (try simp only [Act.put,rA,rB,rC,rD,rE,rF])
       refine tkI (i:=1) (v:=?_) rfl ?_ ?_
       rotate_left
       · intro w hSw;(try dsimp only at hSw);go_simp;try with_reducible rfl
       (try simp only [Act.put,rA,rB,rC,rD,rE,rF])
       refine tkI (i:=2) (v:=?_) rfl ?_ ?_
       rotate_left
       · intro w hSw;(try dsimp only at hSw);go_simp;try with_reducible rfl
       (try simp only [Act.put,rA,rB,rC,rD,rE,rF])
       refine tkI (i:=3) (v:=?_) rfl ?_ ?_
       rotate_left
       · intro w hSw;(try dsimp only at hSw);go_simp;try with_reducible rfl
       (try simp only [Act.put,rA,rB,rC,rD,rE,rF])
       refine tkI (i:=4) (v:=?_) rfl ?_ ?_
       rotate_left
       · intro w hSw;(try dsimp only at hSw);go_simp;try with_reducible rfl
       (try simp only [Act.put,rA,rB,rC,rD,rE,rF])
       refine tkI (i:=5) (v:=?_) rfl ?_ ?_
       rotate_left
       · intro w hSw;(try dsimp only at hSw);go_simp;try with_reducible rfl
       (try simp only [Act.put,rA,rB,rC,rD,rE,rF])
       refine tkI (i:=6) (v:=?_) rfl ?_ ?_
       rotate_left
       · intro w hSw;(try dsimp only at hSw);go_simp;try with_reducible rfl
       (try simp only [Act.put,rA,rB,rC,rD,rE,rF])
       refine tkI (i:=7) (v:=?_) rfl ?_ ?_
       rotate_left
       · intro w hSw;(try dsimp only at hSw);go_simp;try with_reducible rfl
       (try simp only [Act.put,rA,rB,rC,rD,rE,rF])
       refine tkI (i:=8) (v:=?_) rfl ?_ ?_
       rotate_left
       · intro w hSw;(try dsimp only at hSw);go_simp;try with_reducible rfl
       (try simp only [Act.put,rA,rB,rC,rD,rE,rF])
       refine tkI (i:=9) (v:=?_) rfl ?_ ?_
       rotate_left
       · intro w hSw;(try dsimp only at hSw);go_simp;try with_reducible rfl
       (try simp only [Act.put,rA,rB,rC,rD,rE,rF])
       refine tkI (i:=10) (v:=?_) rfl ?_ ?_
       rotate_left
       · intro w hSw;(try dsimp only at hSw);go_simp;try with_reducible rfl
       (try simp only [Act.put,rA,rB,rC,rD,rE,rF])
       refine tkI (i:=11) (v:=?_) rfl ?_ ?_
       rotate_left
       · intro w hSw;(try dsimp only at hSw);go_simp;try with_reducible rfl
       (try simp only [Act.put,rA,rB,rC,rD,rE,rF])
       refine tkI (i:=12) (v:=?_) rfl ?_ ?_
       rotate_left
       · intro w hSw;(try dsimp only at hSw);go_simp;try with_reducible rfl
       (try simp only [Act.put,rA,rB,rC,rD,rE,rF])
       refine tkI (i:=13) (v:=?_) rfl ?_ ?_
       rotate_left
       · intro w hSw;(try dsimp only at hSw);go_simp;try with_reducible rfl
       (try simp only [Act.put,rA,rB,rC,rD,rE,rF])
       refine tkI (i:=14) (v:=?_) rfl ?_ ?_
       rotate_left
       · intro w hSw;(try dsimp only at hSw);go_simp;try with_reducible rfl
       (try simp only [Act.put,rA,rB,rC,rD,rE,rF])
       refine tkI (i:=15) (v:=?_) rfl ?_ ?_
       rotate_left
       · intro w hSw;(try dsimp only at hSw);go_simp;try with_reducible rfl
       (try simp only [Act.put,rA,rB,rC,rD,rE,rF])
       refine tkI (i:=16) (v:=?_) rfl ?_ ?_
       rotate_left
       · intro w hSw;(try dsimp only at hSw);go_simp;try with_reducible rfl
       (try simp only [Act.put,rA,rB,rC,rD,rE,rF])
       refine tkI (i:=17) (v:=?_) rfl ?_ ?_
       rotate_left
       · intro w hSw;(try dsimp only at hSw);go_simp;try with_reducible rfl
       (try simp only [Act.put,rA,rB,rC,rD,rE,rF])
       refine wpAnyH_ready (rs:=[18]) (by kernel_rfl) (by simp) ?_
       refine AllReadyH.cons (o:=_) rfl (fun K hK=>?_) AllReadyH.nil
       go_simp
       refine (plain_any wd (some ⟨F,0,none⟩) p.vl (p.vl+80) (roomB p.bs hs) (HRF.out.below hHeld.1) (fun h=>by cases h) (fun b hb=>⟨(HRB.out b hb).1.below hHeld.1,(HRB.out b hb).2⟩) (some ⟨o1,0,none⟩) p.ol (p.ol+80) p.os (HRO.out.below hHeld.1) (some ⟨r1,0,none⟩) p.rl (p.rl+80) p.rs (HRR.out.below hHeld.1) (by omega) (by omega) (by omega) p.clock p.steps).mono ?_
       rintro e w8 ⟨⟨pp,rfl,hpo,hvw⟩,hb⟩
       have HPO:=Lib.hid hpo
       have HVW:=Lib.hid hvw
       have HZD:=Lib.hid hHeld.1.size
       refine hK.out _ _ ⟨hHeld.1.trans (hb.mono hHeld.1.size),keepb hb hHeld.2.1,keepb hb hHeld.2.2.1,keepb hb hHeld.2.2.2.1,keepb hb hHeld.2.2.2.2.1,keepb hb hHeld.2.2.2.2.2⟩ (fun hHeld=>?_)
       clear hK K hb hpo hvw
       (try simp only [Act.put,rA,rB,rC,rD,rE,rF])
       refine tkI (i:=19) (v:=?_) rfl ?_ ?_
       rotate_left
       · intro w hSw;(try dsimp only at hSw);go_simp;try with_reducible rfl
       (try simp only [Act.put,rA,rB,rC,rD,rE,rF])
       refine wpAnyH_done (by kernel_rfl) ?_ _
       go_upto_region 18 with (fail)
       have HB8:=Lib.hid hHeld.1
       have q1:=hHeld.2.2.1
       have q2:=hHeld.2.2.2.1
       have HBA8:=Lib.hid (HBA7.out.trans (hHeld.1.mono HBA7.out.size))
       have HG8:=Lib.hid ((hHeld.1.block _ (Array.getElem?_eq_some_iff.1 HG7.out).1).trans HG7.out)
       clear hHeld
       go_wp2_with fail
       with_reducible refine (intact_S w8 (some ⟨o1,0,none⟩) p.ol (p.ol+80) p.os { data:=#[109,97,114,107] } (RS.of_owns (own_below HO7.out HB8.out) (by decide) Sv_len (by omega)) p.oa p.oc (HP.out.o.rs.below HBA8.out) (by omega)).mono ?_
       rintro e w9 ⟨rfl,hb9⟩
       have HB9:=Lib.hid hb9
       have HBA9:=Lib.hid (HBA8.out.trans (hb9.mono HBA8.out.size))
       have HG9:=Lib.hid ((hb9.block _ (Array.getElem?_eq_some_iff.1 HG8.out).1).trans HG8.out)
       have HB79:=Lib.hid (HB8.out.trans (hb9.mono HB8.out.size))
       clear hb9 q1 q2
       have q0:=cell_of_row w9 _ 0 _ _ _ HG9.out
       have q1:=cell_of_row w9 _ 1 _ _ _ HG9.out
       have q2:=cell_of_row w9 _ 2 _ _ _ HG9.out
       have q3:=cell_of_row w9 _ 3 _ _ _ HG9.out
       have q4:=cell_of_row w9 _ 4 _ _ _ HG9.out
       simp only [List.getElem?_toArray,List.getElem?_cons_zero,List.getElem?_cons_succ] at q0 q1 q2 q3 q4
       go_wp2_with fail
       with_reducible refine (intact_S w9 (some ⟨r1,0,none⟩) p.rl (p.rl+80) p.rs { data:=#[109,97,114,107] } (RS.of_owns (own_below HOR.out HB79.out) (by decide) Sv_len (by omega)) p.ra p.rc (HP.out.r.rs.below HBA9.out) (by omega)).mono ?_
       rintro e w10 ⟨rfl,hb10⟩
       clear q0 q1 q2 q3 q4
       have HB10:=Lib.hid (HB79.out.trans (hb10.mono HB79.out.size))
       have HPO10:=Lib.hid ((HPO.out.below HB9.out).below hb10)
       clear hb10
       go_wp2_with fail
       have HZ1:=Lib.hid (show F < wr.heap.size from (HOJ.out.lt F rfl).2)
       have HO1g:=Lib.hid (HOO.out.lt o1 rfl)
       have HR1g:=Lib.hid (HOR.out.lt r1 rfl)
       obtain ⟨Z,hZ⟩:∃ Z,Z=wd.heap.size:=⟨_,rfl⟩
       rw [← hZ] at HPO10
       have HB0:=Lib.hid (show B≤w2.heap.size by have:=HBB.out;omega)
       have HFo:=Lib.hid (show F < o1∧o1 < r1∧r1 < Z by have:=HZ1.out;have:=HO1g.out;have:=HR1g.out;have:=HZD.out;omega)
       have HBw:=Lib.hid (HBR.out.trans (HBJ.out.mono HBF.out))
       have HD10:=Lib.hid (show Dr w2 w10 B p pp hs va vc o1 r1 Z 0 from ⟨fun i b g _ h1 h2=>own_below (HM7.out.r i b g h1 h2) HB10.out,⟨_,owns_mono (own_below HO7.out HB10.out) (by have:=HBF.out;have:=HZ1.out;omega)⟩,⟨_,owns_mono (own_below HOR.out HB10.out) (by have:=HBF.out;have:=HZ1.out;have:=HB6.out.size;omega)⟩,HPO10.out,by have h:=own_below HM7.out.v HB10.out;rwa [HVL.out] at h,(HBw.out.trans (HW7.out.mono (by have:=HBF.out;have:=HZ1.out;omega))).trans (HB10.out.mono (by have:=HBF.out;have:=HZ1.out;have:=HW7.out.size;omega))⟩)
       have HF10:=Lib.hid (show w10.ownsRow B 50 5 (.slice (some ⟨F,0,none⟩) (p.vl+80) (p.vl+80)) (p.vl+80) ((fullL (roomB p.bs hs) 0).flatMap Bc.cs) by
        have h:=own_below HF7.out HB10.out
        rw [fullL_zero]
        simpa using h)
       have HSS:=Lib.hid HMF.out.s
       clear hZ HBw HM7 HF7 HO7 HB10 HPO10 HPO l0 l1 o0 o2 r0 r2
       obtain ⟨wa,rfl⟩:∃ wa:World,wa=wr:=⟨_,rfl⟩
       go_loopw [13] (fun i wx=>∃ k:Nat,k≤p.vl+80∧i=.int .i64 k∧wx.ownsRow B 50 5 (.slice (some ⟨F,0,none⟩) (p.vl+80) (p.vl+80)) (p.vl+80) ((fullL (roomB p.bs hs) k).flatMap Bc.cs)∧Dr w2 wx B p pp hs va vc o1 r1 Z k) (fun i _=>p.vl+80 - (intOf i).toNat)
       case atStart=>exact ⟨0,by omega,rfl,HF10.out,HD10.out⟩
       case round =>
        obtain ⟨k,hk,rfl,hful,hdr⟩:=hrel
        have HFUL:=Lib.hid hful
        have HDR:=Lib.hid hdr
        have HBX:=Lib.hid (HB2.out.trans (hdr.b.mono (by have:=HB0.out;have:=HBB.out;have:=HB2.out.size;omega)))
        have HGX:=Lib.hid ((hdr.b.block w.heap.size (by omega)).trans G0.out)
        have HFG:=Lib.hid (hful.lt F rfl)
        have q0:=cell_of_row wr _ 0 _ _ _ HGX.out
        have q1:=cell_of_row wr _ 1 _ _ _ HGX.out
        have q2:=cell_of_row wr _ 2 _ _ _ HGX.out
        simp only [List.getElem?_toArray,List.getElem?_cons_zero,List.getElem?_cons_succ] at q0 q1 q2
        clear hdr
        by_cases hkt:k < p.vl+80
        · have hkI:(k:Int) < (p.vl:Int)+80:=by omega
          by_cases hkn:k < p.vl
          · have hknI:¬ (p.vl:Int)≤(k:Int):=by omega
            have hkvI:(k:Int) < (p.vl:Int):=by omega
            obtain ⟨b,hb⟩:∃ b,p.bs[k]?=some b:=⟨_,List.getElem?_eq_getElem (by have:=HVL.out;omega)⟩
            obtain ⟨h,hh⟩:∃ h,hs[k]?=some h:=⟨_,List.getElem?_eq_getElem (by have:=HVL.out;have:=HNH.out;omega)⟩
            have hrb:(roomB p.bs hs)[k]?=some ⟨b.nm,⟨b.v.x,some ⟨h,0,none⟩,b.v.l,b.v.l+80⟩⟩:=by
             unfold roomB
             rw [List.getElem?_zipWith,hb,hh]
            have hfl:(fullL (roomB p.bs hs) k)[k]?=some ⟨b.nm,⟨b.v.x,some ⟨h,0,none⟩,b.v.l,b.v.l+80⟩⟩:=by
             rw [fullL_at,List.getElem?_append_left (by have:=HRL.out;omega)]
             exact hrb
            have c0:=own_at Bc_len hful hfl 0 _ rfl
            have c1:=own_at Bc_len hful hfl 1 _ rfl
            have c2:=own_at Bc_len hful hfl 2 _ rfl
            have c3:=own_at Bc_len hful hfl 3 _ rfl
            have c4:=own_at Bc_len hful hfl 4 _ rfl
            obtain ⟨vb,hvb,-,-⟩:=own_addr HDR.out.v (by omega)
            subst hvb
            have d0:=own_at Bc_len HDR.out.v hrb 0 _ rfl
            obtain ⟨pb,po,bx,hpa,-,-⟩:=HP.out.v.at hkn
            have hrs:=HP.out.v.below HBX.out
            rw [hpa] at hrs q0
            have e1:=hrs.atS2 hb 1 _ rfl
            have e2:=hrs.atS2 hb 2 _ rfl
            have e3:=hrs.atS2 hb 3 _ rfl
            have e4:=hrs.atS2 hb 4 _ rfl
            simp only [Nat.add_zero] at c0 d0
            have HBK:=Lib.hid hb
            have HHK:=Lib.hid hh
            have hbm:=List.mem_of_getElem? hb
            have hbl:=HBL.out b hbm
            have HRP:=Lib.hid ((HP.out.b b hbm).1.rs.below HBX.out)
            have HRX:=Lib.hid (show RS 1 Sv wr (some ⟨h,0,none⟩) (b.v.l+80) (b.v.l+80) (b.v.x.ss++List.replicate 80 { data:=#[109,97,114,107] }) from RS.of_owns (HDR.out.r k b h (Nat.le_refl _) hb hh) (by decide) Sv_len (by omega))
            have HRW:=Lib.hid (show RS 1 Sv wr (some ⟨h,0,none⟩) b.v.l (b.v.l+80) b.v.x.ss by have h:=HRX.out.cut;rwa [HRP.out.1] at h)
            have b0:(0:Int)≤(b.v.l:Int)+80:=by omega
            have HHG:=Lib.hid (show h < F∧B≤h from ⟨HHF.out h (List.mem_of_getElem? hh),((HDR.out.r k b h (Nat.le_refl _) hb hh).lt h rfl).1⟩)
            clear hful hb hh hrb hfl hrs hpa hbm q1 q2
            have HB50:=Lib.hid (show b.v.l≤1000000 by omega)
            have ht80:((b.v.l:Int)+80).toNat=b.v.l+80:=by omega
            have hw80:IntKind.i64.wrap ((b.v.l:Int)+80)=(b.v.l:Int)+80:=IntWalk.i64_in _ (by omega)
            go_wp2_with fail
            refine wp_region_held_drew (S:=(fun w'=>Below wr.heap.size wr w'∧w'.cell? ⟨F,k * 5,none⟩=some (.string b.nm)∧w'.cell? ⟨F,k * 5+1,none⟩=some (.int .i64 b.v.x.k)∧w'.cell? ⟨F,k * 5+2,none⟩=some (.int .i64 b.v.x.n)∧w'.cell? ⟨F,k * 5+3,none⟩=some (.string b.v.x.t)∧w'.cell? ⟨F,k * 5+4,none⟩=some (.slice (some ⟨h,0,none⟩) b.v.l (b.v.l+80))∧w'.cell? ⟨vb,k * 5,none⟩=some (.string b.nm)∧w'.cell? ⟨w.heap.size,0,none⟩=some (.slice (some ⟨pb,po,none⟩) p.vl p.vc)∧w'.cell? ⟨pb,po+k * 5+1,none⟩=some (.int .i64 b.v.x.k)∧w'.cell? ⟨pb,po+k * 5+2,none⟩=some (.int .i64 b.v.x.n)∧w'.cell? ⟨pb,po+k * 5+3,none⟩=some (.string b.v.x.t)∧w'.cell? ⟨pb,po+k * 5+4,none⟩=some (.slice b.v.a b.v.l b.v.c))) (by kernel_rfl) ⟨(Below.refl _ _).drew,c0,c1,c2,c3,c4,d0,q0,e1,e2,e3,e4⟩ (fun hHeld=>?_)
            clear c0 c1 c2 c3 c4 d0 q0 e1 e2 e3 e4
            obtain ⟨wd,hwd⟩:∃ wd,wd=wr.drew:=⟨_,rfl⟩
            rw [← hwd] at hHeld ⊢
            clear hwd
            refine tkI (i:=0) (v:=?_) rfl ?_ ?_
            rotate_left
            · intro w hSw;(try dsimp only at hSw);go_simp;try with_reducible rfl
            (try simp only [Act.put,rA,rB,rC,rD,rE,rF])
            refine tkI (i:=1) (v:=?_) rfl ?_ ?_
            rotate_left
            · intro w hSw;(try dsimp only at hSw);go_simp;try with_reducible rfl
            (try simp only [Act.put,rA,rB,rC,rD,rE,rF])
            refine tkI (i:=2) (v:=?_) rfl ?_ ?_
            rotate_left
            · intro w hSw;(try dsimp only at hSw);go_simp;try with_reducible rfl
            (try simp only [Act.put,rA,rB,rC,rD,rE,rF])
            refine tkI (i:=3) (v:=?_) rfl ?_ ?_
            rotate_left
            · intro w hSw;(try dsimp only at hSw);go_simp;try with_reducible rfl
            (try simp only [Act.put,rA,rB,rC,rD,rE,rF])
            refine tkI (i:=4) (v:=?_) rfl ?_ ?_
            rotate_left
            · intro w hSw;(try dsimp only at hSw);go_simp;try with_reducible rfl
            (try simp only [Act.put,rA,rB,rC,rD,rE,rF])
            refine tkI (i:=5) (v:=?_) rfl ?_ ?_
            rotate_left
            · intro w hSw;(try dsimp only at hSw);go_simp;try with_reducible rfl
            (try simp only [Act.put,rA,rB,rC,rD,rE,rF])
            refine tkI (i:=6) (v:=?_) rfl ?_ ?_
            rotate_left
            · intro w hSw;(try dsimp only at hSw);go_simp;try with_reducible rfl
            (try simp only [Act.put,rA,rB,rC,rD,rE,rF])
            refine tkI (i:=7) (v:=?_) rfl ?_ ?_
            rotate_left
            · intro w hSw;(try dsimp only at hSw);go_simp;try with_reducible rfl
            (try simp only [Act.put,rA,rB,rC,rD,rE,rF])
            refine tkI (i:=8) (v:=?_) rfl ?_ ?_
            rotate_left
            · intro w hSw;(try dsimp only at hSw);go_simp;try with_reducible rfl
            (try simp only [Act.put,rA,rB,rC,rD,rE,rF])
            refine tkI (i:=9) (v:=?_) rfl ?_ ?_
            rotate_left
            · intro w hSw;(try dsimp only at hSw);go_simp;try with_reducible rfl
            (try simp only [Act.put,rA,rB,rC,rD,rE,rF])
            refine tkI (i:=10) (v:=?_) rfl ?_ ?_
            rotate_left
            · intro w hSw;(try dsimp only at hSw);go_simp;try with_reducible rfl
            (try simp only [Act.put,rA,rB,rC,rD,rE,rF])
            refine tkI (i:=11) (v:=?_) rfl ?_ ?_
            rotate_left
            · intro w hSw;(try dsimp only at hSw);go_simp;try with_reducible rfl
            (try simp only [Act.put,rA,rB,rC,rD,rE,rF])
            refine tkI (i:=12) (v:=?_) rfl ?_ ?_
            rotate_left
            · intro w hSw;(try dsimp only at hSw);go_simp;try with_reducible rfl
            (try simp only [Act.put,rA,rB,rC,rD,rE,rF])
            refine tkI (i:=13) (v:=?_) rfl ?_ ?_
            rotate_left
            · intro w hSw;(try dsimp only at hSw);go_simp;try with_reducible rfl
            (try simp only [Act.put,rA,rB,rC,rD,rE,rF])
            refine tkI (i:=14) (v:=?_) rfl ?_ ?_
            rotate_left
            · intro w hSw;(try dsimp only at hSw);go_simp;try with_reducible rfl
            (try simp only [Act.put,rA,rB,rC,rD,rE,rF])
            refine tkI (i:=15) (v:=?_) rfl ?_ ?_
            rotate_left
            · intro w hSw;(try dsimp only at hSw);go_simp;try with_reducible rfl
            (try simp only [Act.put,rA,rB,rC,rD,rE,rF])
            refine tkI (i:=16) (v:=?_) rfl ?_ ?_
            rotate_left
            · intro w hSw;(try dsimp only at hSw);go_simp;try with_reducible rfl
            (try simp only [Act.put,rA,rB,rC,rD,rE,rF])
            refine tkI (i:=17) (v:=?_) rfl ?_ ?_
            rotate_left
            · intro w hSw;(try dsimp only at hSw);go_simp;try with_reducible rfl
            (try simp only [Act.put,rA,rB,rC,rD,rE,rF])
            refine tkI (i:=18) (v:=?_) rfl ?_ ?_
            rotate_left
            · intro w hSw;(try dsimp only at hSw);go_simp;try with_reducible rfl
            (try simp only [Act.put,rA,rB,rC,rD,rE,rF])
            refine tkI (i:=19) (v:=?_) rfl ?_ ?_
            rotate_left
            · intro w hSw;(try dsimp only at hSw);go_simp;try with_reducible rfl
            (try simp only [Act.put,rA,rB,rC,rD,rE,rF])
            refine tkI (i:=20) (v:=?_) rfl ?_ ?_
            rotate_left
            · intro w hSw;(try dsimp only at hSw);go_simp;try with_reducible rfl
            (try simp only [Act.put,rA,rB,rC,rD,rE,rF])
            refine tkI (i:=21) (v:=?_) rfl ?_ ?_
            rotate_left
            · intro w hSw;(try dsimp only at hSw);go_simp;try with_reducible rfl
            (try simp only [Act.put,rA,rB,rC,rD,rE,rF])
            refine tkI (i:=22) (v:=?_) rfl ?_ ?_
            rotate_left
            · intro w hSw;(try dsimp only at hSw);go_simp;try with_reducible rfl
            (try simp only [Act.put,rA,rB,rC,rD,rE,rF])
            refine wpAnyH_ready (rs:=[23]) (by kernel_rfl) (by simp) ?_
            refine AllReadyH.cons (o:=_) rfl (fun K hK=>?_) AllReadyH.nil
            go_simp
            have hrw1:=HRW.out.below hHeld.1
            have hrp1:=HRP.out.below hHeld.1
            with_reducible refine (sameV_any wd b.v.x (some ⟨h,0,none⟩) b.v.l (b.v.l+80) hrw1 b.v.a b.v.c hrp1).mono ?_
            clear hrw1 hrp1
            rintro e x1 ⟨rfl,hb⟩
            have hk1:=(⟨hHeld.1.trans (hb.mono hHeld.1.size),keepb hb hHeld.2.1,keepb hb hHeld.2.2.1,keepb hb hHeld.2.2.2.1,keepb hb hHeld.2.2.2.2.1,keepb hb hHeld.2.2.2.2.2.1,keepb hb hHeld.2.2.2.2.2.2.1,keepb hb hHeld.2.2.2.2.2.2.2.1,keepb hb hHeld.2.2.2.2.2.2.2.2.1,keepb hb hHeld.2.2.2.2.2.2.2.2.2.1,keepb hb hHeld.2.2.2.2.2.2.2.2.2.2.1,keepb hb hHeld.2.2.2.2.2.2.2.2.2.2.2⟩:(fun w'=>Below wr.heap.size wr w'∧w'.cell? ⟨F,k * 5,none⟩=some (.string b.nm)∧w'.cell? ⟨F,k * 5+1,none⟩=some (.int .i64 b.v.x.k)∧w'.cell? ⟨F,k * 5+2,none⟩=some (.int .i64 b.v.x.n)∧w'.cell? ⟨F,k * 5+3,none⟩=some (.string b.v.x.t)∧w'.cell? ⟨F,k * 5+4,none⟩=some (.slice (some ⟨h,0,none⟩) b.v.l (b.v.l+80))∧w'.cell? ⟨vb,k * 5,none⟩=some (.string b.nm)∧w'.cell? ⟨w.heap.size,0,none⟩=some (.slice (some ⟨pb,po,none⟩) p.vl p.vc)∧w'.cell? ⟨pb,po+k * 5+1,none⟩=some (.int .i64 b.v.x.k)∧w'.cell? ⟨pb,po+k * 5+2,none⟩=some (.int .i64 b.v.x.n)∧w'.cell? ⟨pb,po+k * 5+3,none⟩=some (.string b.v.x.t)∧w'.cell? ⟨pb,po+k * 5+4,none⟩=some (.slice b.v.a b.v.l b.v.c)) x1)
            refine hK.out _ _ hk1 (fun hHeld=>?_)
            clear hK K hb hk1
            (try simp only [Act.put,rA,rB,rC,rD,rE,rF])
            refine tkI (i:=24) (v:=?_) rfl ?_ ?_
            rotate_left
            · intro w hSw;(try dsimp only at hSw);go_simp;try with_reducible rfl
            (try simp only [Act.put,rA,rB,rC,rD,rE,rF])
            refine tkI (i:=25) (v:=?_) rfl ?_ ?_
            rotate_left
            · intro w hSw;(try dsimp only at hSw);go_simp;try with_reducible rfl
            (try simp only [Act.put,rA,rB,rC,rD,rE,rF])
            refine tkI (i:=26) (v:=?_) rfl ?_ ?_
            rotate_left
            · intro w hSw;(try dsimp only at hSw);go_simp;try with_reducible rfl
            (try simp only [Act.put,rA,rB,rC,rD,rE,rF])
            refine tkI (i:=27) (v:=?_) rfl ?_ ?_
            rotate_left
            · intro w hSw;(try dsimp only at hSw);go_simp;try with_reducible rfl
            (try simp only [Act.put,rA,rB,rC,rD,rE,rF])
            refine tkI (i:=28) (v:=?_) rfl ?_ ?_
            rotate_left
            · intro w hSw;(try dsimp only at hSw);go_simp;try with_reducible rfl
            (try simp only [Act.put,rA,rB,rC,rD,rE,rF])
            refine tkI (i:=29) (v:=?_) rfl ?_ ?_
            rotate_left
            · intro w hSw;(try dsimp only at hSw);go_simp;try with_reducible rfl
            (try simp only [Act.put,rA,rB,rC,rD,rE,rF])
            refine tkI (i:=30) (v:=?_) rfl ?_ ?_
            rotate_left
            · intro w hSw;(try dsimp only at hSw);go_simp;try with_reducible rfl
            (try simp only [Act.put,rA,rB,rC,rD,rE,rF])
            refine tkI (i:=31) (v:=?_) rfl ?_ ?_
            rotate_left
            · intro w hSw;(try dsimp only at hSw);go_simp;try with_reducible rfl
            (try simp only [Act.put,rA,rB,rC,rD,rE,rF])
            refine tkI (i:=32) (v:=?_) rfl ?_ ?_
            rotate_left
            · intro w hSw;(try dsimp only at hSw);go_simp;try with_reducible rfl
            (try simp only [Act.put,rA,rB,rC,rD,rE,rF])
            refine tkI (i:=33) (v:=?_) rfl ?_ ?_
            rotate_left
            · intro w hSw;(try dsimp only at hSw);go_simp;try with_reducible rfl
            (try simp only [Act.put,rA,rB,rC,rD,rE,rF])
            refine tkI (i:=34) (v:=?_) rfl ?_ ?_
            rotate_left
            · intro w hSw;(try dsimp only at hSw);go_simp;try with_reducible rfl
            (try simp only [Act.put,rA,rB,rC,rD,rE,rF])
            refine tkI (i:=35) (v:=?_) rfl ?_ ?_
            rotate_left
            · intro w hSw;(try dsimp only at hSw);go_simp;try with_reducible rfl
            (try simp only [Act.put,rA,rB,rC,rD,rE,rF])
            refine tkI (i:=36) (v:=?_) rfl ?_ ?_
            rotate_left
            · intro w hSw;(try dsimp only at hSw);go_simp;try with_reducible rfl
            (try simp only [Act.put,rA,rB,rC,rD,rE,rF])
            refine tkI (i:=37) (v:=?_) rfl ?_ ?_
            rotate_left
            · intro w hSw;(try dsimp only at hSw);go_simp;try with_reducible rfl
            (try simp only [Act.put,rA,rB,rC,rD,rE,rF])
            refine tkI (i:=38) (v:=?_) rfl ?_ ?_
            rotate_left
            · intro w hSw;(try dsimp only at hSw);go_simp;try with_reducible rfl
            (try simp only [Act.put,rA,rB,rC,rD,rE,rF])
            refine wpAnyH_ready (rs:=[39]) (by kernel_rfl) (by simp) ?_
            refine AllReadyH.cons (o:=_) rfl (fun K hK=>?_) AllReadyH.nil
            go_simp
            have hrw1:=HRX.out.below hHeld.1
            have hrp1:=HRP.out.below hHeld.1
            with_reducible refine (intact_S x1 (some ⟨h,0,none⟩) b.v.l (b.v.l+80) b.v.x.ss { data:=#[109,97,114,107] } hrw1 b.v.a b.v.c hrp1 HB50.out).mono ?_
            clear hrw1 hrp1
            rintro e x2 ⟨rfl,hb⟩
            have hk1:=(⟨hHeld.1.trans (hb.mono hHeld.1.size),keepb hb hHeld.2.1,keepb hb hHeld.2.2.1,keepb hb hHeld.2.2.2.1,keepb hb hHeld.2.2.2.2.1,keepb hb hHeld.2.2.2.2.2.1,keepb hb hHeld.2.2.2.2.2.2.1,keepb hb hHeld.2.2.2.2.2.2.2.1,keepb hb hHeld.2.2.2.2.2.2.2.2.1,keepb hb hHeld.2.2.2.2.2.2.2.2.2.1,keepb hb hHeld.2.2.2.2.2.2.2.2.2.2.1,keepb hb hHeld.2.2.2.2.2.2.2.2.2.2.2⟩:(fun w'=>Below wr.heap.size wr w'∧w'.cell? ⟨F,k * 5,none⟩=some (.string b.nm)∧w'.cell? ⟨F,k * 5+1,none⟩=some (.int .i64 b.v.x.k)∧w'.cell? ⟨F,k * 5+2,none⟩=some (.int .i64 b.v.x.n)∧w'.cell? ⟨F,k * 5+3,none⟩=some (.string b.v.x.t)∧w'.cell? ⟨F,k * 5+4,none⟩=some (.slice (some ⟨h,0,none⟩) b.v.l (b.v.l+80))∧w'.cell? ⟨vb,k * 5,none⟩=some (.string b.nm)∧w'.cell? ⟨w.heap.size,0,none⟩=some (.slice (some ⟨pb,po,none⟩) p.vl p.vc)∧w'.cell? ⟨pb,po+k * 5+1,none⟩=some (.int .i64 b.v.x.k)∧w'.cell? ⟨pb,po+k * 5+2,none⟩=some (.int .i64 b.v.x.n)∧w'.cell? ⟨pb,po+k * 5+3,none⟩=some (.string b.v.x.t)∧w'.cell? ⟨pb,po+k * 5+4,none⟩=some (.slice b.v.a b.v.l b.v.c)) x2)
            refine hK.out _ _ hk1 (fun hHeld=>?_)
            clear hK K hb hk1
            (try simp only [Act.put,rA,rB,rC,rD,rE,rF])
            refine tkI (i:=40) (v:=?_) rfl ?_ ?_
            rotate_left
            · intro w hSw;(try dsimp only at hSw);go_simp;try with_reducible rfl
            (try simp only [Act.put,rA,rB,rC,rD,rE,rF])
            refine tkI (i:=41) (v:=?_) rfl ?_ ?_
            rotate_left
            · intro w hSw;(try dsimp only at hSw);go_simp;try with_reducible rfl
            (try simp only [Act.put,rA,rB,rC,rD,rE,rF])
            refine wpAnyH_done (by kernel_rfl) ?_ _
            clear hw80 ht80
            go_upto_region 29 with (fail)
            obtain ⟨wz,hwz⟩:∃ wz,wz=x2:=⟨_,rfl⟩
            rw [← hwz] at hHeld ⊢
            have HDZ:=Lib.hid ((HDR.out.below HB0.out hHeld.1).mono (Nat.le_succ k))
            have HFZ:=Lib.hid (own_below HFUL.out hHeld.1)
            have HRZ:=Lib.hid (own_below (HDR.out.r k b h (Nat.le_refl _) HBK.out HHK.out) hHeld.1)
            clear hHeld hwz
            obtain ⟨wb,rfl⟩:∃ wb:World,wb=wr:=⟨_,rfl⟩
            go_wp2_with fail
            go_loopw [15] (fun j wy=>∃ t:Nat,t≤b.v.l∧j=.int .i64 t∧wy.ownsRow B 50 5 (.slice (some ⟨F,0,none⟩) (p.vl+80) (p.vl+80)) (p.vl+80) ((fullL (roomB p.bs hs) k).flatMap Bc.cs)∧Dr w2 wy B p pp hs (some ⟨vb,0,none⟩) vc o1 r1 Z (k+1)∧∃ xs,wy.ownsRow B 9 1 (.slice (some ⟨h,0,none⟩) (b.v.l+80) (b.v.l+80)) (b.v.l+80) xs) (fun j _=>b.v.l - (intOf j).toNat)
            case atStart=>exact ⟨0,by omega,rfl,HFZ.out,HDZ.out,_,HRZ.out⟩
            case round =>
             obtain ⟨t,ht,rfl,hful,hdr,xs,hrow⟩:=hrel
             have HFY:=Lib.hid hful
             have HDY:=Lib.hid hdr
             have HRY:=Lib.hid hrow
             by_cases htl:t < b.v.l
             · have htI:(t:Int) < (b.v.l:Int):=by omega
               have hlen:=hrow.1
               have s0:=hrow.cellAt t (by omega)
               obtain ⟨sv,hsv⟩:∃ sv,xs[t]?=some sv:=⟨_,List.getElem?_eq_getElem (by omega)⟩
               rw [hsv] at s0
               have s1:=hrow.frozenAt t
               obtain ⟨hr1,hg1⟩:=hrow.stored t (.string { data:=#[119,114,105,116,116,101,110] })
               have HR1:=Lib.hid hr1
               have HF1:=Lib.hid (own_grown hful hrow (by decide) hg1)
               have HD1:=Lib.hid (hdr.grown hg1 HB0.out HHG.out.2 (fun i x hi hx=>by have:=HSS.out k i h x (by omega) HHK.out hx;omega) (by have:=HFo.out;have:=HHG.out.1;omega) (by have:=HFo.out;have:=HHG.out.1;omega) (by have:=HFo.out;have:=HHG.out.1;omega) (fun e=>by rcases own_apart hrow hdr.v (by decide) with k | k;exact absurd k (by simp [Value.ownBlock]);exact k e.symm))
               clear hful hdr hrow hr1 hg1 hsv hlen
               go_wp2_with fail
               go_roundw
               case rel=>exact ⟨t+1,by omega,by go_num,HF1.out,HD1.out,_,HR1.out⟩
               case measure=>simp [intOf];omega
             · have htI:¬ (t:Int) < (b.v.l:Int):=by omega
               have hfl:(fullL (roomB p.bs hs) k)[k]?=some ⟨b.nm,⟨b.v.x,some ⟨h,0,none⟩,b.v.l,b.v.l+80⟩⟩:=by
                rw [fullL_at,List.getElem?_append_left (by have:=HRL.out;omega)]
                unfold roomB
                rw [List.getElem?_zipWith,HBK.out,HHK.out]
               have c0:=own_at Bc_len hful hfl 0 _ rfl
               have c1:=own_at Bc_len hful hfl 1 _ rfl
               have c2:=own_at Bc_len hful hfl 2 _ rfl
               have c3:=own_at Bc_len hful hfl 3 _ rfl
               have c4:=own_at Bc_len hful hfl 4 _ rfl
               simp only [Nat.add_zero] at c0
               have f0:=hful.frozenAt (k * 5)
               have f1:=hful.frozenAt (k * 5+1)
               have f2:=hful.frozenAt (k * 5+2)
               have f3:=hful.frozenAt (k * 5+3)
               have f4:=hful.frozenAt (k * 5+4)
               have hg1:=(hdr.b.block (w.heap.size+1) (by omega)).trans G1.out
               have m0:=cell_of_row wr _ 0 _ _ _ hg1
               have m1:=cell_of_row wr _ 1 _ _ _ hg1
               have m2:=cell_of_row wr _ 2 _ _ _ hg1
               have m3:=cell_of_row wr _ 3 _ _ _ hg1
               have m4:=cell_of_row wr _ 4 _ _ _ hg1
               simp only [List.getElem?_toArray,List.getElem?_cons_zero,List.getElem?_cons_succ] at m0 m1 m2 m3 m4
               obtain ⟨hc1,hc2⟩:=own_chain (Bc.cs markB) _ wr (k * 5) hful
               rw [setList_flat Bc.cs 5 Bc_len _ k markB (List.getElem?_eq_some_iff.1 hfl).1,fullL_set (by have:=HRL.out;omega)] at hc1
               have HC1:=Lib.hid hc1
               have HD1:=Lib.hid (hdr.grown hc2 HB0.out HBF.out (fun i x hi hx=>by have:=HHF.out x (List.mem_of_getElem? hx);omega) (by have:=HFo.out;omega) (by have:=HFo.out;omega) (by have:=HFo.out;omega) (fun e=>by have:=HVF.out F e;omega))
               clear hful hdr hrow hfl hg1 hc1 hc2
               go_wp2_with fail
               go_roundw
               case rel=>exact ⟨k+1,by omega,by go_num,HC1.out,HD1.out⟩
               case measure=>simp [intOf];omega
          · have hknI:(p.vl:Int)≤(k:Int):=by omega
            have hfl:(fullL (roomB p.bs hs) k)[k]?=some markB:=by
             rw [fullL_at,List.getElem?_append_right (by have:=HRL.out;omega),List.getElem?_replicate,if_pos (by have:=HRL.out;omega)]
            have c0:=own_at Bc_len hful hfl 0 _ rfl
            have c1:=own_at Bc_len hful hfl 1 _ rfl
            simp only [Nat.add_zero] at c0
            have HFS:=Lib.hid (show wr.ownsRow B 50 5 (.slice (some ⟨F,0,none⟩) (p.vl+80) (p.vl+80)) (p.vl+80) ((fullL (roomB p.bs hs) (k+1)).flatMap Bc.cs) by rw [fullL_same (by have:=HRL.out;omega) (by have:=HRL.out;omega)];exact hful)
            clear hful hfl q0 q1 q2
            go_wp2_with fail
            go_roundw
            case rel=>exact ⟨k+1,by omega,by go_num,HFS.out,HDR.out.mono (Nat.le_succ k)⟩
            case measure=>simp [intOf];omega
        · have hkI:¬ (k:Int) < (p.vl:Int)+80:=by omega
          clear hful
          go_wp2_with fail
          obtain ⟨wc,rfl⟩:∃ wc:World,wc=wr:=⟨_,rfl⟩
          clear hkI hkt q0 q1 q2
          go_loopw [16] (fun i wx=>∃ t:Nat,t≤p.ol∧i=.int .i64 t∧Dr w2 wx B p pp hs va vc o1 r1 Z (p.vl+80)) (fun i _=>p.ol - (intOf i).toNat)
          case atStart=>exact ⟨0,by omega,rfl,HDR.out.mono (by omega)⟩
          case round =>
           obtain ⟨t,ht,rfl,hdr⟩:=hrel
           have HD5:=Lib.hid hdr
           have HGX:=Lib.hid ((hdr.b.block w.heap.size (by omega)).trans G0.out)
           have q1:=cell_of_row wr _ 1 _ _ _ HGX.out
           simp only [List.getElem?_toArray,List.getElem?_cons_zero,List.getElem?_cons_succ] at q1
           by_cases htl:t < p.ol
           · have htI:(t:Int) < (p.ol:Int):=by omega
             have htJ:(t:Int) < (p.ol:Int)+80:=by omega
             obtain ⟨xs,ho⟩:=hdr.o
             have hlen:=ho.1
             have s0:=ho.cellAt t (by omega)
             obtain ⟨sv,hsv⟩:∃ sv,xs[t]?=some sv:=⟨_,List.getElem?_eq_getElem (by omega)⟩
             rw [hsv] at s0
             have s1:=ho.frozenAt t
             obtain ⟨hr1,hg1⟩:=ho.stored t (.string { data:=#[119,114,105,116,116,101,110] })
             obtain ⟨ys,hq⟩:=hdr.q
             have HD6:=Lib.hid (show Dr w2 (wr.setCell ⟨o1,t,none⟩ (.string { data:=#[119,114,105,116,116,101,110] })) B p pp hs va vc o1 r1 Z (p.vl+80) from
              ⟨fun i b g hi h1 _=>by have:=(List.getElem?_eq_some_iff.1 h1).1;have:=HVL.out;omega,⟨_,hr1⟩,⟨ys,hq.kept hg1 (.inr fun e=>by simp [Value.ownBlock] at e;have:=HFo.out;omega)⟩,hdr.d.grown hg1 (by have:=HFo.out;omega),own_grown hdr.v ho (by decide) hg1,hdr.b.grown hg1 (by have:=hdr.b.size;have:=HB0.out;omega) (fun k hk=>by cases hk;exact (ho.lt o1 rfl).1)⟩)
             clear hdr ho hlen hsv hr1 hg1 hq
             go_wp2_with fail
             go_roundw
             case rel=>exact ⟨t+1,by omega,by go_num,HD6.out⟩
             case measure=>simp [intOf];omega
           · have htI:¬ (t:Int) < (p.ol:Int):=by omega
             clear hdr
             obtain ⟨we,rfl⟩:∃ we:World,we=wr:=⟨_,rfl⟩
             go_wp2_with fail
             clear q1 htI htl
             go_loopw [17] (fun i wx=>∃ t:Nat,t≤p.rl∧i=.int .i64 t∧Dr w2 wx B p pp hs va vc o1 r1 Z (p.vl+80)) (fun i _=>p.rl - (intOf i).toNat)
             case atStart=>exact ⟨0,by omega,rfl,HD5.out⟩
             case round =>
              obtain ⟨t,ht,rfl,hdr⟩:=hrel
              have HD5:=Lib.hid hdr
              have HGX:=Lib.hid ((hdr.b.block w.heap.size (by omega)).trans G0.out)
              have q2:=cell_of_row wr _ 2 _ _ _ HGX.out
              simp only [List.getElem?_toArray,List.getElem?_cons_zero,List.getElem?_cons_succ] at q2
              by_cases htl:t < p.rl
              · have htI:(t:Int) < (p.rl:Int):=by omega
                have htJ:(t:Int) < (p.rl:Int)+80:=by omega
                obtain ⟨xs,ho⟩:=hdr.q
                have hlen:=ho.1
                have s0:=ho.cellAt t (by omega)
                obtain ⟨sv,hsv⟩:∃ sv,xs[t]?=some sv:=⟨_,List.getElem?_eq_getElem (by omega)⟩
                rw [hsv] at s0
                have s1:=ho.frozenAt t
                obtain ⟨hr1,hg1⟩:=ho.stored t (.string { data:=#[119,114,105,116,116,101,110] })
                obtain ⟨ys,hq⟩:=hdr.o
                have HD6:=Lib.hid (show Dr w2 (wr.setCell ⟨r1,t,none⟩ (.string { data:=#[119,114,105,116,116,101,110] })) B p pp hs va vc o1 r1 Z (p.vl+80) from
                 ⟨fun i b g hi h1 _=>by have:=(List.getElem?_eq_some_iff.1 h1).1;have:=HVL.out;omega,⟨ys,hq.kept hg1 (.inr fun e=>by simp [Value.ownBlock] at e;have:=HFo.out;omega)⟩,⟨_,hr1⟩,hdr.d.grown hg1 (by have:=HFo.out;omega),own_grown hdr.v ho (by decide) hg1,hdr.b.grown hg1 (by have:=hdr.b.size;have:=HB0.out;omega) (fun k hk=>by cases hk;exact (ho.lt r1 rfl).1)⟩)
                clear hdr ho hlen hsv hr1 hg1 hq
                go_wp2_with fail
                go_roundw
                case rel=>exact ⟨t+1,by omega,by go_num,HD6.out⟩
                case measure=>simp [intOf];omega
              · have htI:¬ (t:Int) < (p.rl:Int):=by omega
                clear hdr
                go_wp2_with fail
                go_quiet (fail)
                go_wp2_with fail
                go_ret2
                exact ⟨⟨pp,rfl,(HD5.out.d.mono (show w.heap.size≤Z by have:=HFo.out;have:=HBF.out;omega)).below (below_drewN (Below.refl _ _) _),by rw [HVW.out,roomB_vals HNH.out]⟩,below_drewN (HB2.out.trans (HD5.out.b.mono (by have:=HBB.out;have:=HB2.out.size;omega))) _⟩
end Go.Proofs.YtcnckjlmldnblaaGreatDoor
