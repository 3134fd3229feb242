import Derived.Test.YtcnckjlmldnblaaGreatDoorE13
namespace Go.Proofs.YtcnckjlmldnblaaGreatDoor
open Go Go.RowKit
set_option maxRecDepth 100000
set_option maxHeartbeats 4000000
set_option linter.unusedVariables false
set_option linter.unusedSimpArgs false
/-- A value with the place of its members. -/
structure Vc where
 x:Vl
 a:Option Addr
 l:Nat
 c:Nat
def Vc.cs (v:Vc):List Value:=[.int .i64 v.x.k,.int .i64 v.x.n,.string v.x.t,.slice v.a v.l v.c]
theorem Vc_len (v:Vc):v.cs.length=4:=rfl
theorem new_str (w:World) (s:ByteArray) (j:Nat) (u:Value) (h:(Sv s)[j]?=some u):(w.alloc (.cells #[.string s] 9)).cell? ((⟨w.heap.size,0,none⟩:Addr).add j)=some u:=by
 have hj:j=0:=by have:=(List.getElem?_eq_some_iff.1 h).1;simp [Sv] at this;exact this
 subst hj
 simp [Sv] at h
 subst h
 rw [Addr.add_lit]
 exact cell_of_row _ _ _ _ _ _ (heap_alloc_new w _)
theorem gathered_any (w:World) (a:Option Addr) (n c:Nat) (vs:List Vc) (hr:RS 4 Vc.cs w a n c vs) (hn:n≤1000000) :
 Calls Tryz.prog 67 #[.slice a n c] w fun e w'=>MOut e w' w.heap.size (gatheredW (vs.map Vc.x))∧Below w.heap.size w w':=by
 obtain ⟨w1,hw1⟩:∃ w1,w1=w.alloc boxZ:=⟨_,rfl⟩
 have g0:w1.heap[w.heap.size]?=some boxZ:=by rw [hw1];exact heap_alloc_new w _
 have hb1:Below w.heap.size w w1:=by rw [hw1];exact bel1 _ _
 have z1:w1.heap.size=w.heap.size+1:=by rw [hw1];simp
 have hlen:=hr.1
 have HR:=Lib.hid (hr.below hb1)
 have HB1:=Lib.hid hb1
 have G0:=Lib.hid g0
 clear hr g0 hb1
 go_enter Tryz.func67,Tryz.ntmps67
 go_upto_region 1 with (fail)
 rw [← hw1]
 clear hw1
 go_wp2_with fail
 go_loopw [3,8] (fun v i wr=>∃ k:Nat,k≤n∧i=.int .i64 k∧(∃ la lc,v=.slice la k lc)∧wr.ownsRow w1.heap.size 9 1 v k (((vs.take k).map fun v=>v.x.t).flatMap Sv)∧Below w1.heap.size w1 wr∧(∀ v ∈ vs.take k,v.x.k=3)) (fun _ i _=>n - (intOf i).toNat)
 case atStart=>exact ⟨0,by omega,rfl,⟨none,0,rfl⟩,by simpa using World.ownsRow_nil _ _ _ _,Below.refl _ _,fun v hv=>by simp at hv⟩
 case round =>
  obtain ⟨k,hk,rfl,⟨la,lc,rfl⟩,ho,hb,h3⟩:=hrel
  have HO:=Lib.hid ho
  have HB:=Lib.hid hb
  have H3:=Lib.hid h3
  have zr:=hb.size
  clear ho hb h3
  by_cases hlt:k < n
  · obtain ⟨nb,no,nd,rfl,hnd,hcl0⟩:=HR.out.at hlt
    have hcl:=fun j v hv=>(HB.out.cell (p:=⟨nb,no+k * 4+j,none⟩) (block_lt_of_cell (hcl0 j v hv))).trans (hcl0 j v hv)
    have n0:=hcl 0 _ rfl
    have n1:=hcl 1 _ rfl
    have n2:=hcl 2 _ rfl
    have n3:=hcl 3 _ rfl
    simp only [Nat.add_zero] at n0
    have hltI:(k:Int) < (n:Int):=by omega
    have HND:=Lib.hid (show ((vs.take (k+1)).map fun v=>v.x.t).flatMap Sv=((vs.take k).map fun v=>v.x.t).flatMap Sv++Sv nd.x.t by rw [List.take_add_one,hnd];simp [List.flatMap_append])
    have HMem:=Lib.hid (List.mem_of_getElem? hnd)
    have HTK:=Lib.hid (show vs.take (k+1)=vs.take k++[nd] by rw [List.take_add_one,hnd];rfl)
    clear hcl hcl0 hnd
    cases hk3:(nd.x.k == 3)
    · have HE:=Lib.hid (show gatheredW (vs.map Vc.x)=.error 100 by
       unfold gatheredW
       exact if_pos (List.any_eq_true.2 ⟨nd.x,List.mem_map.2 ⟨nd,HMem.out,rfl⟩,by simp at hk3;simp [hk3]⟩))
      have hk3':(nd.x.k != 3)=true:=by simp at hk3;simp [hk3]
      go_wp2_with (go_at_call 53;refine (refuse_any _ _).mono ?_;rintro e w' ⟨rfl,rfl⟩)
      exact ⟨rfl,.err HE.out,(HB1.out.trans (HB.out.mono (by omega))).alloc (by omega) _⟩
    · have hk3':(nd.x.k != 3)=false:=by simp at hk3;simp [hk3]
      have HK3:=Lib.hid (show nd.x.k=3 by simpa using hk3)
      clear hk3
      go_wp2_with (at_builtin;(refine L_appendN rfl _ _ _ rfl sl45 w1.heap.size (.slice la k lc) k (((vs.take k).map fun v=>v.x.t).flatMap Sv) rfl (own_below HO.out (bel2 _ _ _)) ⟨wr.heap.size+1,0,none⟩ 1 1 (Sv nd.x.t) rfl rfl (fun j u h=>by have:=new_str (wr.alloc (boxS nd.x nd.a nd.l nd.c)) nd.x.t j u h;simpa using this) (by simp [Sv,Value.oneCell']) (by omega) (by unfold maxLen;omega) (by simp;omega) (fun a6 c6 w6 ho6 hg6 hat6=>?_)
                               rw [← HND.out] at ho6
                               have HO6:=Lib.hid ho6
                               have HB6:=Lib.hid (show Below w1.heap.size w1 w6 from ((HB.out.alloc zr _).alloc (by simp;omega) _).grown hg6 (by simp;omega) (fun q hq=>(HO.out.lt q hq).1))
                               clear ho6 hg6 hat6))
      go_roundw
      case rel=>exact ⟨k+1,by omega,by go_num,⟨a6,c6,rfl⟩,HO6.out,HB6.out,fun v hv=>by
       rw [HTK.out] at hv
       rcases List.mem_append.1 hv with hv | hv
       · exact H3.out v hv
       · simp only [List.mem_singleton] at hv;subst hv;exact HK3.out⟩
      case measure=>simp [intOf];omega
  · have hltI:¬ (k:Int) < (n:Int):=by omega
    obtain rfl:k=n:=by omega
    have HT:=Lib.hid (List.take_of_length_le (l:=vs) (i:=k) (by omega))
    have HG:=Lib.hid (show gatheredW (vs.map Vc.x)=membersW (vs.map fun v=>v.x.t) by
     unfold gatheredW
     rw [if_neg,List.map_map]
     · rfl
     · rw [Bool.not_eq_true,List.any_eq_false]
       intro x hx
       obtain ⟨v,hv,rfl⟩:=List.mem_map.1 hx
       have:=H3.out v (by rw [HT.out];exact hv)
       simp [this])
    have HO':=Lib.hid (show wr.ownsRow w1.heap.size 9 1 (.slice la k lc) k ((vs.map fun v=>v.x.t).flatMap Sv) by have:=HO.out;rwa [HT.out] at this)
    have HGr:=Lib.hid ((HB.out.block _ (by omega)).trans G0.out)
    go_wp2_with fail
    with_reducible refine (members_any wr w1.heap.size la k lc _ HO'.out (by omega) zr).mono ?_
    rintro e w4 ⟨hm4,hb4⟩
    have g4:=(hb4.block _ (by omega)).trans HGr.out
    obtain ⟨c0,c1,c2,c3,f0,f1,f2,f3⟩:=box4 g4
    have HB4:=Lib.hid (HB1.out.trans ((HB.out.trans hb4).mono (by omega)))
    rcases hm4.cases with ⟨r,ra,rl,rc,hr,rfl,hs⟩ | ⟨er,hr,rfl⟩
    · go_wp2_with fail
      refine retbox rfl (w1:=w4) g4 rfl ?_
      exact ⟨.ok (by rw [HG.out,hr]) ((hs.box (by omega) _ _ _ _).mono (by omega)),below_box (by omega) HB4.out _ _ _ _⟩
    · go_wp2_with fail
      exact ⟨rfl,.err (by rw [HG.out,hr]),HB4.out⟩
/-- A value that is told as it is, or a refusal. -/
def TOut (e:Ending) (x:Vl) (a:Option Addr) (l c:Nat):Prop:=(rightV x=0∧e=.returned (VA x a l c))∨(rightV x ≠ 0∧e=refused 8)
theorem told_any (w:World) (x:Vl) (a:Option Addr) (l c:Nat) (hx:RS 1 Sv w a l c x.ss) :
 Calls Tryz.prog 48 #[VA x a l c] w fun e w'=>TOut e x a l c∧Below w.heap.size w w':=by
 obtain ⟨w2,hw2⟩:∃ w2,w2=(w.alloc (boxS x a l c)).alloc boxZ:=⟨_,rfl⟩
 have g0:w2.heap[w.heap.size]?=some (boxS x a l c):=by rw [hw2];exact heap_alloc2_old w _ _
 have g1:w2.heap[w.heap.size+1]?=some boxZ:=by rw [hw2];exact heap_alloc2_new w _ _
 have hb2:Below w.heap.size w w2:=by rw [hw2];exact bel2 _ _ _
 have z2:w2.heap.size=w.heap.size+2:=by rw [hw2];simp
 have HB2:=Lib.hid hb2
 have G0:=Lib.hid g0
 have G1:=Lib.hid g1
 have HX:=Lib.hid (hx.below hb2)
 obtain ⟨p0,p1,p2,p3,-⟩:=box4 g0
 clear g0 g1 hb2 hx
 go_enter Tryz.func48,Tryz.ntmps48
 go_upto_region 1 with (fail)
 rw [← hw2]
 clear hw2
 go_wp2_with fail
 with_reducible refine (evright_any w2 x a l c HX.out).mono ?_
 rintro e w3 ⟨rfl,hb3⟩
 have g3:=(hb3.block _ (by omega)).trans G1.out
 obtain ⟨q0,q1,q2,q3,-⟩:=box4 ((hb3.block _ (by omega)).trans G0.out)
 obtain ⟨c0,c1,c2,c3,f0,f1,f2,f3⟩:=box4 g3
 have HB3:=Lib.hid (HB2.out.trans (hb3.mono (by omega)))
 clear hb3
 cases hr:(rightV x == 0)
 · have HR:=Lib.hid (show rightV x ≠ 0 by simpa using hr)
   have hr':(rightV x != 0)=true:=by simp at hr;simp [hr]
   clear hr
   go_wp2_with (go_at_call 53;refine (refuse_any _ _).mono ?_;rintro e w' ⟨rfl,rfl⟩)
   exact ⟨rfl,.inr ⟨HR.out,rfl⟩,HB3.out⟩
 · have HR:=Lib.hid (show rightV x=0 by simpa using hr)
   have hr':(rightV x != 0)=false:=by simp at hr;simp [hr]
   clear hr
   go_wp2_with (go_at_call 53;refine (refuse_any _ _).mono ?_;rintro e w' ⟨rfl,rfl⟩)
   refine retbox rfl (w1:=w3) g3 rfl ?_
   exact ⟨.inl ⟨HR.out,rfl⟩,below_box (by omega) HB3.out _ _ _ _⟩
/-- What is known of a case. -/
structure Vw where
 vals:List (ByteArray × Vl)
 op:List ByteArray
 rc:List ByteArray
 clock:Int
 steps:Int
def Vw.value (v:Vw) (nm:ByteArray):Vl:=match v.vals.find? (fun b=>b.1.toList == nm.toList) with
 | some b=>b.2
 | none=>v0
/-- A name with its value. -/
structure Bc where
 nm:ByteArray
 v:Vc
def Bc.cs (b:Bc):List Value:=[.string b.nm,.int .i64 b.v.x.k,.int .i64 b.v.x.n,.string b.v.x.t,.slice b.v.a b.v.l b.v.c]
theorem Bc_len (b:Bc):b.cs.length=5:=rfl
/-- A view of plain data, as the program holds it. -/
structure Pd where
 va:Option Addr
 vl:Nat
 vc:Nat
 bs:List Bc
 oa:Option Addr
 ol:Nat
 oc:Nat
 os:List ByteArray
 ra:Option Addr
 rl:Nat
 rc:Nat
 rs:List ByteArray
 clock:Int
 steps:Int
abbrev Pd.cs (p:Pd):Array Value:=#[.slice p.va p.vl p.vc,.slice p.oa p.ol p.oc,.slice p.ra p.rl p.rc,.int .i64 p.clock,.int .i64 p.steps]
def Pd.vw (p:Pd):Vw:=⟨p.bs.map fun b=>(b.nm,b.v.x),p.os,p.rs,p.clock,p.steps⟩
structure Pd.ok (w:World) (p:Pd):Prop where
 v:RS 5 Bc.cs w p.va p.vl p.vc p.bs
 o:RS 1 Sv w p.oa p.ol p.oc p.os
 r:RS 1 Sv w p.ra p.rl p.rc p.rs
 b:∀ b ∈ p.bs,RZ w b.v.a b.v.l b.v.c b.v.x.ss∧I64 b.v.x.n∧b.v.l≤1000000
theorem Pd.ok.below {w w':World} {p:Pd} (h:p.ok w) (hb:Below w.heap.size w w'):p.ok w' :=
 ⟨h.v.below hb,h.o.below hb,h.r.below hb,fun b hm=>⟨(h.b b hm).1.below hb,(h.b b hm).2⟩⟩
theorem find_at {bs:List Bc} {nm:ByteArray} {k:Nat} {b:Bc} (hk:bs[k]?=some b) (hb:(b.nm.toList == nm.toList)=true) (hn:∀ (i:Nat) (x:Bc),i < k→bs[i]?=some x→(x.nm.toList == nm.toList)=false):(bs.map fun b=>(b.nm,b.v.x)).find? (fun b=>b.1.toList == nm.toList)=some (b.nm,b.v.x):=by
 induction bs generalizing k with
 | nil=>simp at hk
 | cons x t ih =>
   cases k with
   | zero =>
     simp at hk
     subst hk
     simp only [List.map_cons,List.find?_cons,hb]
   | succ k =>
     have h0:=hn 0 x (by omega) rfl
     simp only [List.map_cons,List.find?_cons,h0]
     exact ih (by simpa using hk) (fun i y hi hy=>hn (i+1) y (by omega) (by simpa using hy))
theorem find_no {bs:List Bc} {nm:ByteArray} (hn:∀ (i:Nat) (x:Bc),bs[i]?=some x→(x.nm.toList == nm.toList)=false):(bs.map fun b=>(b.nm,b.v.x)).find? (fun b=>b.1.toList == nm.toList)=none:=by
 rw [List.find?_eq_none]
 intro p hp
 obtain ⟨b,hb,rfl⟩:=List.mem_map.1 hp
 obtain ⟨i,hi⟩:=List.getElem?_of_mem hb
 simp [hn i b hi]
abbrev boxP (p:Pd):Obj:=.cells p.cs 72
theorem value_any (w:World) (p:Pd) (hp:p.ok w) (nm:ByteArray) :
 Calls Tryz.prog 155 #[.agg p.cs,.string nm] w fun e w'=>(∃ a l c,e=.returned (VA (p.vw.value nm) a l c)∧SO w' w.heap.size (VA (p.vw.value nm) a l c) (p.vw.value nm))∧Below w.heap.size w w':=by
 obtain ⟨w2,hw2⟩:∃ w2,w2=(w.alloc (boxP p)).alloc boxZ:=⟨_,rfl⟩
 have g0:w2.heap[w.heap.size]?=some (boxP p):=by rw [hw2];exact heap_alloc2_old w _ _
 have g1:w2.heap[w.heap.size+1]?=some boxZ:=by rw [hw2];exact heap_alloc2_new w _ _
 have hb2:Below w.heap.size w w2:=by rw [hw2];exact bel2 _ _ _
 have z2:w2.heap.size=w.heap.size+2:=by rw [hw2];simp
 have HB2:=Lib.hid hb2
 have G1:=Lib.hid g1
 have HP:=Lib.hid (hp.below hb2)
 have hvl:=hp.v.1
 have hv48:=hp.v.2.2.1
 have p0:=cell_of_row w2 _ 0 _ _ _ g0
 simp only [List.getElem?_toArray,List.getElem?_cons_zero] at p0
 clear g0 g1 hb2 hp
 go_enter Tryz.func155,Tryz.ntmps155
 go_upto_region 1 with (fail)
 rw [← hw2]
 clear hw2
 go_wp2_with fail
 go_loopw [10] (fun i wr=>∃ k:Nat,k≤p.vl∧i=.int .i64 k∧Below w2.heap.size w2 wr∧(∀ (i:Nat) (x:Bc),i < k→p.bs[i]?=some x→(x.nm.toList == nm.toList)=false)) (fun i _=>p.vl - (intOf i).toNat)
 case atStart=>exact ⟨0,by omega,rfl,Below.refl _ _,fun i x hi=>by omega⟩
 case round =>
  obtain ⟨k,hk,rfl,hb,hne⟩:=hrel
  have HB:=Lib.hid hb
  have HNE:=Lib.hid hne
  have zr:=hb.size
  have q0:=(hb.cell (p:=⟨w.heap.size,0,none⟩) (by show w.heap.size < _;omega)).trans p0
  have gr:=(hb.block _ (by omega)).trans G1.out
  obtain ⟨c0,c1,c2,c3,f0,f1,f2,f3⟩:=box4 gr
  clear hb hne
  by_cases hlt:k < p.vl
  · obtain ⟨nb,no,nd,he,hnd,hcl0⟩:=HP.out.v.at hlt
    have hcl:=fun j v hv=>(HB.out.cell (p:=⟨nb,no+k * 5+j,none⟩) (block_lt_of_cell (hcl0 j v hv))).trans (hcl0 j v hv)
    have n0:=hcl 0 _ rfl
    have n1:=hcl 1 _ rfl
    have n2:=hcl 2 _ rfl
    have n3:=hcl 3 _ rfl
    have n4:=hcl 4 _ rfl
    simp only [Nat.add_zero] at n0
    have hltI:(k:Int) < (p.vl:Int):=by omega
    have HND:=Lib.hid hnd
    have HBK:=Lib.hid (HP.out.b nd (List.mem_of_getElem? hnd))
    rw [he] at q0
    clear hcl hcl0 hnd
    cases hm:(nd.nm.toList == nm.toList)
    · have HM:=Lib.hid hm
      go_wp2_with fail
      refine ⟨⟨k+1,by omega,by go_num,HB.out.alloc zr _,fun i x hi hx=>?_⟩,by simp [intOf];omega⟩
      by_cases e:i=k
      · subst e
        rw [HND.out] at hx
        cases hx
        exact HM.out
      · exact HNE.out i x (by omega) hx
    · have HV:=Lib.hid (show p.vw.value nm=nd.v.x by
       unfold Vw.value Pd.vw
       rw [find_at HND.out hm HNE.out])
      go_wp2_with fail
      obtain ⟨w5,hw5⟩:∃ w5,w5=wr.alloc (.cells #[.string nd.nm,.int .i64 nd.v.x.k,.int .i64 nd.v.x.n,.string nd.v.x.t,.slice nd.v.a nd.v.l nd.v.c] 50):=⟨_,rfl⟩
      have hb5:Below wr.heap.size wr w5:=by rw [hw5];exact bel1 _ _
      have z5:w5.heap.size=wr.heap.size+1:=by rw [hw5];simp
      rw [← hw5]
      have HB5:=Lib.hid (HB.out.trans (hb5.mono zr))
      have G5:=Lib.hid ((hb5.block _ (by omega)).trans gr)
      clear hw5 hb5 gr c0 c1 c2 c3 f0 f1 f2 f3 n0 n1 n2 n3 n4 q0
      with_reducible refine (own_any w5 nd.v.x nd.v.a nd.v.l nd.v.c (HBK.out.1.1.below HB5.out) (by have:=HBK.out.2.2;omega)).mono ?_
      rintro e w6 ⟨v,rfl,hs,hb6⟩
      have g6:=(hb6.block _ (by omega)).trans G5.out
      obtain ⟨c0,c1,c2,c3,f0,f1,f2,f3⟩:=box4 g6
      have HB6:=Lib.hid (HB2.out.trans ((HB5.out.trans (hb6.mono (by omega))).mono (by omega)))
      have HSV:=Lib.hid hs
      obtain ⟨a',l',c',rfl,-⟩:=hs
      clear hb6
      go_wp2_with fail
      refine retbox rfl (w1:=w6) g6 rfl ?_
      exact ⟨⟨a',l',c',by rw [HV.out],by rw [HV.out];exact (HSV.out.box (by omega) _ _ _ _).mono (by omega)⟩,below_box (by omega) HB6.out _ _ _ _⟩
  · have hltI:¬ (k:Int) < (p.vl:Int):=by omega
    have HV:=Lib.hid (show p.vw.value nm=v0 by
     unfold Vw.value Pd.vw
     rw [find_no (fun i x hx=>HNE.out i x (by have:=(List.getElem?_eq_some_iff.1 hx).1;omega) hx)])
    go_wp2_with fail
    refine retbox rfl (w1:=wr) gr rfl ?_
    exact ⟨⟨none,0,0,by rw [HV.out];rfl,by rw [HV.out];exact ⟨none,0,0,rfl,rfl,World.ownsRow_nil _ _ _ _⟩⟩,below_box (by omega) (HB2.out.trans (HB.out.mono (by omega))) _ _ _ _⟩
theorem open_any (w:World) (p:Pd) (hp:p.ok w) (nm:ByteArray) :
 Calls Tryz.prog 152 #[.agg p.cs,.string nm] w fun e w'=>e=.returned (.bool (inSS p.os nm))∧Below w.heap.size w w':=by
 have HP:=Lib.hid hp.o
 clear hp
 go_enter Tryz.func152,Tryz.ntmps152
 go_wp2_with (go_at_call 84;refine (contains_any _ _ _ _ _ (HP.out.below (bel1 _ _)) _).mono ?_;rintro e w' ⟨rfl,rfl⟩)
 go_ret
 exact ⟨rfl,bel1 _ _⟩
theorem reached_any (w:World) (p:Pd) (hp:p.ok w) (nm:ByteArray) :
 Calls Tryz.prog 153 #[.agg p.cs,.string nm] w fun e w'=>e=.returned (.bool (inSS p.rs nm))∧Below w.heap.size w w':=by
 have HP:=Lib.hid hp.r
 clear hp
 go_enter Tryz.func153,Tryz.ntmps153
 go_wp2_with (go_at_call 84;refine (contains_any _ _ _ _ _ (HP.out.below (bel1 _ _)) _).mono ?_;rintro e w' ⟨rfl,rfl⟩)
 go_ret
 exact ⟨rfl,bel1 _ _⟩
theorem clock_any (w:World) (p:Pd) :
 Calls Tryz.prog 151 #[.agg p.cs] w fun e w'=>e=.returned (.int .i64 p.clock)∧Below w.heap.size w w':=by
 go_enter Tryz.func151,Tryz.ntmps151
 go_wp2
 go_ret
 exact ⟨rfl,bel1 _ _⟩
theorem steps_any (w:World) (p:Pd) :
 Calls Tryz.prog 154 #[.agg p.cs] w fun e w'=>e=.returned (.int .i64 p.steps)∧Below w.heap.size w w':=by
 go_enter Tryz.func154,Tryz.ntmps154
 go_wp2
 go_ret
 exact ⟨rfl,bel1 _ _⟩
/-- A node's own worth, where it has no kids. -/
def leafW (nd:Nd) (v:Vw):Option Wr :=
 if nd.op=1∨nd.op=2∨nd.op=4 then some (.ok ⟨nd.vk,nd.vn,nd.vt,[]⟩)
 else if nd.op=3 then some (shortW nd.vt)
 else if nd.op=5 then some (toldW (v.value nd.nm))
 else if nd.op=24 then some (match toldW (v.value nd.nm) with | .error e=>.error e | .ok x=>.ok (truthV (x.k != 0)))
 else if nd.op=25 then some (.ok (truthV (inSS v.op nd.nm)))
 else if nd.op=26 then some (.ok (truthV (inSS v.rc nd.nm)))
 else if nd.op=30 then some (.ok (intV v.steps))
 else if nd.op=29 then some (toldW (timeV v.clock))
 else none
def wkid (f:Int→Wr) (nd:Nd) (i:Nat):Wr:=f ((nd.ks[i]?).getD (-1))
/-- The worth of a node, its kids' being told by f. -/
def nodeW (f:Int→Wr) (nd:Nd) (v:Vw):Wr :=
 match leafW nd v with
 | some w=>w
 | none =>
   if nd.op=9 then (match sureW (wkid f nd 0) with
    | .error e=>.error e
    | .ok false=>.ok (truthV false)
    | .ok true=>match sureW (wkid f nd 1) with | .error e=>.error e | .ok b=>.ok (truthV b))
   else if nd.op=10 then (match sureW (wkid f nd 0) with
    | .error e=>.error e
    | .ok true=>.ok (truthV true)
    | .ok false=>match sureW (wkid f nd 1) with | .error e=>.error e | .ok b=>.ok (truthV b))
   else if nd.op=23 then (match sureW (wkid f nd 0) with
    | .error e=>.error e
    | .ok true=>wkid f nd 1
    | .ok false=>wkid f nd 2)
   else if nd.op=33 then (match wkid f nd 0 with
    | .error e=>.error e
    | .ok w=>if w.k ≠ 0 then .ok w else wkid f nd 1)
   else if nd.op=11∨nd.op=12 then (match wkid f nd 0 with
    | .error e=>.error e
    | .ok a=>match wkid f nd 1 with | .error e=>.error e | .ok b=>equalW nd.op a b)
   else (match seqW (nd.ks.map f) with
    | .error e=>.error e
    | .ok l=>opW nd.op l)
/-- The worth of a place, so deep. -/
def wK (ns:List Nd) (v:Vw):Nat→Int→Wr
 | 0,_=>.error 1
 | d+1,r=>match ns[r.toNat]? with
   | none=>.error 1
   | some nd=>nodeW (wK ns v d) nd v
/-- Is all that a place reaches, so deep, right, with kids that are there? -/
def goodN (ns:List Nd):Nat→Int→Prop
 | 0,_=>False
 | d+1,r=>0≤r∧∃ nd,ns[r.toNat]?=some nd∧nd.right=true∧nd.kl≤1000000∧∀ k ∈ nd.ks,goodN ns d k
theorem wK_at {ns:List Nd} {v:Vw} {d:Nat} {r:Int} {nd:Nd} (h:ns[r.toNat]?=some nd):wK ns v (d+1) r=nodeW (wK ns v d) nd v:=by
 rw [wK,h]
/-- What a view tells is within the machine's numbers. -/
structure VwOk (v:Vw):Prop where
 b:∀ p ∈ v.vals,I64 p.2.n
 c:I64 v.clock
 s:I64 v.steps
theorem Vw.value_i64 {v:Vw} (h:VwOk v) (nm:ByteArray):I64 (v.value nm).n:=by
 unfold Vw.value
 cases hf:v.vals.find? (fun b=>b.1.toList == nm.toList) with
 | none=>exact ⟨by simp [v0],by simp [v0]⟩
 | some b=>exact h.b b (List.mem_of_find?_eq_some hf)
theorem fit_int {n:Int} (h:I64 n):Fit (intV n):=⟨by unfold rightV;simp [formedV,intV,longB],h⟩
theorem fit_truth (b:Bool):Fit (truthV b):=⟨by unfold rightV;cases b <;> simp [formedV,truthV,longB],by cases b <;> simp [truthV,I64]⟩
theorem fit_time {n:Int} (h:timelyB n=true):Fit (timeV n):=⟨by unfold rightV;simp [formedV,timeV,longB,h],by simp [timelyB] at h;simp only [I64,timeV];omega⟩
theorem fit_text {s:ByteArray} (h:¬ 1024 < s.size):Fit ⟨3,0,s,[]⟩:=⟨by unfold rightV;simp [formedV,longB];omega,by simp [I64]⟩
theorem fit_set {l:List ByteArray} (h:¬ 64 < (setOf l).length) (hl:∀ m ∈ l,m.size≤1024):Fit ⟨5,0,ByteArray.empty,setOf l⟩:=by
 refine ⟨?_,by simp [I64]⟩
 have h1:upB (setOf l)=true:=(upB_iff _).2 (setOf_rise l)
 have h2:((setOf l).any fun m=>decide (1024 < m.size))=false:=by
  rw [List.any_eq_false]
  intro m hm
  have:=hl m ((setOf_mem l m).1 hm)
  simp
  omega
 unfold rightV
 simp [formedV,longB,h1,h2]
 omega
/-- A worth that is told fits. -/
def FitW (r:Wr):Prop:=∀ x,r=.ok x→Fit x
theorem FitW.err (e:Int):FitW (.error e):=fun x h=>by cases h
theorem FitW.of {x:Vl} (h:Fit x):FitW (.ok x):=fun y e=>by cases e;exact h
theorem fit_num (n:Int):FitW (numW n):=by
 unfold numW
 split
 · exact .of (fit_int (by assumption))
 · exact .err _
theorem fit_moved (t b:Int):FitW (movedW t b):=by
 unfold movedW
 split
 · exact .of (fit_time (by assumption))
 · exact .err _
theorem fit_short (s:ByteArray):FitW (shortW s):=by
 unfold shortW
 split
 · exact .err _
 · exact .of (fit_text (by assumption))
theorem fit_members {l:List ByteArray} (hl:∀ m ∈ l,m.size≤1024):FitW (membersW l):=by
 unfold membersW
 split
 · exact .err _
 · exact .of (fit_set (by assumption) hl)
theorem fit_ordered (op:Int) (a b c d:Bool):FitW (orderedW op a b c d):=by
 unfold orderedW
 repeat' split
 all_goals first | exact .of (fit_truth _) | exact .err _
theorem fit_numbers (op:Int) {a b:Int} (ha:I64 a) (hb:I64 b):FitW (numbersW op a b):=by
 unfold numbersW quotW
 repeat' split
 all_goals first | exact fit_num _ | exact .err _ | exact fit_ordered _ _ _ _ _ | skip
 · rename_i h0 _
   by_cases h1:b=-1
   · subst h1
     exact .of (fit_int (by rw [Int.tmod_neg,Int.tmod_one];exact ⟨by omega,by omega⟩))
   · exact .of (fit_int (quot_in ha hb h0 h1).2)
 · exact .of (fit_int (by unfold I64 at *;omega))
 · exact .of (fit_int (by unfold I64 at *;omega))
theorem fit_times {op:Int} {a b:Int} (ha:timelyB a=true) (hb:timelyB b=true) (h:op ≠ 18∧op ≠ 20∧op ≠ 21∧op ≠ 22) (h19:op ≠ 19):FitW (asTime (numbersW op a b)):=by
 have qa:0≤a∧a≤4611686018427387904:=by simpa [timelyB] using ha
 have qb:0≤b∧b≤4611686018427387904:=by simpa [timelyB] using hb
 unfold numbersW
 rw [if_neg h.1,if_neg h19,if_neg h.2.1,if_neg (by intro e;rcases e with e | e;exact h.2.2.1 e;exact h.2.2.2 e)]
 by_cases h31:op=31
 · rw [if_pos h31]
   exact .of (fit_time (n:=min a b) (by simp [timelyB];omega))
 · rw [if_neg h31]
   by_cases h32:op=32
   · rw [if_pos h32]
     exact .of (fit_time (n:=max a b) (by simp [timelyB];omega))
   · rw [if_neg h32]
     unfold orderedI orderedW
     repeat' split
     all_goals first | exact .of (fit_truth _) | exact .err _
theorem fit_sets (op:Int) {a b:List ByteArray} (ha:∀ m ∈ a,m.size≤1024) (hb:∀ m ∈ b,m.size≤1024):FitW (setsW op a b):=by
 unfold setsW
 repeat' split
 · exact fit_members fun m hm=>(List.mem_append.1 hm).elim (ha m) (hb m)
 · exact fit_members fun m hm=>ha m (List.mem_filter.1 hm).1
 · exact .err _
theorem fit_double (op:Int) {x y:Vl} (hx:Fit x) (hy:Fit y):FitW (doubleW op x y):=by
 have px:=right_parts hx.r
 have py:=right_parts hy.r
 unfold doubleW
 repeat' split
 all_goals first | exact fit_numbers _ hx.n hy.n | exact fit_moved _ _ | exact .err _ | exact fit_short _ | exact fit_ordered _ _ _ _ _ | exact .of (fit_truth _) | exact fit_sets _ px.2.2.2.1 py.2.2.2.1 | skip
 · rename_i h _
   have q1:=px.2.1 h.1
   have q2:=py.2.1 h.2
   exact .of (fit_int (by simp [timelyB] at q1 q2;unfold I64;omega))
 · rename_i h h19 h2
   exact fit_times (px.2.1 h.1) (py.2.1 h.2) h2 h19
 · exact fit_sets _ px.2.2.2.1 (fun m hm=>by simp at hm;subst hm;exact py.2.2.1)
theorem fit_single (op:Int) {x:Vl} (hx:Fit x):FitW (singleW op x):=by
 have px:=right_parts hx.r
 unfold singleW
 repeat' split
 all_goals first | exact fit_num _ | exact .of (fit_truth _) | exact .err _ | skip
 · exact .of (fit_int (by have:=px.2.2.1;unfold I64;omega))
 · exact .of (fit_int (by have:=px.2.2.2.2;unfold I64;omega))
theorem fit_op (op:Int) {l:List Vl} (h:∀ x ∈ l,Fit x):FitW (opW op l):=by
 unfold opW
 repeat' split
 · exact .err _
 · unfold gatheredW
   split
   · exact .err _
   · exact fit_members fun m hm=>by
      obtain ⟨x,hx,rfl⟩:=List.mem_map.1 hm
      exact (right_parts (h x hx).r).2.2.1
 · exact fit_single _ (h _ List.mem_cons_self)
 · exact fit_double _ (h _ List.mem_cons_self) (h _ (List.mem_cons_of_mem _ List.mem_cons_self))
 · exact .err _
theorem fit_told {v:Vl} (h:I64 v.n):FitW (toldW v):=by
 unfold toldW
 split
 · exact .of ⟨by assumption,h⟩
 · exact .err _
theorem fit_seq:∀ (l:List Wr),(∀ r ∈ l,FitW r)→∀ vs,seqW l=.ok vs→∀ x ∈ vs,Fit x
 | [],_,vs,h=>by
   simp only [seqW,Except.ok.injEq] at h
   subst h
   intro x hx;cases hx
 | .error e :: t,_,vs,h=>by simp [seqW] at h
 | .ok v :: t,hl,vs,h=>by
   simp only [seqW] at h
   cases ht:seqW t with
   | error e=>rw [ht] at h;cases h
   | ok l =>
     rw [ht] at h
     simp only [Except.ok.injEq] at h
     subst h
     intro x hx
     rcases List.mem_cons.1 hx with rfl | hx
     · exact hl _ List.mem_cons_self x rfl
     · exact fit_seq t (fun r hr=>hl r (List.mem_cons_of_mem _ hr)) l ht x hx
theorem right_cases {nd:Nd} (h:nd.right=true):(kidsN nd.op=-1∨(nd.kl:Int)=kidsN nd.op)∧kidsN nd.op ≠ -2∧nd.sl=0∧valB nd.op nd.vk nd.vn nd.vt.data.toList=true:=by
 simp only [Nd.right,rightB,Bool.and_eq_true,Bool.or_eq_true,Bool.not_eq_true',decide_eq_false_iff_not,decide_eq_true_eq] at h
 exact ⟨h.1.1.1.2,h.1.1.1.1,h.1.2,h.2⟩
theorem empty_list {t:ByteArray} (h:t.data.toList.isEmpty=true):t.toList=[]:=by
 rw [ByteArray.toList_eq]
 exact List.isEmpty_iff.1 h
theorem fit_leaf {nd:Nd} {v:Vw} (hr:nd.right=true) (hn:I64 nd.vn) (hv:VwOk v) {r:Wr} (h:leafW nd v=some r):FitW r:=by
 obtain ⟨-,-,-,hval⟩:=right_cases hr
 unfold leafW at h
 split at h
 · rename_i h1
   cases h
   refine .of ⟨?_,hn⟩
   rcases h1 with h1 | h1 | h1 <;> simp [valB,h1] at hval
   · have ht:=empty_list (t:=nd.vt) (by simp [hval.2])
     have hz:nd.vt.size=0:=by rw [ByteArray.toList_eq] at ht;rw [← ByteArray.size_data,← Array.length_toList,ht];rfl
     unfold rightV
     simp [formedV,longB,hval.1.1,ht,hz]
   · have ht:=empty_list (t:=nd.vt) (by simp [hval.2])
     have hz:nd.vt.size=0:=by rw [ByteArray.toList_eq] at ht;rw [← ByteArray.size_data,← Array.length_toList,ht];rfl
     unfold rightV
     rcases hval.1.2 with e | e <;> simp [formedV,longB,hval.1.1,ht,hz,e]
   · have ht:=empty_list (t:=nd.vt) (by simp [hval.2])
     have hz:nd.vt.size=0:=by rw [ByteArray.toList_eq] at ht;rw [← ByteArray.size_data,← Array.length_toList,ht];rfl
     unfold rightV
     simp [formedV,longB,hval.1.1,ht,hz,hval.1.2]
 · repeat' split at h
   all_goals (try cases h)
   · exact fit_short _
   · exact fit_told (v.value_i64 hv _)
   · exact .err _
   · exact .of (fit_truth _)
   · exact .of (fit_truth _)
   · exact .of (fit_truth _)
   · exact .of (fit_int hv.s)
   · exact fit_told (v:=timeV v.clock) hv.c
theorem kid_fit {f:Int→Wr} {nd:Nd} (hf:∀ k ∈ nd.ks,FitW (f k)) {i:Nat} (hi:i < nd.ks.length):FitW (wkid f nd i):=by
 unfold wkid
 rw [List.getElem?_eq_getElem hi]
 exact hf _ (List.getElem_mem hi)
theorem fit_equal (op:Int) (a b:Vl):FitW (equalW op a b):=by
 unfold equalW
 split
 · exact .err _
 · exact .of (fit_truth _)
theorem fit_nodeW {f:Int→Wr} {nd:Nd} {v:Vw} (hr:nd.right=true) (hks:nd.ks.length=nd.kl) (hn:I64 nd.vn) (hv:VwOk v) (hf:∀ k ∈ nd.ks,FitW (f k)):FitW (nodeW f nd v):=by
 obtain ⟨hkl,-,-,-⟩:=right_cases hr
 unfold nodeW
 split
 · rename_i r hl
   exact fit_leaf hr hn hv hl
 · split
   · repeat' split
     all_goals first | exact .err _ | exact .of (fit_truth _)
   · split
     · repeat' split
       all_goals first | exact .err _ | exact .of (fit_truth _)
     · split
       · rename_i h23
         have h3:nd.kl=3:=by simp [kidsN,h23] at hkl;omega
         repeat' split
         · exact .err _
         · exact kid_fit hf (by omega)
         · exact kid_fit hf (by omega)
       · split
         · rename_i h33
           have h2:nd.kl=2:=by simp [kidsN,h33] at hkl;omega
           split
           · exact .err _
           · rename_i w hw
             split
             · exact .of (kid_fit hf (i:=0) (by omega) w hw)
             · exact kid_fit hf (by omega)
         · split
           · repeat' split
             all_goals first | exact .err _ | exact fit_equal _ _ _
           · split
             · exact .err _
             · rename_i l hl
               exact fit_op _ (fit_seq _ (fun r hr=>by obtain ⟨k,hk,rfl⟩:=List.mem_map.1 hr;exact hf k hk) l hl)
theorem fit_wK {ns:List Nd} {v:Vw} (hv:VwOk v) (hn:∀ nd ∈ ns,nd.ks.length=nd.kl∧I64 nd.vn):∀ (d:Nat) (r:Int),goodN ns d r→FitW (wK ns v d r)
 | 0,r,h=>h.elim
 | d+1,r,h=>by
   obtain ⟨-,nd,hnd,hr,-,hk⟩:=h
   rw [wK_at hnd]
   have hm:=hn nd (List.mem_of_getElem? hnd)
   exact fit_nodeW hr hm.1 hm.2 hv fun k hkk=>fit_wK hv hn d k (hk k hkk)
/-- A node as it may be asked: its kids are there, and its texts nil where they have no address. -/
structure NdW (w:World) (nd:Nd):Prop where
 ok:nd.ok w
 t:∃ ss,RZ w nd.sa nd.sl nd.sc ss
theorem NdW.below {w w':World} {nd:Nd} (h:NdW w nd) (hb:Below w.heap.size w w'):NdW w' nd:=⟨h.ok.below hb,by obtain ⟨ss,h⟩:=h.t;exact ⟨ss,h.below hb⟩⟩
/-- All that a working out looks at. -/
structure EnvW (w:World) (na:Option Addr) (nl nc:Nat) (ns:List Nd) (p:Pd):Prop where
 r:RS 7 Nd.cs w na nl nc ns
 n:∀ nd ∈ ns,NdW w nd
 p:p.ok w
theorem EnvW.below {w w':World} {na:Option Addr} {nl nc:Nat} {ns:List Nd} {p:Pd} (h:EnvW w na nl nc ns p) (hb:Below w.heap.size w w'):EnvW w' na nl nc ns p:=⟨h.r.below hb,fun nd hm=>(h.n nd hm).below hb,h.p.below hb⟩
abbrev WorkV (na:Option Addr) (nl nc:Nat) (p:Pd):Value:=.agg #[.slice na nl nc,.iface 72 (.agg p.cs)]
abbrev boxW (na:Option Addr) (nl nc:Nat) (p:Pd):Obj:=.cells #[.slice na nl nc,.iface 72 (.agg p.cs)] 78
/-- What the working out of a place, so deep, does. -/
def WorthAt (na:Option Addr) (nl nc:Nat) (ns:List Nd) (p:Pd) (d:Nat):Prop :=
 ∀ (w:World) (r:Int),goodN ns d r→EnvW w na nl nc ns p→Calls Tryz.prog 29 #[WorkV na nl nc p,.int .i64 r] w fun e w'=>MOut e w' w.heap.size (wK ns p.vw d r)∧Below w.heap.size w w'
/-- A bool that was sure, or a refusal on its way out. -/
def BOut (e:Ending) (r:Except Int Bool):Prop:=match r with
 | .ok b=>e=.returned (.bool b)
 | .error er=>e=refused er
theorem sure_any (na:Option Addr) (nl nc:Nat) (ns:List Nd) (p:Pd) (d:Nat) (IH:WorthAt na nl nc ns p d) (w:World) (r:Int) (hg:goodN ns d r) (hE:EnvW w na nl nc ns p) :
 Calls Tryz.prog 52 #[WorkV na nl nc p,.int .i64 r] w fun e w'=>BOut e (sureW (wK ns p.vw d r))∧Below w.heap.size w w':=by
 obtain ⟨w1,hw1⟩:∃ w1,w1=w.alloc (boxW na nl nc p):=⟨_,rfl⟩
 have g0:w1.heap[w.heap.size]?=some (boxW na nl nc p):=by rw [hw1];exact heap_alloc_new w _
 have hb1:Below w.heap.size w w1:=by rw [hw1];exact bel1 _ _
 have z1:w1.heap.size=w.heap.size+1:=by rw [hw1];simp
 have hcall:=IH w1 r hg (hE.below hb1)
 have HB1:=Lib.hid hb1
 have HC:=Lib.hid hcall
 have p0:=cell_of_row w1 _ 0 _ _ _ g0
 have p1:=cell_of_row w1 _ 1 _ _ _ g0
 simp only [List.getElem?_toArray,List.getElem?_cons_zero,List.getElem?_cons_succ] at p0 p1
 clear g0 hb1 hcall hg hE IH
 go_enter Tryz.func52,Tryz.ntmps52
 go_upto_region 1 with (fail)
 rw [← hw1]
 clear hw1
 go_wp2_with fail
 with_reducible refine HC.out.mono ?_
 rintro e w2 ⟨hm,hb2⟩
 have z2:=hb2.size
 have HB2:=Lib.hid (HB1.out.trans (hb2.mono (by omega)))
 clear hb2 p0 p1
 rcases hm.cases with ⟨x,ra,rl,rc,hr,rfl,hs⟩ | ⟨er,hr,rfl⟩
 · have HR:=Lib.hid hr
   clear hm hs hr HC
   cases h0:(x.k == 0)
   · cases h2:(x.k == 2)
     · have HS:=Lib.hid (show sureW (wK ns p.vw d r)=.error 100 by rw [HR.out];simp at h0 h2;simp [sureW,h0,h2])
       go_wp2_with (go_at_call 53;refine (refuse_any _ _).mono ?_;rintro e w' ⟨rfl,rfl⟩)
       exact ⟨rfl,by rw [HS.out];exact rfl,HB2.out.alloc (by omega) _⟩
     · have HS:=Lib.hid (show sureW (wK ns p.vw d r)=.ok (x.n == 1) by rw [HR.out];simp at h0 h2;simp [sureW,h2])
       go_wp2_with (go_at_call 53;refine (refuse_any _ _).mono ?_;rintro e w' ⟨rfl,rfl⟩)
       go_ret
       exact ⟨by rw [HS.out];exact rfl,HB2.out.alloc (by omega) _⟩
   · have HS:=Lib.hid (show sureW (wK ns p.vw d r)=.error 110 by rw [HR.out];simp at h0;simp [sureW,h0])
     go_wp2_with (go_at_call 53;refine (refuse_any _ _).mono ?_;rintro e w' ⟨rfl,rfl⟩)
     exact ⟨rfl,by rw [HS.out];exact rfl,HB2.out.alloc (by omega) _⟩
 · have HS:=Lib.hid (show sureW (wK ns p.vw d r)=.error er by rw [hr];rfl)
   clear hm hr HC
   go_wp2_with fail
   exact ⟨rfl,by rw [HS.out];exact rfl,HB2.out⟩
end Go.Proofs.YtcnckjlmldnblaaGreatDoor
