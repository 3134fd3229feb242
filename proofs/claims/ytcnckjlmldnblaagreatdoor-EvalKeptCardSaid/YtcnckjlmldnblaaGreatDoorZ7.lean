import Derived.Test.YtcnckjlmldnblaaGreatDoorZ5
import Derived.Test.YtcnckjlmldnblaaGreatDoorR18
import Derived.Test.YtcnckjlmldnblaaGreatDoorE33
import Derived.Test.YtcnckjlmldnblaaGreatDoorT1
import Derived.BigGuardPart
import Derived.IntWalk
import Derived.Handy
import Derived.OrdersHeld
import Derived.Deep.RegionHeld3
import Derived.WalkLawsBesides
import Derived.ProofKit
import Derived.OpenShut
import Derived.SliceStrings
import Derived.Deep.Slices
namespace Go.Proofs.YtcnckjlmldnblaaGreatDoor
open Go Go.RowKit
set_option maxRecDepth 100000
set_option maxHeartbeats 4000000
set_option linter.unusedVariables false
set_option linter.unusedSimpArgs false
/-- One worth that is asked, as it is handed in. -/
structure Ek where
 na:Option Addr
 nl:Nat
 nc:Nat
 ns:List Nd
 root:Int
 p:Pd
def Ek.cs (k:Ek):List Value:=[.slice k.na k.nl k.nc,.int .i64 k.root,.slice k.p.va k.p.vl k.p.vc,.slice k.p.oa k.p.ol k.p.oc,.slice k.p.ra k.p.rl k.p.rc,.int .i64 k.p.clock,.int .i64 k.p.steps]
abbrev Ek.box (k:Ek):Obj:=.cells #[.slice k.na k.nl k.nc,.int .i64 k.root,.slice k.p.va k.p.vl k.p.vc,.slice k.p.oa k.p.ol k.p.oc,.slice k.p.ra k.p.rl k.p.rc,.int .i64 k.p.clock,.int .i64 k.p.steps] 37
structure EkOk (w:World) (k:Ek):Prop where
 r:RS 7 Nd.cs w k.na k.nl k.nc k.ns
 n:∀ nd ∈ k.ns,nd.okA w
 i:I64 k.root
 p:VwArg w k.p
/-- No row that is kept lies from Z on. -/
def Fr (Z:Nat) (ls:List Value):Prop:=∀ x ∈ ls,∀ q,x.ownBlock=some q→q < Z
theorem BkI.fr {w:World} {B gb:Nat} {ls ws:List Value} {ds:List (List ByteArray)} (h:BkI w B gb ls ws ds):Fr w.heap.size ls:=by
 intro x hx q hq
 obtain ⟨lv,wv,held,hg,hB,hlv,hwv,hlw,h0,h1,hI⟩:=h
 obtain ⟨i,hi⟩:=List.getElem?_of_mem hx
 have hil:=(List.getElem?_eq_some_iff.1 hi).1
 obtain ⟨_,hv,_⟩:=hI.own i x _ _ hi (List.getElem?_eq_getElem (by have:=hI.l1;have:=hI.l2;omega)) (List.getElem?_eq_getElem (by have:=hI.l1;omega))
 exact (hv.lt q hq).2
theorem Fr.apart {Z:Nat} {ls:List Value} (h:Fr Z ls) {w:World} {e s n:Nat} {v:Value} {xs:List Value} (ho:w.ownsRow Z e s v n xs):∀ x ∈ ls,x.ownBlock=none∨x.ownBlock ≠ v.ownBlock:=by
 intro x hx
 cases hb:x.ownBlock with
 | none=>exact .inl rfl
 | some q =>
   right
   intro e
   have h1:=h x hx q hb
   have h2:=(ho.lt q e.symm).1
   omega
theorem Fr.snoc {Z:Nat} {ls:List Value} (h:Fr Z ls) {v:Value} (hv:∀ q,v.ownBlock=some q→q < Z) (k:Nat):Fr Z ((ls++[v]).drop k):=by
 intro x hx q hq
 rcases List.mem_append.1 (List.mem_of_mem_drop hx) with h1 | h1
 · exact h x h1 q hq
 · simp only [List.mem_singleton] at h1
   subst h1
   exact hv q hq
theorem Fr.mono {Z Y:Nat} {ls:List Value} (h:Fr Z ls) (hz:Z≤Y):Fr Y ls:=fun x hx q hq=>Nat.lt_of_lt_of_le (h x hx q hq) hz
theorem SO.row {w:World} {B:Nat} {X:Vl} {a:Option Addr} {l c:Nat} (h:SO w B (VA X a l c) X):w.ownsRow B 9 1 (.slice a l c) l (X.ss.flatMap Sv)∧l=X.ss.length:=by
 obtain ⟨a',l',c',e,hl,hh⟩:=h
 simp only [VA,Value.agg.injEq,Array.mk.injEq,List.cons.injEq,Value.slice.injEq,true_and,and_true] at e
 obtain ⟨rfl,rfl,rfl⟩:=e
 exact ⟨hh,hl⟩
theorem SO.below {w w':World} {B:Nat} {v:Value} {x:Vl} (h:SO w B v x) (hb:Below w.heap.size w w'):SO w' B v x:=by
 obtain ⟨a,l,c,rfl,hl,h⟩:=h
 exact ⟨a,l,c,rfl,hl,own_below h hb⟩
theorem PdOwn.keep5 {W W':World} {B:Nat} {p:Pd} (k:Keep5 W W') (h:PdOwn W B p):PdOwn W' B p :=
 ⟨k.row ⟨by decide,by decide⟩ h.v,k.row ⟨by decide,by decide⟩ h.o,k.row ⟨by decide,by decide⟩ h.r,fun b hb=>⟨by
   obtain ⟨a,l,c,e,hl,hh⟩:=(h.b b hb).1
   exact ⟨a,l,c,e,hl,hh.imp id (fun hh=>k.row ⟨by decide,by decide⟩ hh)⟩,(h.b b hb).2⟩,h.n⟩
theorem PdOwn.mono5 {W:World} {Z Y:Nat} {pp:Pd} (h:PdOwn W Z pp) (hy:Y≤Z):PdOwn W Y pp :=
 ⟨owns_mono h.v hy,owns_mono h.o hy,owns_mono h.r hy,fun b hb=>⟨(h.b b hb).1.mono hy,(h.b b hb).2⟩,h.n⟩
theorem nil_ahead (p:Pd):∀ w:World,Sem.run Tryz.prog (nilAhead 285 72 (Value.agg p.cs) "Value") w=.ok (some false) w:=fun w=>by kernel_rfl
theorem fld3 (k n:Int) (t:ByteArray) (a:Option Addr) (l c:Nat) (w:World):(Instr.field 43 (.agg #[.int .i64 k,.int .i64 n,.string t,.slice a l c]) 3).run Tryz.prog w=.ok (.slice a l c) w:=by kernel_rfl
theorem vw_len {w:World} {p:Pd} (hp:p.ok w) (nm:ByteArray):(p.vw.value nm).ss.length≤1000000:=value_len hp nm
theorem evalkept_walk (w:World) (a:Option Addr) (n c:Nat) (ks:List Ek) (hr:RS 7 Ek.cs w a n c ks) (hok:∀ k ∈ ks,EkOk w k) (t0:ResTab w 0) (t1:ResTab w 1) (h1:1 < w.heap.size) :
 Calls Tryz.prog 4 #[.slice a n c] w fun e w'=>e=.returned (.bool true)∧Below w.heap.size w w':=by
 have hlen:=hr.1
 have hn48:=hr.2.2.1
 have HR:=Lib.hid hr
 have HOK:=Lib.hid hok
 have HT0:=Lib.hid (fun (W:World) (hb:Below w.heap.size w W)=>(t0.below hb (by omega) (by omega):ResTab W 0))
 have HT1:=Lib.hid (fun (W:World) (hb:Below w.heap.size w W)=>(t1.below hb h1 h1:ResTab W 1))
 obtain ⟨w1,hw1⟩:∃ w1,w1=w.alloc (.cells #[.slice none 0 0,.slice none 0 0,.int .i64 0,.bool false] 35):=⟨_,rfl⟩
 have hbk1:BkI w1 w.heap.size w.heap.size [] [] []:=by rw [hw1];exact bk_new w
 have hb1:Below w.heap.size w w1:=by rw [hw1];exact (Below.refl _ _).alloc (Nat.le_refl _) _
 have HW1:=Lib.hid hw1.symm
 have HBK1:=Lib.hid hbk1
 have HB1:=Lib.hid hb1
 clear hr hok t0 t1 hw1 hbk1 hb1
 go_enter Tryz.func4,Tryz.ntmps4
 go_wp2_with fail
 rw [HW1.out]
 go_loopw [4] (fun x wr=>∃ (i:Nat) (ls ws:List Value) (ds:List (List ByteArray)),i≤40∧i≤n∧x=.int .i64 (i:Int)∧Below w.heap.size w wr∧BkI wr w.heap.size w.heap.size ls ws ds∧ds.length≤4000) (fun x _=>40 - (intOf x).toNat)
 case atStart=>exact ⟨0,[],[],[],by omega,by omega,rfl,HB1.out,HBK1.out,by simp⟩
 case round =>
  obtain ⟨i,ls,ws,ds,hi40,hin,rfl,hb,hbk,hds⟩:=hrel
  obtain ⟨w0,rfl⟩:∃ w0:World,w0=wr:=⟨_,rfl⟩
  have HB:=Lib.hid hb
  have HBK:=Lib.hid hbk
  have zr:=hb.size
  have HDS:=Lib.hid hds
  have HI40:=Lib.hid hi40
  clear hb hbk hds hi40
  by_cases hlt:i < n
  · have hltI:(i:Int) < (n:Int):=by omega
    by_cases h40:i < 40
    · have h40I:((i:Int) < 40)=True:=by simp;omega
      obtain ⟨xb,xo,k,rfl,hk,hcx⟩:=HR.out.at hlt
      have x0:=(HB.out.cell (p:=⟨xb,xo+i * 7+0,none⟩) (block_lt_of_cell (hcx 0 _ rfl))).trans (hcx 0 _ rfl)
      have x1:=(HB.out.cell (p:=⟨xb,xo+i * 7+1,none⟩) (block_lt_of_cell (hcx 1 _ rfl))).trans (hcx 1 _ rfl)
      have x2:=(HB.out.cell (p:=⟨xb,xo+i * 7+2,none⟩) (block_lt_of_cell (hcx 2 _ rfl))).trans (hcx 2 _ rfl)
      have x3:=(HB.out.cell (p:=⟨xb,xo+i * 7+3,none⟩) (block_lt_of_cell (hcx 3 _ rfl))).trans (hcx 3 _ rfl)
      have x4:=(HB.out.cell (p:=⟨xb,xo+i * 7+4,none⟩) (block_lt_of_cell (hcx 4 _ rfl))).trans (hcx 4 _ rfl)
      have x5:=(HB.out.cell (p:=⟨xb,xo+i * 7+5,none⟩) (block_lt_of_cell (hcx 5 _ rfl))).trans (hcx 5 _ rfl)
      have x6:=(HB.out.cell (p:=⟨xb,xo+i * 7+6,none⟩) (block_lt_of_cell (hcx 6 _ rfl))).trans (hcx 6 _ rfl)
      simp only [Nat.add_zero] at x0
      have HAK:=Lib.hid (HOK.out k (List.mem_of_getElem? hk))
      have H40:=Lib.hid h40
      clear hk hcx h40
      go_upto_region 6 with (fail)
      obtain ⟨w2,hw2⟩:∃ w2,w2=w0.alloc k.box:=⟨_,rfl⟩
      have g2:w2.heap[w0.heap.size]?=some k.box:=by rw [hw2];exact heap_alloc_new w0 _
      have hb2:Below w0.heap.size w0 w2:=by rw [hw2];exact bel1 _ _
      have z2:w0.heap.size < w2.heap.size:=by rw [hw2];simp
      rw [← hw2]
      obtain ⟨go,hgo⟩:∃ go,go=w0.heap.size:=⟨_,rfl⟩
      rw [← hgo] at g2 ⊢
      have HGO:=Lib.hid hgo
      have G2:=Lib.hid g2
      have zgo:w.heap.size≤go:=by omega
      have zg2:go < w2.heap.size:=by omega
      have HB2:=Lib.hid (HB.out.trans (hb2.mono zr))
      have HBK2:=Lib.hid (HBK.out.below hb2)
      clear hw2 hb2 hgo x0 x1 x2 x3 x4 x5 x6
      have x0:=cell_of_row _ _ 0 _ _ _ g2
      have x1:=cell_of_row _ _ 1 _ _ _ g2
      have x2:=cell_of_row _ _ 2 _ _ _ g2
      have x3:=cell_of_row _ _ 3 _ _ _ g2
      have x4:=cell_of_row _ _ 4 _ _ _ g2
      have x5:=cell_of_row _ _ 5 _ _ _ g2
      have x6:=cell_of_row _ _ 6 _ _ _ g2
      simp only [List.getElem?_toArray,List.getElem?_cons_zero,List.getElem?_cons_succ] at x0 x1 x2 x3 x4 x5 x6
      clear g2
      go_wp2_with fail
      refine (great_any w2 k.na k.nl k.nc k.ns (HAK.out.r.below HB2.out) (fun nd h=>⟨by have:=(HAK.out.n nd h).1.ok.1.2.1;have:=(HAK.out.n nd h).1.ok.1.2.2.1;omega,by have:=(HAK.out.n nd h).2;omega⟩) k.p (HAK.out.p.below HB2.out)).mono ?_
      rintro e w3 ⟨hg,hb3⟩
      have z3:=hb3.size
      have HB3:=Lib.hid (HB2.out.trans (hb3.mono HB2.out.size))
      have HBK3:=Lib.hid (HBK2.out.below hb3)
      have G3:=Lib.hid ((hb3.block _ zg2).trans G2.out)
      obtain ⟨b1,rfl,hs1⟩:=hg.cases
      clear hb3 hg x0 x1 x2 x3 x4 x5 x6
      cases b1
      rotate_left
      · go_wp2_with fail
        go_roundw
        case rel=>exact ⟨i+1,ls,ws,ds,by have:=H40.out;omega,by omega,by go_num,HB3.out,HBK3.out,HDS.out⟩
        case measure=>have:=H40.out;simp [intOf] <;> omega
      · have HSM:=Lib.hid (hs1 rfl)
        clear hs1
        have x0:=cell_of_row _ _ 0 _ _ _ G3.out
        have x1:=cell_of_row _ _ 1 _ _ _ G3.out
        have x2:=cell_of_row _ _ 2 _ _ _ G3.out
        have x3:=cell_of_row _ _ 3 _ _ _ G3.out
        have x4:=cell_of_row _ _ 4 _ _ _ G3.out
        have x5:=cell_of_row _ _ 5 _ _ _ G3.out
        have x6:=cell_of_row _ _ 6 _ _ _ G3.out
        simp only [List.getElem?_toArray,List.getElem?_cons_zero,List.getElem?_cons_succ] at x0 x1 x2 x3 x4 x5 x6
        go_wp2_with fail
        refine (toldR_any w3 k.na k.nl k.nc k.ns k.p (HAK.out.r.below HB3.out) (fun nd h=>(HAK.out.n nd h).1.below HB3.out) (HAK.out.p.below HB3.out) HSM.out (HT0.out w3 HB3.out) (HT1.out w3 HB3.out) (by have:=HB3.out.size;omega) k.root HAK.out.i).mono ?_
        rintro e w4 ⟨rfl,hb4⟩
        have HB4:=Lib.hid (HB3.out.trans (hb4.mono HB3.out.size))
        have HBK4:=Lib.hid (HBK3.out.below hb4)
        have G4:=Lib.hid ((hb4.block _ (by omega)).trans G3.out)
        have z4:=hb4.size
        clear hb4 x0 x1 x2 x3 x4 x5 x6
        have x0:=cell_of_row _ _ 0 _ _ _ G4.out
        have x1:=cell_of_row _ _ 1 _ _ _ G4.out
        have x2:=cell_of_row _ _ 2 _ _ _ G4.out
        have x3:=cell_of_row _ _ 3 _ _ _ G4.out
        have x4:=cell_of_row _ _ 4 _ _ _ G4.out
        have x5:=cell_of_row _ _ 5 _ _ _ G4.out
        have x6:=cell_of_row _ _ 6 _ _ _ G4.out
        simp only [List.getElem?_toArray,List.getElem?_cons_zero,List.getElem?_cons_succ] at x0 x1 x2 x3 x4 x5 x6
        go_wp2_with fail
        refine (again_any w4 k.na k.nl k.nc k.ns k.p (HAK.out.r.below HB4.out) (fun nd h=>(HAK.out.n nd h).1.below HB4.out) (HAK.out.p.below HB4.out) HSM.out (HT0.out w4 HB4.out) (HT1.out w4 HB4.out) (by have:=HB4.out.size;omega) k.root HAK.out.i).mono ?_
        rintro e w5 ⟨rfl,hb5⟩
        have HB5:=Lib.hid (HB4.out.trans (hb5.mono HB4.out.size))
        have HBK5:=Lib.hid (HBK4.out.below hb5)
        have G5:=Lib.hid ((hb5.block _ (by omega)).trans G4.out)
        have z5:=hb5.size
        have HPA:=Lib.hid (HAK.out.p.below HB5.out)
        have hvl:k.p.vl≤300:=by have:=HSM.out.2.2.1;omega
        have hol:k.p.ol≤300:=by have:=HSM.out.2.2.1;omega
        have hrl:k.p.rl≤300:=by have:=HSM.out.2.2.1;omega
        clear hb5 x0 x1 x2 x3 x4 x5 x6
        have x0:=cell_of_row _ _ 0 _ _ _ G5.out
        have x1:=cell_of_row _ _ 1 _ _ _ G5.out
        have x2:=cell_of_row _ _ 2 _ _ _ G5.out
        have x3:=cell_of_row _ _ 3 _ _ _ G5.out
        have x4:=cell_of_row _ _ 4 _ _ _ G5.out
        have x5:=cell_of_row _ _ 5 _ _ _ G5.out
        have x6:=cell_of_row _ _ 6 _ _ _ G5.out
        simp only [List.getElem?_toArray,List.getElem?_cons_zero,List.getElem?_cons_succ] at x0 x1 x2 x3 x4 x5 x6
        go_wp2_with fail
        refine (plain_any w5 k.p.va k.p.vl k.p.vc k.p.bs HPA.out.v HPA.out.vz (fun b hb=>⟨(HPA.out.b b hb).1,(HPA.out.b b hb).2.1,by have:=HSM.out.2.2.2 b hb;omega⟩) k.p.oa k.p.ol k.p.oc k.p.os HPA.out.o k.p.ra k.p.rl k.p.rc k.p.rs HPA.out.r (by omega) (by omega) (by omega) k.p.clock k.p.steps).mono ?_
        rintro e w6 ⟨⟨pp,rfl,hpo,hpv⟩,hb6⟩
        have z6:=hb6.size
        have hvw:VwOk k.p.vw:=⟨fun q hq=>by obtain ⟨b,hb,rfl⟩:=List.mem_map.1 hq;exact (HPA.out.b b hb).2.1,HPA.out.c,HPA.out.s⟩
        have HPW:=Lib.hid (show VwOk pp.vw by rw [show pp.vw=k.p.vw from hpv];exact hvw)
        have HB6:=Lib.hid (HB5.out.trans (hb6.mono HB5.out.size))
        have HBK6:=Lib.hid (HBK5.out.below hb6)
        have HFR6:=Lib.hid (HBK5.out.below hb6).fr
        have HPO6:=Lib.hid (hpo.mono5 HB5.out.size:PdOwn w6 w.heap.size pp)
        have G6:=Lib.hid ((hb6.block _ (by omega)).trans G5.out)
        have HNN:=Lib.hid (show ∀ x ∈ k.ns,x.ks.length=x.kl∧I64 x.vn from fun x hx=>⟨(HAK.out.n x hx).1.ok.1.1,(HAK.out.n x hx).1.ok.2.2⟩)
        have HUK:=Lib.hid (show ∀ (i:Nat) (nd:Nd),(i:Int)≤k.root→k.ns[i]?=some nd→nd.kl≤1000000 from fun i nd _ h=>by have:=(HSM.out.2.1 nd (List.mem_of_getElem? h)).1;omega)
        obtain ⟨r,hrr⟩:∃ r,r=worthR k.ns k.root pp.vw:=⟨_,rfl⟩
        obtain ⟨X,hX⟩:∃ X,X=valOf r:=⟨_,rfl⟩
        obtain ⟨E,hE⟩:∃ E,E=erOf r:=⟨_,rfl⟩
        obtain ⟨L,hL⟩:∃ L,L=X.ss.length:=⟨_,rfl⟩
        have hL64:L≤64:=by
         rw [hL,hX,hrr]
         exact val_small HPW.out HNN.out (fun nd h=>by have:=(HSM.out.2.1 nd h).1;omega) k.root
        have HRR:=Lib.hid hrr
        have HX:=Lib.hid hX
        have HE:=Lib.hid hE
        have HL:=Lib.hid hL
        clear hb6 hpo hpv hvw hrr hX hE hL x0 x1 x2 x3 x4 x5 x6
        have x0:=cell_of_row _ _ 0 _ _ _ G6.out
        have x1:=cell_of_row _ _ 1 _ _ _ G6.out
        have x2:=cell_of_row _ _ 2 _ _ _ G6.out
        have x3:=cell_of_row _ _ 3 _ _ _ G6.out
        have x4:=cell_of_row _ _ 4 _ _ _ G6.out
        have x5:=cell_of_row _ _ 5 _ _ _ G6.out
        have x6:=cell_of_row _ _ 6 _ _ _ G6.out
        simp only [List.getElem?_toArray,List.getElem?_cons_zero,List.getElem?_cons_succ] at x0 x1 x2 x3 x4 x5 x6
        go_upto_region 11 with (fail)
        refine (worthf_any w6 _ k.nl k.nc k.ns pp ⟨HAK.out.r.below HB6.out,fun nd h=>(HAK.out.n nd h).1.below HB6.out,HPO6.out.ok⟩ HPW.out HNN.out (HT1.out w6 HB6.out) (by have:=HB6.out.size;omega) k.root HAK.out.i HUK.out).mono ?_
        rintro e w7 ⟨hw,hb7⟩
        rw [← HRR.out] at hw
        obtain ⟨aw,cw,rfl,hso⟩:=hw.is HX.out HE.out HL.out
        have HSO7:=Lib.hid hso
        have z7:=hb7.size
        have HB67:=Lib.hid hb7
        clear hw hso hb7 x0 x1 x2 x3 x4 x5 x6
        go_upto_region 11 with (fail)
        obtain ⟨w8,hw8⟩:∃ w8,w8=w7.alloc (.cells #[.int .i64 X.k,.int .i64 X.n,.string X.t,.slice aw L cw] 43):=⟨_,rfl⟩
        have g8:w8.heap[w7.heap.size]?=some (.cells #[.int .i64 X.k,.int .i64 X.n,.string X.t,.slice aw L cw] 43):=by rw [hw8];exact heap_alloc_new w7 _
        have hb8:Below w7.heap.size w7 w8:=by rw [hw8];exact bel1 _ _
        have z8:w7.heap.size < w8.heap.size:=by rw [hw8];simp
        rw [← hw8]
        obtain ⟨gx,hgx⟩:∃ gx,gx=w7.heap.size:=⟨_,rfl⟩
        rw [← hgx] at g8 ⊢
        have zgx:gx < w8.heap.size:=by omega
        have HGX8:=Lib.hid g8
        have HB68:=Lib.hid (HB67.out.trans (hb8.mono z7))
        have HSO8:=Lib.hid (HSO7.out.below hb8)
        have HFA:=Lib.hid (show ∀ q,(Value.slice aw L cw).ownBlock=some q→q < w8.heap.size from fun q hq=>by have:=(HSO7.out.row.1.lt q hq).2;omega)
        have G8:=Lib.hid ((HB68.out.block _ (by omega)).trans G6.out)
        have HB8:=Lib.hid (HB6.out.trans (HB68.out.mono HB6.out.size))
        have HBK8:=Lib.hid (HBK6.out.below HB68.out)
        have HPO8:=Lib.hid (HPO6.out.below HB68.out)
        clear hw8 hb8 g8 hgx HSO7
        have x0:=cell_of_row _ _ 0 _ _ _ G8.out
        have x1:=cell_of_row _ _ 1 _ _ _ G8.out
        have x2:=cell_of_row _ _ 2 _ _ _ G8.out
        have x3:=cell_of_row _ _ 3 _ _ _ G8.out
        have x4:=cell_of_row _ _ 4 _ _ _ G8.out
        have x5:=cell_of_row _ _ 5 _ _ _ G8.out
        have x6:=cell_of_row _ _ 6 _ _ _ G8.out
        simp only [List.getElem?_toArray,List.getElem?_cons_zero,List.getElem?_cons_succ] at x0 x1 x2 x3 x4 x5 x6
        go_upto_region 12 with (fail)
        refine (worthf_any w8 _ k.nl k.nc k.ns pp ⟨HAK.out.r.below HB8.out,fun nd h=>(HAK.out.n nd h).1.below HB8.out,HPO8.out.ok⟩ HPW.out HNN.out (HT1.out w8 HB8.out) (by have:=HB8.out.size;omega) k.root HAK.out.i HUK.out).mono ?_
        rintro e w9 ⟨hw,hb9⟩
        rw [← HRR.out] at hw
        obtain ⟨av,cv,rfl,hso⟩:=hw.is HX.out HE.out HL.out
        have HSO9:=Lib.hid hso
        have z9:=hb9.size
        have HB89:=Lib.hid hb9
        clear hw hso hb9 x0 x1 x2 x3 x4 x5 x6
        go_upto_region 12 with (fail)
        obtain ⟨w10,hw10⟩:∃ w10,w10=w9.alloc (.cells #[.int .i64 X.k,.int .i64 X.n,.string X.t,.slice av L cv] 43):=⟨_,rfl⟩
        have g10:w10.heap[w9.heap.size]?=some (.cells #[.int .i64 X.k,.int .i64 X.n,.string X.t,.slice av L cv] 43):=by rw [hw10];exact heap_alloc_new w9 _
        have hb10:Below w9.heap.size w9 w10:=by rw [hw10];exact bel1 _ _
        have z10:w9.heap.size < w10.heap.size:=by rw [hw10];simp
        rw [← hw10]
        obtain ⟨gy,hgy⟩:∃ gy,gy=w9.heap.size:=⟨_,rfl⟩
        rw [← hgy] at g10 ⊢
        have HGY10:=Lib.hid g10
        have HB810:=Lib.hid (HB89.out.trans (hb10.mono z9))
        have HSV10:=Lib.hid (HSO9.out.below hb10)
        have HSO10:=Lib.hid (HSO8.out.below HB810.out)
        have HGX10:=Lib.hid ((HB810.out.block gx zgx).trans HGX8.out)
        have G10:=Lib.hid ((HB810.out.block _ (by omega)).trans G8.out)
        have HB10:=Lib.hid (HB8.out.trans (HB810.out.mono HB8.out.size))
        have HBK10:=Lib.hid (HBK8.out.below HB810.out)
        have HPO10:=Lib.hid (HPO8.out.below HB810.out)
        clear hw10 hb10 g10 hgy HSO9
        obtain ⟨x0,x1,x2,x3,-⟩:=box4 HGX10.out
        go_upto_region 13 with (fail)
        refine (keep_any w10 w.heap.size w.heap.size ls ws ds HBK10.out HDS.out aw L cw X.ss (owns_mono HSO10.out.row.1 HB6.out.size) (by omega) (HFR6.out.apart HSO10.out.row.1)).mono ?_
        rintro e w11 ⟨rfl,⟨u,k1,-,hbk,hlen1⟩,hb11,hk11⟩
        have HFR:=Lib.hid ((HFR6.out.mono (show w6.heap.size≤w8.heap.size by omega)).snoc HFA.out k1)
        have HBK11:=Lib.hid hbk
        have HL11:=Lib.hid hlen1
        have HB11:=Lib.hid (HB10.out.trans hb11)
        have HGY11:=Lib.hid ((hk11 gy _ 43 _ ⟨by decide,by decide⟩ HGY10.out).trans HGY10.out)
        have G11:=Lib.hid ((hk11 go _ 37 _ ⟨by decide,by decide⟩ G10.out).trans G10.out)
        have HPO11:=Lib.hid (HPO10.out.keep5 hk11)
        have HSV11:=Lib.hid (show w11.ownsRow w8.heap.size 9 1 (.slice av L cv) L (X.ss.flatMap Sv) from hk11.row ⟨by decide,by decide⟩ HSV10.out.row.1)
        clear hbk hlen1 hb11 hk11 x0 x1 x2 x3
        generalize (ls++[Value.slice aw L cw]).drop k1=ls1 at *
        generalize (ws++[u]).drop k1=ws1 at *
        generalize (ds++[X.ss]).drop k1=ds1 at *
        obtain ⟨x0,x1,x2,x3,-⟩:=box4 HGY11.out
        go_upto_region 14 with (fail)
        refine (keep_any w11 w.heap.size w.heap.size ls1 ws1 ds1 HBK11.out HL11.out av L cv X.ss (owns_mono HSV11.out HB8.out.size) (by omega) (HFR.out.apart HSV11.out)).mono ?_
        rintro e w12 ⟨rfl,⟨u2,k2,-,hbk,hlen2⟩,hb12,hk12⟩
        have HBK12:=Lib.hid hbk
        have HL12:=Lib.hid hlen2
        have HB12:=Lib.hid (HB11.out.trans hb12)
        have G12:=Lib.hid ((hk12 go _ 37 _ ⟨by decide,by decide⟩ G11.out).trans G11.out)
        have HPO12:=Lib.hid (HPO11.out.keep5 hk12)
        clear hbk hlen2 hb12 hk12 x0 x1 x2 x3
        generalize (ls1++[Value.slice av L cv]).drop k2=ls2 at *
        generalize (ws1++[u2]).drop k2=ws2 at *
        generalize (ds1++[X.ss]).drop k2=ds2 at *
        go_wp2_with fail
        go_loopw [11] (fun x wr=>∃ (t:Nat) (ls ws:List Value) (ds:List (List ByteArray)),t≤k.p.vl∧x=.int .i64 (t:Int)∧Below w.heap.size w wr∧BkI wr w.heap.size w.heap.size ls ws ds∧ds.length≤4000∧PdOwn wr w.heap.size pp∧wr.heap[go]?=some k.box) (fun x _=>k.p.vl - (intOf x).toNat)
        case atStart=>exact ⟨0,ls2,ws2,ds2,by omega,rfl,HB12.out,HBK12.out,HL12.out,HPO12.out,G12.out⟩
        case round =>
         obtain ⟨t,ls3,ws3,ds3,ht,rfl,hbj,hbkj,hlj,hpj,hgj⟩:=hrel
         have HBj:=Lib.hid hbj
         have HKj:=Lib.hid hbkj
         have HLj:=Lib.hid hlj
         have HPj:=Lib.hid hpj
         have HGj:=Lib.hid hgj
         have zj:=hbj.size
         have y2:=cell_of_row _ _ 2 _ _ _ hgj
         simp only [List.getElem?_toArray,List.getElem?_cons_zero,List.getElem?_cons_succ] at y2
         clear hbj hbkj hlj hpj hgj
         by_cases htl:t < k.p.vl
         · have htI:(t:Int) < (k.p.vl:Int):=by omega
           obtain ⟨vb,vo,bd,he,hbd,hcl⟩:=HAK.out.p.v.at htl
           have n0:=(HBj.out.cell (p:=⟨vb,vo+t * 5+0,none⟩) (block_lt_of_cell (hcl 0 _ rfl))).trans (hcl 0 _ rfl)
           simp only [Nat.add_zero] at n0
           rw [he] at y2
           have hna:=nil_ahead pp
           have HVB:=Lib.hid (block_lt_of_cell (hcl 0 _ rfl))
           clear hcl he hbd
           go_wp2_with fail
           refine wp_region_held_drew (S:=(fun w'=>w'.cell? ⟨go,2,none⟩=some (.slice (some ⟨vb,vo,none⟩) k.p.vl k.p.vc)∧w'.cell? ⟨vb,vo+t * 5,none⟩=some (.string bd.nm))) (by kernel_rfl) ⟨y2,n0⟩ (fun hHeld=>?_)
           obtain ⟨wd,hwd⟩:∃ wd,wd=wr.drew:=⟨_,rfl⟩
           rw [← hwd] at hHeld ⊢
           have HBd:=Lib.hid (show Below w.heap.size w wd by rw [hwd];exact HBj.out.drew)
           have HKd:=Lib.hid (show BkI wd w.heap.size w.heap.size ls3 ws3 ds3 by rw [hwd];exact HKj.out.oth (fun _=>rfl))
           have HPd:=Lib.hid (show PdOwn wd w.heap.size pp by rw [hwd];exact HPj.out.below (Below.refl _ _).drew)
           have HGd:=Lib.hid (show wd.heap[go]?=some k.box by rw [hwd];exact HGj.out)
           have zd:w.heap.size≤wd.heap.size:=by rw [hwd];exact zj
           clear hwd HBj HKj HPj HGj
           refine tkI (i:=0) (v:=?_) rfl ?_ ?_
           rotate_left
           · intro w hSw;(try dsimp only at hSw);go_simp;try with_reducible rfl
           (try simp only [Act.put,List.setIfInBounds_toArray,List.set_cons_zero,List.set_cons_succ,List.getElem_toArray,List.getElem_cons_succ,List.getElem_cons_zero])
           refine tkI (i:=1) (v:=?_) rfl ?_ ?_
           rotate_left
           · intro w hSw;(try dsimp only at hSw);go_simp;try with_reducible rfl
           (try simp only [Act.put,List.setIfInBounds_toArray,List.set_cons_zero,List.set_cons_succ,List.getElem_toArray,List.getElem_cons_succ,List.getElem_cons_zero])
           refine tkI (i:=2) (v:=?_) rfl ?_ ?_
           rotate_left
           · intro w hSw;(try dsimp only at hSw);go_simp;try with_reducible rfl
           (try simp only [Act.put,List.setIfInBounds_toArray,List.set_cons_zero,List.set_cons_succ,List.getElem_toArray,List.getElem_cons_succ,List.getElem_cons_zero])
           refine tkI (i:=3) (v:=?_) rfl ?_ ?_
           rotate_left
           · intro w hSw;(try dsimp only at hSw);go_simp;try with_reducible rfl
           (try simp only [Act.put,List.setIfInBounds_toArray,List.set_cons_zero,List.set_cons_succ,List.getElem_toArray,List.getElem_cons_succ,List.getElem_cons_zero])
           refine tkI (i:=4) (v:=?_) rfl ?_ ?_
           rotate_left
           · intro w hSw;(try dsimp only at hSw);go_simp;try with_reducible rfl
           (try simp only [Act.put,List.setIfInBounds_toArray,List.set_cons_zero,List.set_cons_succ,List.getElem_toArray,List.getElem_cons_succ,List.getElem_cons_zero])
           refine tkI (i:=5) (v:=?_) rfl ?_ ?_
           rotate_left
           · intro w hSw;(try dsimp only at hSw);go_simp;try with_reducible rfl
           (try simp only [Act.put,List.setIfInBounds_toArray,List.set_cons_zero,List.set_cons_succ,List.getElem_toArray,List.getElem_cons_succ,List.getElem_cons_zero])
           refine tkI (i:=6) (v:=?_) rfl ?_ ?_
           rotate_left
           · intro w hSw;(try dsimp only at hSw);go_simp;try with_reducible rfl
           (try simp only [Act.put,List.setIfInBounds_toArray,List.set_cons_zero,List.set_cons_succ,List.getElem_toArray,List.getElem_cons_succ,List.getElem_cons_zero])
           refine tkI (i:=7) (v:=?_) rfl ?_ ?_
           rotate_left
           · intro w hSw;(try dsimp only at hSw);go_simp;try with_reducible rfl
           (try simp only [Act.put,List.setIfInBounds_toArray,List.set_cons_zero,List.set_cons_succ,List.getElem_toArray,List.getElem_cons_succ,List.getElem_cons_zero])
           refine tkI (i:=8) (v:=?_) rfl ?_ ?_
           rotate_left
           · intro w hSw;(try dsimp only at hSw);go_simp;try with_reducible rfl
           (try simp only [Act.put,List.setIfInBounds_toArray,List.set_cons_zero,List.set_cons_succ,List.getElem_toArray,List.getElem_cons_succ,List.getElem_cons_zero])
           refine tkI (i:=9) (v:=?_) rfl ?_ ?_
           rotate_left
           · intro w hSw;(try dsimp only at hSw);go_simp;try with_reducible rfl
           (try simp only [Act.put,List.setIfInBounds_toArray,List.set_cons_zero,List.set_cons_succ,List.getElem_toArray,List.getElem_cons_succ,List.getElem_cons_zero])
           refine tkI (i:=10) (v:=?_) rfl ?_ ?_
           rotate_left
           · intro w hSw;(try dsimp only at hSw);go_simp;try with_reducible rfl
           (try simp only [Act.put,List.setIfInBounds_toArray,List.set_cons_zero,List.set_cons_succ,List.getElem_toArray,List.getElem_cons_succ,List.getElem_cons_zero])
           refine tkI (i:=11) (v:=?_) rfl ?_ ?_
           rotate_left
           · intro w hSw;(try dsimp only at hSw);go_simp;try with_reducible rfl
           (try simp only [Act.put,List.setIfInBounds_toArray,List.set_cons_zero,List.set_cons_succ,List.getElem_toArray,List.getElem_cons_succ,List.getElem_cons_zero])
           refine wpAnyH_ready (rs:=[12]) (by kernel_rfl) (by simp) ?_
           refine AllReadyH.cons (o:=_) rfl (fun K hK=>?_) AllReadyH.nil
           go_simp
           refine (value_any wd pp HPd.out.ok bd.nm).mono ?_
           rintro e y1 ⟨⟨ay,ly,cy,rfl,hso⟩,hb⟩
           have HSO:=Lib.hid hso
           have HBy:=Lib.hid (HBd.out.trans (hb.mono zd))
           have HKy:=Lib.hid (HKd.out.below hb)
           have HFy:=Lib.hid HKd.out.fr
           have HPy:=Lib.hid (HPd.out.below hb)
           have zgd:=(Array.getElem?_eq_some_iff.1 HGd.out).1
           have HGy:=Lib.hid ((hb.block go zgd).trans HGd.out)
           refine hK.out _ _ ⟨keepb hb hHeld.1,keepb hb hHeld.2⟩ (fun hHeld=>?_)
           clear hK K hb hso HGd zgd
           (try simp only [Act.put,List.setIfInBounds_toArray,List.set_cons_zero,List.set_cons_succ,List.getElem_toArray,List.getElem_cons_succ,List.getElem_cons_zero])
           refine tkI (i:=13) (v:=.slice ay ly cy) rfl ?_ ?_
           · intro w hSw;have hf:=fld3 (pp.vw.value bd.nm).k (pp.vw.value bd.nm).n (pp.vw.value bd.nm).t ay ly cy w;clear hSw;go_simp;try with_reducible rfl
           (try simp only [Act.put,List.setIfInBounds_toArray,List.set_cons_zero,List.set_cons_succ,List.getElem_toArray,List.getElem_cons_succ,List.getElem_cons_zero])
           refine wpAnyH_ready (rs:=[14]) (by kernel_rfl) (by simp) ?_
           refine AllReadyH.cons (o:=_) rfl (fun K hK=>?_) AllReadyH.nil
           go_simp
           have HRW:=Lib.hid HSO.out.row
           refine (keep_any y1 w.heap.size w.heap.size ls3 ws3 ds3 HKy.out HLj.out ay ly cy (pp.vw.value bd.nm).ss (owns_mono HRW.out.1 zd) (by have h:=HRW.out.2;have:=vw_len HPd.out.ok bd.nm;omega) (HFy.out.apart HRW.out.1)).mono ?_
           rintro e y2' ⟨rfl,⟨u,kk,-,hbk,hlen⟩,hb,hk⟩
           have HBz:=Lib.hid (HBy.out.trans hb)
           have HKz:=Lib.hid hbk
           have HLz:=Lib.hid hlen
           have HPz:=Lib.hid (HPy.out.keep5 hk)
           have HGz:=Lib.hid ((hk go _ 37 _ ⟨by decide,by decide⟩ HGy.out).trans HGy.out)
           have hs1:=(World.cell?_of_block (a:=⟨go,2,none⟩) (hk go _ 37 _ ⟨by decide,by decide⟩ HGy.out)).trans hHeld.1
           refine hK.out _ _ ⟨hs1,(hb.cell (p:=⟨vb,vo+t * 5,none⟩) HVB.out).trans hHeld.2⟩ (fun hHeld=>?_)
           clear hK K hb hbk hlen hk hs1
           (try simp only [Act.put,List.setIfInBounds_toArray,List.set_cons_zero,List.set_cons_succ,List.getElem_toArray,List.getElem_cons_succ,List.getElem_cons_zero])
           refine wpAnyH_done (by kernel_rfl) ?_ _
           clear hHeld
           go_wp2_with fail
           go_roundw
           case rel=>exact ⟨t+1,_,_,_,by omega,by go_num,HBz.out,HKz.out,HLz.out,HPz.out,HGz.out⟩
           case measure=>simp [intOf] <;> omega
         · have htI:¬ (t:Int) < (k.p.vl:Int):=by omega
           go_wp2_with fail
           go_roundw
           case rel=>exact ⟨i+1,ls3,ws3,ds3,by have:=H40.out;omega,by omega,by go_num,HBj.out,HKj.out,HLj.out⟩
           case measure=>have:=H40.out;simp [intOf] <;> omega
    · have h40I:((i:Int) < 40)=False:=by simp;omega
      clear h40
      go_wp2_with fail
      with_reducible refine (apart_any w0 w.heap.size w.heap.size ls ws ds HBK.out (by have:=HDS.out;omega) zr).mono ?_
      rintro e w2 ⟨rfl,hb2⟩
      have HB2:=Lib.hid (HB.out.trans hb2)
      clear hb2
      go_wp2_with fail
      with_reducible refine (known_any w2 (HT1.out w2 HB2.out) (by have:=HB2.out.size;omega)).mono ?_
      rintro e w3 ⟨rfl,hb3⟩
      have HB3:=Lib.hid (HB2.out.trans (hb3.mono HB2.out.size))
      clear hb3
      go_wp2_with fail
      go_ret
      exact ⟨rfl,HB3.out⟩
  · have hltI:¬ (i:Int) < (n:Int):=by omega
    go_wp2_with fail
    with_reducible refine (apart_any w0 w.heap.size w.heap.size ls ws ds HBK.out (by have:=HDS.out;omega) zr).mono ?_
    rintro e w2 ⟨rfl,hb2⟩
    have HB2:=Lib.hid (HB.out.trans hb2)
    clear hb2
    go_wp2_with fail
    with_reducible refine (known_any w2 (HT1.out w2 HB2.out) (by have:=HB2.out.size;omega)).mono ?_
    rintro e w3 ⟨rfl,hb3⟩
    have HB3:=Lib.hid (HB2.out.trans (hb3.mono HB2.out.size))
    clear hb3
    go_wp2_with fail
    go_ret
    exact ⟨rfl,HB3.out⟩
open Go.ChangeShapes Go.WideShapes Go.ChangeAt
theorem l3 {α:Type} {l:List α} (h:l.length=3):∃ a b c,l=[a,b,c]:=by
 match l,h with
 | [a,b,c],_=>exact ⟨a,b,c,rfl⟩
theorem c37:Tryz.prog.cellsOf 37=7:=by kernel_rfl
theorem c26:Tryz.prog.cellsOf 26=5:=by kernel_rfl
theorem c22:Tryz.prog.cellsOf 22=1:=by kernel_rfl
theorem by37:Tryz.prog.bytesOf 37=120:=by kernel_rfl
section
variable {H : Type} {enc : TypeId × Value → H} {W : World} {fuel : Nat}
theorem open_viewC {cs:List Value} {x:DataW H × List MemPlace} (h:DataW.trod enc Tryz.prog W 0 (fun _=>true) true fuel 26 cs=some x) (hl:cs.length=5) (hw:∀ n ∈ x.1.weights Tryz.prog 26,n≤reachBytes) :
 ∃ q:Pd,cs=[.slice q.va q.vl q.vc,.slice q.oa q.ol q.oc,.slice q.ra q.rl q.rc,.int .i64 q.clock,.int .i64 q.steps]∧VwArg W q:=by
 obtain ⟨ys,n',-,rfl,-,hyl,hg⟩:=DataW.trod_struct Tryz.underlying26 h
 obtain ⟨v0,v1,v2,v3,v4,rfl⟩:=l5 hl
 obtain ⟨y0,y1,y2,y3,y4,rfl⟩:=l5 hyl
 simp only [List.map_cons,List.map_nil,DataW.weights,Tryz.underlying26,DataW.weightsEach,List.mem_append,List.append_nil] at hw
 have f0:DataW.trod enc Tryz.prog W 0 (fun _=>true) true n' 23 (([v0,v1,v2,v3,v4].drop 0).take (Tryz.prog.cellsOf 23))=some y0:=hg 0 _ rfl
 have f1:DataW.trod enc Tryz.prog W 0 (fun _=>true) true n' 24 (([v0,v1,v2,v3,v4].drop 1).take (Tryz.prog.cellsOf 24))=some y1:=hg 1 _ rfl
 have f2:DataW.trod enc Tryz.prog W 0 (fun _=>true) true n' 24 (([v0,v1,v2,v3,v4].drop 2).take (Tryz.prog.cellsOf 24))=some y2:=hg 2 _ rfl
 have f3:DataW.trod enc Tryz.prog W 0 (fun _=>true) true n' 3 (([v0,v1,v2,v3,v4].drop 3).take (Tryz.prog.cellsOf 3))=some y3:=hg 3 _ rfl
 have f4:DataW.trod enc Tryz.prog W 0 (fun _=>true) true n' 3 (([v0,v1,v2,v3,v4].drop 4).take (Tryz.prog.cellsOf 3))=some y4:=hg 4 _ rfl
 simp only [c33,c45,c3,List.drop_zero,List.drop_succ_cons,List.take_succ_cons,List.take_zero,List.getElem?_cons_zero,List.getElem?_cons_succ,List.take_nil] at f0 f1 f2 f3 f4
 obtain ⟨va,vl,vc,bs,e0,b1,b2,b3,b4⟩:=open_binds f0 (fun n hn=>hw n (.inl hn))
 obtain ⟨oa,ol,oc,os,e1,o1,-,o3⟩:=open_textsM f1 (fun n hn=>hw n (.inr (.inl hn)))
 obtain ⟨ra,rl,rc,rs,e2,r1,-,r3⟩:=open_textsM f2 (fun n hn=>hw n (.inr (.inr (.inl hn))))
 obtain ⟨ck,e3,-,w3⟩:=DataW.trod_int Tryz.underlying3 f3
 obtain ⟨st,e4,-,w4⟩:=DataW.trod_int Tryz.underlying3 f4
 simp only [List.cons.injEq,and_true] at e0 e1 e2 e3 e4
 subst e0 e1 e2 e3 e4
 exact ⟨⟨va,vl,vc,bs,oa,ol,oc,os,ra,rl,rc,rs,ck,st⟩,rfl,⟨b1,b2,o1,r1,b3,⟨b4,o3,r3⟩,bounds_i64 w3,bounds_i64 w4⟩⟩
theorem open_ask {cs:List Value} {x:DataW H × List MemPlace} (h:DataW.trod enc Tryz.prog W 0 (fun _=>true) true fuel 37 cs=some x) (hw:∀ n ∈ x.1.weights Tryz.prog 37,n≤reachBytes) :
 ∃ nd:Ek,cs=nd.cs∧EkOk W nd:=by
 obtain ⟨ys,n',-,rfl,hl,hyl,hf⟩:=DataW.trod_struct Tryz.underlying37 h
 rw [c37] at hl
 obtain ⟨v0,v1,v2,v3,v4,v5,v6,rfl⟩:=l7 hl
 obtain ⟨y0,y1,y2,rfl⟩:=l3 hyl
 have f0:DataW.trod enc Tryz.prog W 0 (fun _=>true) true n' 22 (([v0,v1,v2,v3,v4,v5,v6].drop 0).take (Tryz.prog.cellsOf 22))=some y0:=hf 0 _ rfl
 have f1:DataW.trod enc Tryz.prog W 0 (fun _=>true) true n' 3 (([v0,v1,v2,v3,v4,v5,v6].drop 1).take (Tryz.prog.cellsOf 3))=some y1:=hf 1 _ rfl
 have f2:DataW.trod enc Tryz.prog W 0 (fun _=>true) true n' 26 (([v0,v1,v2,v3,v4,v5,v6].drop 2).take (Tryz.prog.cellsOf 26))=some y2:=hf 2 _ rfl
 simp only [c22,c3,c26,List.drop_zero,List.drop_succ_cons,List.take_succ_cons,List.take_zero,List.getElem?_cons_zero,List.getElem?_cons_succ,List.take_nil] at f0 f1 f2
 simp only [List.map_cons,List.map_nil,DataW.weights,Tryz.underlying37,DataW.weightsEach,List.mem_append,List.append_nil] at hw
 obtain ⟨na,nl,nc,ns,h0,n1,-,n2,-⟩:=open_nodesZ f0 (fun n hn=>hw n (Or.inl hn))
 obtain ⟨rt,h1,-,w1⟩:=DataW.trod_int Tryz.underlying3 f1
 obtain ⟨q,h2,q1⟩:=open_viewC f2 rfl (fun n hn=>hw n (Or.inr (Or.inr hn)))
 simp only [List.cons.injEq,and_true] at h0 h1 h2
 obtain ⟨rfl,rfl,rfl,rfl,rfl⟩:=h2
 subst h0 h1
 exact ⟨⟨na,nl,nc,ns,rt,q⟩,rfl,⟨n1,n2,bounds_i64 w1,q1⟩⟩
theorem open_asks {cs:List Value} {x:DataW H × List MemPlace} (h:DataW.trod enc Tryz.prog W 0 (fun _=>true) true fuel 31 cs=some x) (hw:∀ n ∈ x.1.weights Tryz.prog 31,n≤reachBytes) :
 ∃ a n c ns,cs=[.slice a n c]∧RS 7 Ek.cs W a n c ns∧(∀ nd ∈ ns,EkOk W nd):=by
 rcases Go.Deep.open_slice Tryz.underlying31 h with ⟨rfl,_⟩ | ⟨a,len,cap,m,n,D,Pl,rfl,hb,hl,hm,hmm,rfl,hx⟩
 · exact ⟨none,0,0,[],rfl,⟨rfl,Nat.le_refl _,by omega,fun i x h=>by simp at h⟩,fun nd h=>(by simp at h)⟩
 · simp only [if_true] at hmm
   have hmm':=hmm.symm
   subst hmm'
   rw [c37] at hx
   have hw0:=hw _ (by simp only [DataW.weights,Tryz.underlying31];exact List.mem_cons_self)
   simp only [List.length_map,List.length_range,by37,reachBytes] at hw0
   have each:∀ i,i < len→∃ nd:Ek,(∀ j v,nd.cs[j]?=some v→W.cell? (a.add (i * 7+j))=some v)∧EkOk W nd:=by
    intro i hi
    obtain ⟨cs',h1,h2⟩:=hx i (by omega)
    obtain ⟨nd,rfl,hok⟩:=open_ask h2 (fun q hq=>hw q (by
     simp only [DataW.weights,Tryz.underlying31,List.mem_cons,List.mem_append]
     exact Or.inr (Or.inl (weightsAll_mem (List.mem_map.2 ⟨i,List.mem_range.2 hi,rfl⟩) _ hq))))
    obtain ⟨_,h3,h4⟩:=World.cells?_some h1
    refine ⟨nd,fun j v hv=>?_,hok⟩
    have hj:j < 7:=by have:=(List.getElem?_eq_some_iff.1 hv).1;rwa [h3] at this
    rw [← Go.Deep.add_add,h4 j hj,hv]
   haveI:Inhabited Ek:=⟨⟨none,0,0,[],0,⟨none,0,0,[],none,0,0,[],none,0,0,[],0,0⟩⟩⟩
   obtain ⟨f,hf⟩:=Go.Deep.choose_lt each
   refine ⟨some a,len,cap,(List.range len).map f,rfl,⟨by simp,hl,by omega,fun i nd hi=>?_⟩,fun nd hnd=>?_⟩
   · have hil:i < len:=by have:=(List.getElem?_eq_some_iff.1 hi).1;simpa using this
     obtain rfl:f i=nd:=by simpa [hil] using hi
     obtain ⟨b,off,rfl⟩:=spot_row (W:=W) (n:=1) (fun j hj=>⟨_,by have:=(hf 0 (by omega)).1 0 _ rfl;simpa [show j=0 by omega] using this⟩) (by omega)
     refine ⟨b,off,rfl,fun j v hv=>?_⟩
     have:=(hf i hil).1 j v hv
     rwa [Addr.add_lit,← Nat.add_assoc] at this
   · obtain ⟨i,hi,rfl⟩:=List.mem_map.1 hnd
     exact (hf i (List.mem_range.1 hi)).2
end
end Go.Proofs.YtcnckjlmldnblaaGreatDoor
