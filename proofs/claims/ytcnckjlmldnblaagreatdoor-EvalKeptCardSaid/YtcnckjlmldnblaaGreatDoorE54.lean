import Derived.Test.YtcnckjlmldnblaaGreatDoorE32
import Derived.BigGuardPart
import Derived.ChangeAlike
namespace Go.Proofs.YtcnckjlmldnblaaGreatDoor
open Go Go.RowKit
set_option maxRecDepth 100000
set_option maxHeartbeats 4000000
set_option linter.unusedVariables false
set_option linter.unusedSimpArgs false
/-- What is known of so many nodes looked at: more of what they hold is not too much. -/
def GrI (ns:List Nd) (n k q:Nat):Prop:=n≤q∧q≤1125899906842624∧∀ j nd,j < k→ns[j]?=some nd→nd.kl+nd.sl≤q
def GrV (bs:List Bc) (k q:Nat):Prop:=q≤1125899906842624∧∀ j b,j < k→bs[j]?=some b→b.v.l≤q
/-- What is let on: not too many nodes, kids, names, members. -/
def SmallE (ns:List Nd) (n:Nat) (p:Pd):Prop:=n≤5000∧(∀ nd ∈ ns,nd.kl≤20000∧nd.sl≤20000)∧p.vl+p.ol+p.rl≤300∧∀ b ∈ p.bs,b.v.l≤50000
def GreatE (e:Ending) (ns:List Nd) (n:Nat) (p:Pd):Prop:=e=.returned (.bool true)∨(e=.returned (.bool false)∧SmallE ns n p)
theorem GreatE.cases {e:Ending} {ns:List Nd} {n:Nat} {p:Pd} (h:GreatE e ns n p):∃ g:Bool,e=.returned (.bool g)∧(g=false→SmallE ns n p):=by
 rcases h with rfl | ⟨rfl,h⟩
 · exact ⟨true,rfl,fun h=>by cases h⟩
 · exact ⟨false,rfl,fun _=>h⟩
/-- A view that is handed in. -/
structure VwArg (w:World) (p:Pd):Prop where
 v:RS 5 Bc.cs w p.va p.vl p.vc p.bs
 vz:p.va=none→p.vc=0
 o:RZ w p.oa p.ol p.oc p.os
 r:RZ w p.ra p.rl p.rc p.rs
 b:∀ b ∈ p.bs,RZ w b.v.a b.v.l b.v.c b.v.x.ss∧I64 b.v.x.n∧b.v.l≤8796093022208
 n:p.vl≤8796093022208∧p.ol≤8796093022208∧p.rl≤8796093022208
 c:I64 p.clock
 s:I64 p.steps
theorem VwArg.below {w w':World} {p:Pd} (h:VwArg w p) (hb:Below w.heap.size w w'):VwArg w' p :=
 ⟨h.v.below hb,h.vz,h.o.below hb,h.r.below hb,fun b hm=>⟨(h.b b hm).1.below hb,(h.b b hm).2⟩,h.n,h.c,h.s⟩
theorem great_end {ns:List Nd} {n k q:Nat} {p:Pd} {i r:Nat} {b5 b6 b7 b8:Bool} (hl:ns.length=n) (hg:GrI ns n k q) (hk:k=n∨20000 < q) (hv:GrV p.bs i r) (hvl:p.bs.length=p.vl) (hi:i=p.vl∨i=301∨50000 < r)
 (h5:b5=decide (5000 < n)) (h6:b6=decide (20000 < q)) (h7:b7=decide (300 < p.vl+p.ol+p.rl)) (h8:b8=decide (50000 < r)) {e:Ending} (he:e=.returned (.bool (b5 || b6 || b7 || b8))):GreatE e ns n p:=by
 subst he
 cases h:(b5 || b6 || b7 || b8)
 · simp only [Bool.or_eq_false_iff] at h
   obtain ⟨⟨⟨e5,e6⟩,e7⟩,e8⟩:=h
   rw [h5,decide_eq_false_iff_not] at e5
   rw [h6,decide_eq_false_iff_not] at e6
   rw [h7,decide_eq_false_iff_not] at e7
   rw [h8,decide_eq_false_iff_not] at e8
   refine .inr ⟨rfl,by omega,fun nd hnd=>?_,by omega,fun b hb=>?_⟩
   · obtain ⟨j,hj⟩:=List.getElem?_of_mem hnd
     have:=hg.2.2 j nd (by have:=(List.getElem?_eq_some_iff.1 hj).1;omega) hj
     omega
   · obtain ⟨j,hj⟩:=List.getElem?_of_mem hb
     have:=hv.2 j b (by have:=(List.getElem?_eq_some_iff.1 hj).1;omega) hj
     omega
 · exact .inl rfl
abbrev boxW35 (p:Pd):Obj:=.cells p.cs 26
theorem great_any (w:World) (a:Option Addr) (n c:Nat) (ns:List Nd) (hr:RS 7 Nd.cs w a n c ns) (hok:∀ nd ∈ ns,nd.kl≤281474976710656∧nd.sl≤281474976710656) (p:Pd) (hp:VwArg w p) :
 Calls Tryz.prog 5 #[.slice a n c,.agg p.cs] w fun e w'=>GreatE e ns n p∧Below w.heap.size w w':=by
 obtain ⟨w1,hw1⟩:∃ w1,w1=w.alloc (boxW35 p):=⟨_,rfl⟩
 have g0:w1.heap[w.heap.size]?=some (boxW35 p):=by rw [hw1];exact heap_alloc_new w _
 have hb1:Below w.heap.size w w1:=by rw [hw1];exact bel1 _ _
 have z1:w.heap.size < w1.heap.size:=by rw [hw1];simp
 have HB1:=Lib.hid hb1
 have hlen:=Lib.hid hr.1
 have hvlen:=Lib.hid hp.v.1
 have hn48:=hr.2.2.1
 have hv48:=hp.n.1
 have ho48:=hp.n.2.1
 have hr48:=hp.n.2.2
 have HR:=Lib.hid (hr.below hb1)
 have HP:=Lib.hid (hp.below hb1)
 have HOK:=Lib.hid hok
 have G0:=Lib.hid g0
 clear hr hok hp g0 hb1
 go_enter Tryz.func5,Tryz.ntmps5
 go_upto_region 1 with (fail)
 rw [← hw1]
 clear hw1
 go_upto_block 0 with (fail)
 go_cut [5] (fun m wx=>∃ (k q:Nat),m=.int .i64 q∧Below w1.heap.size w1 wx∧GrI ns n k q∧(k=n∨20000 < q))
 case first =>
  go_wp2_with fail
  go_loopw [5,6] (fun m i wr=>∃ (k q:Nat),k≤n∧i=.int .i64 k∧m=.int .i64 q∧Below w1.heap.size w1 wr∧GrI ns n k q) (fun _ i _=>n - (intOf i).toNat)
  case atStart=>exact ⟨0,n,by omega,rfl,rfl,Below.refl _ _,Nat.le_refl _,by omega,fun j nd h=>by omega⟩
  case round =>
   obtain ⟨k,q,hk,rfl,rfl,hb,hg⟩:=hrel
   have HB:=Lib.hid hb
   have HG:=Lib.hid hg
   have hq50:q≤1125899906842624:=hg.2.1
   clear hb hg
   by_cases hlt:k < n
   · have hltI:(k:Int) < (n:Int):=by omega
     by_cases hq:q≤20000
     · have hqI:(q:Int)≤20000:=by omega
       obtain ⟨xb,xo,nd,rfl,hnd,hcl⟩:=HR.out.at hlt
       have x6:=(HB.out.cell (p:=⟨xb,xo+k * 7+6,none⟩) (block_lt_of_cell (hcl 6 _ rfl))).trans (hcl 6 _ rfl)
       have x5:=(HB.out.cell (p:=⟨xb,xo+k * 7+5,none⟩) (block_lt_of_cell (hcl 5 _ rfl))).trans (hcl 5 _ rfl)
       obtain ⟨hk48,hl48⟩:=HOK.out nd (List.mem_of_getElem? hnd)
       have HG2:=Lib.hid (show GrI ns n (k+1) (q+nd.kl+nd.sl) by
        obtain ⟨g1,g2,g3⟩:=HG.out
        refine ⟨by omega,by omega,fun j nd' hj hj2=>?_⟩
        by_cases hjk:j=k
        · subst hjk
          rw [hnd] at hj2
          obtain rfl:=Option.some.inj hj2
          omega
        · have:=g3 j nd' (by omega) hj2
          omega)
       clear hnd hcl
       go_wp2_with fail
       go_region
       go_wp2_with fail
       go_roundw
       case rel=>exact ⟨k+1,q+nd.kl+nd.sl,by omega,by go_num,by go_num,HB.out.drew,HG2.out⟩
       case measure=>simp [intOf];omega
     · have hqI:¬ (q:Int)≤20000:=by omega
       go_wp2_with fail
       go_meet
       case rel=>exact ⟨k,q,rfl,HB.out,HG.out,.inr (by omega)⟩
   · have hltI:¬ (k:Int) < (n:Int):=by omega
     go_wp2_with fail
     go_meet
     case rel=>exact ⟨k,q,rfl,HB.out,HG.out,.inl (by omega)⟩
 case rest =>
  obtain ⟨k,q,rfl,hb,hg,hke⟩:=hcut
  obtain ⟨w2,hw2⟩:∃ w2,w2=wc:=⟨_,rfl⟩
  rw [← hw2] at hb
  rw [← hw2]
  clear hw2
  have HB2:=Lib.hid (HB1.out.trans (hb.mono (by omega)))
  have HG:=Lib.hid hg
  have HKE:=Lib.hid hke
  have hq50:q≤1125899906842624:=hg.2.1
  have HR2:=Lib.hid (HP.out.below hb)
  have G2:=Lib.hid ((hb.block _ z1).trans G0.out)
  have z2:w.heap.size < w2.heap.size:=by have:=hb.size;omega
  clear hb hg hke
  go_upto_block 2 with (fail)
  go_cut [7] (fun m wx=>∃ (i r:Nat),m=.int .i64 r∧Below w2.heap.size w2 wx∧GrV p.bs i r∧(i=p.vl∨i=301∨50000 < r))
  case first =>
   go_wp2_with fail
   go_loopw [7,8] (fun m i wr=>∃ (k r:Nat),k≤p.vl∧k≤301∧i=.int .i64 k∧m=.int .i64 r∧Below w2.heap.size w2 wr∧GrV p.bs k r) (fun _ i _=>p.vl - (intOf i).toNat)
   case atStart=>exact ⟨0,0,by omega,by omega,rfl,rfl,Below.refl _ _,by omega,fun j nd h=>by omega⟩
   case round =>
    obtain ⟨i,r,hi,hi3,rfl,rfl,hb,hg⟩:=hrel
    have HB:=Lib.hid hb
    have HGV:=Lib.hid hg
    have hr50:r≤1125899906842624:=hg.1
    have g3:=(hb.block _ z2).trans G2.out
    have q0:=cell_of_row wr _ 0 _ _ _ g3
    simp only [List.getElem?_toArray,List.getElem?_cons_zero] at q0
    clear hb hg g3
    by_cases hlt:i < p.vl
    · have hltI:(i:Int) < (p.vl:Int):=by omega
      by_cases h3:i < 301
      · have h3I:(i:Int) < 301:=by omega
        by_cases hr:r≤50000
        · have hrI:(r:Int)≤50000:=by omega
          obtain ⟨xb,xo,bd,he,hbd,hcl⟩:=HR2.out.v.at hlt
          have x4:=(HB.out.cell (p:=⟨xb,xo+i * 5+4,none⟩) (block_lt_of_cell (hcl 4 _ rfl))).trans (hcl 4 _ rfl)
          have hl43:bd.v.l≤8796093022208:=(HR2.out.b bd (List.mem_of_getElem? hbd)).2.2
          have HG2:=Lib.hid (show GrV p.bs (i+1) (r+bd.v.l) by
           obtain ⟨g1,g2⟩:=HGV.out
           refine ⟨by omega,fun j b' hj hj2=>?_⟩
           by_cases hjk:j=i
           · subst hjk
             rw [hbd] at hj2
             obtain rfl:=Option.some.inj hj2
             omega
           · have:=g2 j b' (by omega) hj2
             omega)
          rw [he] at q0
          clear hbd hcl he
          go_wp2_with fail
          go_roundw
          case rel=>exact ⟨i+1,r+bd.v.l,by omega,by omega,by go_num,by go_num,HB.out,HG2.out⟩
          case measure=>simp [intOf];omega
        · have hrI:¬ (r:Int)≤50000:=by omega
          go_wp2_with fail
          go_meet
          case rel=>exact ⟨i,r,rfl,HB.out,HGV.out,.inr (.inr (by omega))⟩
      · have h3I:¬ (i:Int) < 301:=by omega
        go_wp2_with fail
        go_meet
        case rel=>exact ⟨i,r,rfl,HB.out,HGV.out,.inr (.inl (by omega))⟩
    · have hltI:¬ (i:Int) < (p.vl:Int):=by omega
      go_wp2_with fail
      go_meet
      case rel=>exact ⟨i,r,rfl,HB.out,HGV.out,.inl (by omega)⟩
  case rest =>
   obtain ⟨i,r,rfl,hb,hg,hie⟩:=hcut
   obtain ⟨w3,hw3⟩:∃ w3,w3=wc:=⟨_,rfl⟩
   rw [← hw3] at hb
   rw [← hw3]
   clear hw3
   have HB3:=Lib.hid (HB2.out.trans (hb.mono (by omega)))
   have HE:=Lib.hid (fun b5 b6 b7 b8 h5 h6 h7 h8 e he=>great_end (b5:=b5) (b6:=b6) (b7:=b7) (b8:=b8) (e:=e) hlen.out HG.out HKE.out hg hvlen.out hie h5 h6 h7 h8 he)
   have hr50:r≤1125899906842624:=hg.1
   have g3:=(hb.block _ z2).trans G2.out
   have q0:=cell_of_row w3 _ 0 _ _ _ g3
   have q1:=cell_of_row w3 _ 1 _ _ _ g3
   have q2:=cell_of_row w3 _ 2 _ _ _ g3
   simp only [List.getElem?_toArray,List.getElem?_cons_zero,List.getElem?_cons_succ] at q0 q1 q2
   clear hb hg hie g3
   go_wp2_with fail
   all_goals
    go_ret
    refine ⟨HE.out _ _ _ _ rfl rfl rfl rfl _ (congrArg (fun b=>Ending.returned (Value.bool b)) ?_),HB3.out⟩
    rw [Bool.eq_iff_iff]
    simp only [Bool.or_eq_true,decide_eq_true_eq,Bool.true_eq,eq_self,true_iff]
    omega
end Go.Proofs.YtcnckjlmldnblaaGreatDoor
