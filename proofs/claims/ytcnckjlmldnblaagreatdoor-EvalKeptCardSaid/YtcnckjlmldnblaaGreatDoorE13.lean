import Derived.Test.YtcnckjlmldnblaaGreatDoorE8
namespace Go.Proofs.YtcnckjlmldnblaaGreatDoor
open Go Go.RowKit
set_option maxRecDepth 100000
set_option maxHeartbeats 4000000
set_option linter.unusedVariables false
set_option linter.unusedSimpArgs false
/-- What the worths of parts are: right, and within the machine's numbers. -/
structure Fit (x:Vl):Prop where
 r:rightV x=0
 n:I64 x.n
theorem right_parts {x:Vl} (h:rightV x=0):formedV x=true∧(x.k=4→timelyB x.n=true)∧x.t.size≤1024∧(∀ m ∈ x.ss,m.size≤1024)∧x.ss.length≤64:=by
 unfold rightV at h
 by_cases h1:formedV x=false
 · rw [if_pos h1] at h;cases h
 · rw [if_neg h1] at h
   by_cases h2:x.k=4∧timelyB x.n=false
   · rw [if_pos h2] at h;cases h
   · rw [if_neg h2] at h
     by_cases h3:longB x=true
     · rw [if_pos h3] at h;cases h
     · rw [if_neg h3] at h
       by_cases h4:64 < x.ss.length
       · rw [if_pos h4] at h;cases h
       · have h3':longB x=false:=by simpa using h3
         unfold longB at h3'
         simp only [Bool.or_eq_false_iff,decide_eq_false_iff_not,List.any_eq_false,decide_eq_true_eq] at h3'
         exact ⟨by simpa using h1,fun e=>by cases h5:timelyB x.n with
          | true=>rfl
          | false=>exact absurd ⟨e,h5⟩ h2,by omega,fun m hm=>by have:=h3'.2 m hm;omega,by omega⟩
/-- The first of three boxes and what stands behind them. -/
theorem boxes3 (w:World) (A B C:Obj):∃ w3,w3=((w.alloc A).alloc B).alloc C∧w3.heap[w.heap.size]?=some A∧w3.heap[w.heap.size+1]?=some B∧w3.heap[w.heap.size+2]?=some C∧Below w.heap.size w w3∧w3.heap.size=w.heap.size+3:=by
 refine ⟨_,rfl,?_,?_,?_,bel3 _ _ _ _,by simp⟩
 · rw [heap_alloc_old _ _ (by simp;omega)];exact heap_alloc2_old w _ _
 · rw [heap_alloc_old _ _ (by simp)];exact heap_alloc2_new w _ _
 · have h:=heap_alloc_new ((w.alloc A).alloc B) C
   simpa using h
theorem heap_old (w:World) (o:Obj) {i:Nat} (h:i < w.heap.size):(w.alloc o).heap[i]?=w.heap[i]?:=(bel1 w o).block i h
theorem retboxA {fn:Func} {p:Tmp} (hf:fn.results=#[.cell p 43]) {tmps:Array Value} {w1:World} {g:Nat} {o:Obj} {z0 z1 z2 z3 x0 x1 x2 x3:Value} (hg:w1.heap[g]?=some (.cells #[z0,z1,z2,z3] 43 (0,0))) {R:Ending→World→Prop}
 (hp:tmps.getD p undef=.pointer (some ⟨g,0,none⟩)) (hR:R (.returned (.agg #[x0,x1,x2,x3])) (((((w1.setCell ⟨g,0,none⟩ x0).setCell ⟨g,1,none⟩ x1).setCell ⟨g,2,none⟩ x2).setCell ⟨g,3,none⟩ x3).alloc o)) :
 bodyPost Tryz.prog fn R .ret { tmps:=tmps,defers:=[] } (((((w1.setCell ⟨g,0,none⟩ x0).setCell ⟨g,1,none⟩ x1).setCell ⟨g,2,none⟩ x2).setCell ⟨g,3,none⟩ x3).alloc o) :=
 bodyPost_ret (results_cell_row hf tmps _ g 43 #[x0,x1,x2,x3] (0,0) _ hp ((heap_old _ o (by have:=(Array.getElem?_eq_some_iff.1 hg).1;simp [World.setCell];exact this)).trans (heap_box hg x0 x1 x2 x3)) Tryz.underlying43 rfl (by kernel_rfl)) rfl hR
theorem rs_one (w:World) (s:ByteArray):RZ (w.alloc (.cells #[.string s] 9)) (some ⟨w.heap.size,0,none⟩) 1 1 [s]:=by
 refine ⟨⟨rfl,Nat.le_refl _,by omega,fun i x hx=>?_⟩,fun h=>by cases h⟩
 have hi:i=0:=by have:=(List.getElem?_eq_some_iff.1 hx).1;simp at this;exact this
 subst hi
 simp at hx
 subst hx
 refine ⟨_,_,rfl,fun j v hv=>?_⟩
 have hj:j=0:=by have:=(List.getElem?_eq_some_iff.1 hv).1;simp [Sv] at this;exact this
 subst hj
 simp [Sv] at hv
 subst hv
 exact cell_of_row _ _ _ _ _ _ (heap_alloc_new w _)
theorem pair_not {a b k1 k2:Int} (h:¬ (a=k1∧b=k2)):(a == k1 && b == k2)=false:=by
 cases e:(a == k1 && b == k2) with
 | false=>rfl
 | true=>exact absurd (by simpa using e) h
theorem double_any (w:World) (op:Int) (x:Vl) (a:Option Addr) (l c:Nat) (hx:Fit x) (hxz:RZ w a l c x.ss) (y:Vl) (b:Option Addr) (m d:Nat) (hy:Fit y) (hyz:RZ w b m d y.ss) :
 Calls Tryz.prog 69 #[.int .i64 op,VA x a l c,VA y b m d] w fun e w'=>MOut e w' w.heap.size (doubleW op x y)∧Below w.heap.size w w':=by
 obtain ⟨w3,hw3,g0,g1,g2,hb3,z3⟩:=boxes3 w (boxS x a l c) (boxS y b m d) boxZ
 obtain ⟨p0,p1,p2,p3,-⟩:=box4 g0
 obtain ⟨q0,q1,q2,q3,-⟩:=box4 g1
 have HB3:=Lib.hid hb3
 have G2:=Lib.hid g2
 have HXZ:=Lib.hid (hxz.below hb3)
 have HYZ:=Lib.hid (hyz.below hb3)
 have HX:=Lib.hid (right_parts hx.r)
 have HY:=Lib.hid (right_parts hy.r)
 have HXN:=Lib.hid hx.n
 have HYN:=Lib.hid hy.n
 have HPE:=Lib.hid eq122
 have hll:=hxz.1.1
 have hml:=hyz.1.1
 have hl64:l≤64:=by have:=HX.out.2.2.2.2;omega
 have hm64:m≤64:=by have:=HY.out.2.2.2.2;omega
 have HLL:=Lib.hid (And.intro hll hml)
 clear g0 g1 g2 hb3 hx hy hxz hyz hll hml
 have hpe:=HPE.out
 by_cases h11:x.k=1∧y.k=1
 · obtain ⟨h1,h2⟩:=h11
   rw [h1] at p0
   rw [h2] at q0
   have HS:=Lib.hid (show doubleW op x y=numbersW op x.n y.n by simp [doubleW,h1,h2])
   clear h1 h2
   go_enter Tryz.func69,Tryz.ntmps69
   go_upto_region 1 with (fail)
   rw [← hw3]
   clear hw3
   go_wp2_with (go_at_call 81;refine (numbers_any _ op x.n y.n HXN.out HYN.out).mono ?_;rintro e w4 ⟨hn,hb4⟩;have g4:=(hb4.block _ (by omega)).trans G2.out;have l4:w.heap.size+1+1 < w4.heap.size:=(by have:=hb4.size;omega);obtain ⟨c0,c1,c2,c3,f0,f1,f2,f3⟩:=box4 g4;rcases hn.cases with ⟨r,hr,rfl,hs⟩ | ⟨er,hr,rfl⟩)
   · refine retbox rfl (w1:=w4) g4 rfl ?_
     exact ⟨(NOut.ok (x:=r) (by rw [HS.out,hr]) rfl hs).mout _ _,below_box (by omega) (HB3.out.trans (hb4.mono (by omega))) _ _ _ _⟩
   · exact ⟨rfl,.err (by rw [HS.out,hr]),HB3.out.trans (hb4.mono (by omega))⟩
 by_cases h41:x.k=4∧y.k=1
 · obtain ⟨h1,h2⟩:=h41
   rw [h1] at p0
   rw [h2] at q0
   have HTX:=Lib.hid (HX.out.2.1 h1)
   by_cases o18:op=18
   · subst o18
     have HS:=Lib.hid (show doubleW 18 x y=movedW x.n y.n by simp [doubleW,h1,h2])
     clear h1 h2
     go_enter Tryz.func69,Tryz.ntmps69
     go_upto_region 1 with (fail)
     rw [← hw3]
     clear hw3
     go_wp2_with (go_at_call 82;refine (moved_any _ x.n y.n HTX.out HYN.out).mono ?_;rintro e w4 ⟨hn,hb4⟩;have g4:=(hb4.block _ (by omega)).trans G2.out;have l4:w.heap.size+1+1 < w4.heap.size:=(by have:=hb4.size;omega);obtain ⟨c0,c1,c2,c3,f0,f1,f2,f3⟩:=box4 g4;rcases hn.cases with ⟨r,hr,rfl,hs⟩ | ⟨er,hr,rfl⟩)
     · refine retbox rfl (w1:=w4) g4 rfl ?_
       exact ⟨(NOut.ok (x:=r) (by rw [HS.out,hr]) rfl hs).mout _ _,below_box (by omega) (HB3.out.trans (hb4.mono (by omega))) _ _ _ _⟩
     · exact ⟨rfl,.err (by rw [HS.out,hr]),HB3.out.trans (hb4.mono (by omega))⟩
   by_cases o19:op=19
   · subst o19
     by_cases hmin:y.n=-9223372036854775808
     · have HS:=Lib.hid (show doubleW 19 x y=.error 111 by
        have ht:0≤x.n:=by have q:=HTX.out;simp [timelyB] at q;exact q.1
        simp [doubleW,h1,h2,movedW,timelyB,hmin]
        omega)
       have hminb:(y.n == -9223372036854775808)=true:=by simpa using hmin
       clear h1 h2 hmin
       go_enter Tryz.func69,Tryz.ntmps69
       go_upto_region 1 with (fail)
       rw [← hw3]
       clear hw3
       go_wp2_with (go_at_call 53;refine (refuse_any _ _).mono ?_;rintro e w' ⟨rfl,rfl⟩)
       exact ⟨rfl,.err HS.out,HB3.out⟩
     have HS:=Lib.hid (show doubleW 19 x y=movedW x.n (-y.n) by simp [doubleW,h1,h2])
     have hw:wrap64 (-y.n)=-y.n:=wrap_in (by have q:=HYN.out;unfold I64 at *;omega)
     have HN:=Lib.hid (show I64 (-y.n) by have q:=HYN.out;unfold I64 at *;omega)
     have hminb:(y.n == -9223372036854775808)=false:=by simpa using hmin
     clear h1 h2 hmin
     go_enter Tryz.func69,Tryz.ntmps69
     go_upto_region 1 with (fail)
     rw [← hw3]
     clear hw3
     go_wp2_with (go_at_call 82;refine (moved_any _ x.n (-y.n) HTX.out HN.out).mono ?_;rintro e w4 ⟨hn,hb4⟩;have g4:=(hb4.block _ (by omega)).trans G2.out;have l4:w.heap.size+1+1 < w4.heap.size:=(by have:=hb4.size;omega);obtain ⟨c0,c1,c2,c3,f0,f1,f2,f3⟩:=box4 g4;rcases hn.cases with ⟨r,hr,rfl,hs⟩ | ⟨er,hr,rfl⟩)
     · refine retbox rfl (w1:=w4) g4 rfl ?_
       exact ⟨(NOut.ok (x:=r) (by rw [HS.out,hr]) rfl hs).mout _ _,below_box (by omega) (HB3.out.trans (hb4.mono (by omega))) _ _ _ _⟩
     · exact ⟨rfl,.err (by rw [HS.out,hr]),HB3.out.trans (hb4.mono (by omega))⟩
   have p18:(op == 18)=false:=by simpa using o18
   have p19:(op == 19)=false:=by simpa using o19
   have HS:=Lib.hid (show doubleW op x y=.error 100 by simp [doubleW,h1,h2,o18,o19])
   clear h1 h2
   go_enter Tryz.func69,Tryz.ntmps69
   go_upto_region 1 with (fail)
   rw [← hw3]
   clear hw3
   go_wp2_with (go_at_call 53;refine (refuse_any _ _).mono ?_;rintro e w' ⟨rfl,rfl⟩)
   · exact ⟨rfl,.err HS.out,HB3.out⟩
 by_cases h14:x.k=1∧y.k=4
 · obtain ⟨h1,h2⟩:=h14
   rw [h1] at p0
   rw [h2] at q0
   have HTY:=Lib.hid (HY.out.2.1 h2)
   by_cases o18:op=18
   · subst o18
     have HS:=Lib.hid (show doubleW 18 x y=movedW y.n x.n by simp [doubleW,h1,h2])
     clear h1 h2
     go_enter Tryz.func69,Tryz.ntmps69
     go_upto_region 1 with (fail)
     rw [← hw3]
     clear hw3
     go_wp2_with (go_at_call 82;refine (moved_any _ y.n x.n HTY.out HXN.out).mono ?_;rintro e w4 ⟨hn,hb4⟩;have g4:=(hb4.block _ (by omega)).trans G2.out;have l4:w.heap.size+1+1 < w4.heap.size:=(by have:=hb4.size;omega);obtain ⟨c0,c1,c2,c3,f0,f1,f2,f3⟩:=box4 g4;rcases hn.cases with ⟨r,hr,rfl,hs⟩ | ⟨er,hr,rfl⟩)
     · refine retbox rfl (w1:=w4) g4 rfl ?_
       exact ⟨(NOut.ok (x:=r) (by rw [HS.out,hr]) rfl hs).mout _ _,below_box (by omega) (HB3.out.trans (hb4.mono (by omega))) _ _ _ _⟩
     · exact ⟨rfl,.err (by rw [HS.out,hr]),HB3.out.trans (hb4.mono (by omega))⟩
   have p18:(op == 18)=false:=by simpa using o18
   have HS:=Lib.hid (show doubleW op x y=.error 100 by simp [doubleW,h1,h2,o18])
   clear h1 h2
   go_enter Tryz.func69,Tryz.ntmps69
   go_upto_region 1 with (fail)
   rw [← hw3]
   clear hw3
   go_wp2_with (go_at_call 53;refine (refuse_any _ _).mono ?_;rintro e w' ⟨rfl,rfl⟩)
   · exact ⟨rfl,.err HS.out,HB3.out⟩
 by_cases h44:x.k=4∧y.k=4
 · obtain ⟨h1,h2⟩:=h44
   rw [h1] at p0
   rw [h2] at q0
   have HTX:=Lib.hid (HX.out.2.1 h1)
   have HTY:=Lib.hid (HY.out.2.1 h2)
   by_cases o19:op=19
   · subst o19
     have HS:=Lib.hid (show doubleW 19 x y=.ok (intV (x.n - y.n)) by simp [doubleW,h1,h2])
     have hw:wrap64 (x.n - y.n)=x.n - y.n:=wrap_in (by have q1:=HTX.out;have q2:=HTY.out;simp [timelyB] at q1 q2;unfold I64;omega)
     clear h1 h2
     go_enter Tryz.func69,Tryz.ntmps69
     go_upto_region 1 with (fail)
     rw [← hw3]
     clear hw3
     go_wp2_with (go_at_call 50;refine (integer_n _ _).mono ?_;rintro e w4 ⟨hn,hb4⟩;have g4:=(hb4.block _ (by omega)).trans G2.out;have l4:w.heap.size+1+1 < w4.heap.size:=(by have:=hb4.size;omega);obtain ⟨c0,c1,c2,c3,f0,f1,f2,f3⟩:=box4 g4;rcases hn.cases with ⟨r,hr,rfl,hs⟩ | ⟨er,hr,rfl⟩)
     · refine retbox rfl (w1:=w4) g4 rfl ?_
       exact ⟨(NOut.ok (x:=r) (HS.out.trans hr) rfl hs).mout _ _,below_box (by omega) (HB3.out.trans (hb4.mono (by omega))) _ _ _ _⟩
     · cases hr
   by_cases o18:op=18
   · subst o18
     have HS:=Lib.hid (show doubleW 18 x y=.error 100 by simp [doubleW,h1,h2])
     clear h1 h2
     go_enter Tryz.func69,Tryz.ntmps69
     go_upto_region 1 with (fail)
     rw [← hw3]
     clear hw3
     go_wp2_with (go_at_call 53;refine (refuse_any _ _).mono ?_;rintro e w' ⟨rfl,rfl⟩)
     · exact ⟨rfl,.err HS.out,HB3.out⟩
   by_cases o20:op=20
   · subst o20
     have HS:=Lib.hid (show doubleW 20 x y=.error 100 by simp [doubleW,h1,h2])
     clear h1 h2
     go_enter Tryz.func69,Tryz.ntmps69
     go_upto_region 1 with (fail)
     rw [← hw3]
     clear hw3
     go_wp2_with (go_at_call 53;refine (refuse_any _ _).mono ?_;rintro e w' ⟨rfl,rfl⟩)
     · exact ⟨rfl,.err HS.out,HB3.out⟩
   by_cases o21:op=21
   · subst o21
     have HS:=Lib.hid (show doubleW 21 x y=.error 100 by simp [doubleW,h1,h2])
     clear h1 h2
     go_enter Tryz.func69,Tryz.ntmps69
     go_upto_region 1 with (fail)
     rw [← hw3]
     clear hw3
     go_wp2_with (go_at_call 53;refine (refuse_any _ _).mono ?_;rintro e w' ⟨rfl,rfl⟩)
     · exact ⟨rfl,.err HS.out,HB3.out⟩
   by_cases o22:op=22
   · subst o22
     have HS:=Lib.hid (show doubleW 22 x y=.error 100 by simp [doubleW,h1,h2])
     clear h1 h2
     go_enter Tryz.func69,Tryz.ntmps69
     go_upto_region 1 with (fail)
     rw [← hw3]
     clear hw3
     go_wp2_with (go_at_call 53;refine (refuse_any _ _).mono ?_;rintro e w' ⟨rfl,rfl⟩)
     · exact ⟨rfl,.err HS.out,HB3.out⟩
   have p19:(op == 19)=false:=by simpa using o19
   have p18:(op == 18)=false:=by simpa using o18
   have p20:(op == 20)=false:=by simpa using o20
   have p21:(op == 21)=false:=by simpa using o21
   have p22:(op == 22)=false:=by simpa using o22
   have n18:(op != 18)=true:=by simpa using o18
   have n20:(op != 20)=true:=by simpa using o20
   have n21:(op != 21)=true:=by simpa using o21
   have n22:(op != 22)=true:=by simpa using o22
   have HS:=Lib.hid (show doubleW op x y=asTime (numbersW op x.n y.n) by simp [doubleW,h1,h2,o18,o19,o20,o21,o22])
   clear h1 h2 o18 o19 o20 o21 o22
   go_enter Tryz.func69,Tryz.ntmps69
   go_upto_region 1 with (fail)
   rw [← hw3]
   clear hw3
   go_wp2_with (go_at_call 81;refine (numbers_any _ op x.n y.n HXN.out HYN.out).mono ?_;rintro e w4 ⟨hn,hb4⟩;have g4:=(hb4.block _ (by omega)).trans G2.out;have l4:w.heap.size+1+1 < w4.heap.size:=(by have:=hb4.size;omega);obtain ⟨c0,c1,c2,c3,f0,f1,f2,f3⟩:=box4 g4;rcases hn.cases with ⟨r,hr,rfl,hs⟩ | ⟨er,hr,rfl⟩)
   · rename_i hrk
     refine retboxA rfl (w1:=w4) g4 rfl ?_
     have hrk':r.k=1:=by simpa using hrk
     exact ⟨(NOut.ok (x:={ r with k:=4 }) (by rw [HS.out,hr];simp [asTime,hrk']) rfl hs).mout _ _,(below_box (by omega) (HB3.out.trans (hb4.mono (by omega))) _ _ _ _).alloc (by simp [World.setCell];omega) _⟩
   · rename_i hrk
     refine retboxA rfl (w1:=w4) g4 rfl ?_
     have hrk':¬ r.k=1:=by simpa using hrk
     exact ⟨(NOut.ok (x:=r) (by rw [HS.out,hr];simp [asTime,hrk']) rfl hs).mout _ _,(below_box (by omega) (HB3.out.trans (hb4.mono (by omega))) _ _ _ _).alloc (by simp [World.setCell];omega) _⟩
   · exact ⟨rfl,.err (by rw [HS.out,hr];rfl),HB3.out.trans (hb4.mono (by omega))⟩
 by_cases h33:x.k=3∧y.k=3
 · obtain ⟨h1,h2⟩:=h33
   rw [h1] at p0
   rw [h2] at q0
   by_cases o28:op=28
   · subst o28
     have HS:=Lib.hid (show doubleW 28 x y=shortW (x.t++y.t) by simp [doubleW,h1,h2])
     have hsz:¬ 9223372036854775807 < x.t.size+y.t.size:=by have q1:=HX.out.2.2.1;have q2:=HY.out.2.2.1;omega
     clear h1 h2
     go_enter Tryz.func69,Tryz.ntmps69
     go_upto_region 1 with (fail)
     rw [← hw3]
     clear hw3
     go_wp2_with (go_at_call 47;refine (short_n _ _).mono ?_;rintro e w4 ⟨hn,hb4⟩;have g4:=(hb4.block _ (by omega)).trans G2.out;have l4:w.heap.size+1+1 < w4.heap.size:=(by have:=hb4.size;omega);obtain ⟨c0,c1,c2,c3,f0,f1,f2,f3⟩:=box4 g4;rcases hn.cases with ⟨r,hr,rfl,hs⟩ | ⟨er,hr,rfl⟩)
     · refine retbox rfl (w1:=w4) g4 rfl ?_
       exact ⟨(NOut.ok (x:=r) (by rw [HS.out,hr]) rfl hs).mout _ _,below_box (by omega) (HB3.out.trans (hb4.mono (by omega))) _ _ _ _⟩
     · exact ⟨rfl,.err (by rw [HS.out,hr]),HB3.out.trans (hb4.mono (by omega))⟩
   have p28:(op == 28)=false:=by simpa using o28
   have HS:=Lib.hid (show doubleW op x y=orderedS op x.t y.t by simp [doubleW,h1,h2,o28])
   clear h1 h2
   go_enter Tryz.func69,Tryz.ntmps69
   go_upto_region 1 with (fail)
   rw [← hw3]
   clear hw3
   go_wp2_with (go_at_call 83;refine (orderedS_any _ op x.t y.t).mono ?_;rintro e w4 ⟨hn,hb4⟩;have g4:=(hb4.block _ (by omega)).trans G2.out;have l4:w.heap.size+1+1 < w4.heap.size:=(by have:=hb4.size;omega);obtain ⟨c0,c1,c2,c3,f0,f1,f2,f3⟩:=box4 g4;rcases hn.cases with ⟨r,hr,rfl,hs⟩ | ⟨er,hr,rfl⟩)
   · refine retbox rfl (w1:=w4) g4 rfl ?_
     exact ⟨(NOut.ok (x:=r) (by rw [HS.out,hr]) rfl hs).mout _ _,below_box (by omega) (HB3.out.trans (hb4.mono (by omega))) _ _ _ _⟩
   · exact ⟨rfl,.err (by rw [HS.out,hr]),HB3.out.trans (hb4.mono (by omega))⟩
 by_cases h35:x.k=3∧y.k=5
 · obtain ⟨h1,h2⟩:=h35
   rw [h1] at p0
   rw [h2] at q0
   by_cases o17:op=17
   · subst o17
     have HS:=Lib.hid (show doubleW 17 x y=.ok (truthV (inSS y.ss x.t)) by simp [doubleW,h1,h2])
     clear h1 h2
     go_enter Tryz.func69,Tryz.ntmps69
     go_upto_region 1 with (fail)
     rw [← hw3]
     clear hw3
     go_wp2_with (first | (go_at_call 84;refine (contains_any _ _ _ _ _ HYZ.out.1 _).mono ?_;rintro e w5 ⟨rfl,rfl⟩) | (go_at_call 49;refine (truth_n _ _).mono ?_;rintro e w4 ⟨hn,hb4⟩;have g4:=(hb4.block _ (by omega)).trans G2.out;have l4:w.heap.size+1+1 < w4.heap.size:=(by have:=hb4.size;omega);obtain ⟨c0,c1,c2,c3,f0,f1,f2,f3⟩:=box4 g4;rcases hn.cases with ⟨r,hr,rfl,hs⟩ | ⟨er,hr,rfl⟩))
     · refine retbox rfl (w1:=w4) g4 rfl ?_
       exact ⟨(NOut.ok (x:=r) (HS.out.trans hr) rfl hs).mout _ _,below_box (by omega) (HB3.out.trans (hb4.mono (by omega))) _ _ _ _⟩
     · cases hr
   have p17:(op == 17)=false:=by simpa using o17
   have HS:=Lib.hid (show doubleW op x y=.error 100 by simp [doubleW,h1,h2,o17])
   clear h1 h2
   go_enter Tryz.func69,Tryz.ntmps69
   go_upto_region 1 with (fail)
   rw [← hw3]
   clear hw3
   go_wp2_with (go_at_call 53;refine (refuse_any _ _).mono ?_;rintro e w' ⟨rfl,rfl⟩)
   · exact ⟨rfl,.err HS.out,HB3.out⟩
 by_cases h55:x.k=5∧y.k=5
 · obtain ⟨h1,h2⟩:=h55
   rw [h1] at p0
   rw [h2] at q0
   have HS:=Lib.hid (show doubleW op x y=setsW op x.ss y.ss by simp [doubleW,h1,h2])
   clear h1 h2
   go_enter Tryz.func69,Tryz.ntmps69
   go_upto_region 1 with (fail)
   rw [← hw3]
   clear hw3
   go_wp2_with (go_at_call 85;refine (sets_any _ op a l c x.ss HXZ.out b m d y.ss HYZ.out (by omega) (by omega)).mono ?_;rintro e w4 ⟨hn,hb4⟩;have g4:=(hb4.block _ (by omega)).trans G2.out;have l4:w.heap.size+1+1 < w4.heap.size:=(by have:=hb4.size;omega);obtain ⟨c0,c1,c2,c3,f0,f1,f2,f3⟩:=box4 g4;rcases hn.cases with ⟨r,ra,rl,rc,hr,rfl,hs⟩ | ⟨er,hr,rfl⟩)
   · refine retbox rfl (w1:=w4) g4 rfl ?_
     exact ⟨.ok (by rw [HS.out,hr]) ((hs.box (by omega) _ _ _ _).mono (by omega)),below_box (by omega) (HB3.out.trans (hb4.mono (by omega))) _ _ _ _⟩
   · exact ⟨rfl,.err (by rw [HS.out,hr]),HB3.out.trans (hb4.mono (by omega))⟩
 by_cases h53:x.k=5∧y.k=3
 · obtain ⟨h1,h2⟩:=h53
   rw [h1] at p0
   rw [h2] at q0
   have HS:=Lib.hid (show doubleW op x y=setsW op x.ss [y.t] by simp [doubleW,h1,h2])
   clear h1 h2
   go_enter Tryz.func69,Tryz.ntmps69
   go_upto_region 1 with (fail)
   rw [← hw3]
   clear hw3
   go_wp2_with fail
   rw [show w.heap.size+3=w3.heap.size from z3.symm]
   have HRO:=Lib.hid (rs_one w3 y.t)
   have HB3':=Lib.hid (bel1 w3 (.cells #[.string y.t] 9))
   obtain ⟨w5,hw5⟩:∃ w5,w5=w3.alloc (.cells #[.string y.t] 9):=⟨_,rfl⟩
   rw [← hw5] at HRO HB3' ⊢
   have z5:=HB3'.out.size
   have HX5:=Lib.hid (HXZ.out.below HB3'.out)
   have G5:=Lib.hid ((HB3'.out.block _ (by omega)).trans G2.out)
   clear hw5
   with_reducible refine (sets_any w5 op a l c x.ss HX5.out _ 1 1 [y.t] HRO.out (by omega) (by omega)).mono ?_
   rintro e w4 ⟨hn,hb4⟩
   have g4:=(hb4.block _ (by omega)).trans G5.out
   have l4:w.heap.size+1+1 < w4.heap.size:=by have:=hb4.size;omega
   obtain ⟨c0,c1,c2,c3,f0,f1,f2,f3⟩:=box4 g4
   have HB4:=Lib.hid ((HB3.out.trans (HB3'.out.mono (by omega))).trans (hb4.mono (by omega)))
   rcases hn.cases with ⟨r,ra,rl,rc,hr,rfl,hs⟩ | ⟨er,hr,rfl⟩
   · go_wp2_with fail
     refine retbox rfl (w1:=w4) g4 rfl ?_
     exact ⟨.ok (by rw [HS.out,hr]) ((hs.box (by omega) _ _ _ _).mono (by omega)),below_box (by omega) HB4.out _ _ _ _⟩
   · go_wp2_with fail
     exact ⟨rfl,.err (by rw [HS.out,hr]),HB4.out⟩
 have HS:=Lib.hid (show doubleW op x y=.error 100 by unfold doubleW;rw [if_neg h11,if_neg h41,if_neg h14,if_neg h44,if_neg h33,if_neg h35,if_neg h53,if_neg h55])
 have f11:=pair_not h11
 have f41:=pair_not h41
 have f14:=pair_not h14
 have f44:=pair_not h44
 have f33:=pair_not h33
 have f35:=pair_not h35
 have f53:=pair_not h53
 have f55:=pair_not h55
 clear h11 h41 h14 h44 h33 h35 h53 h55 HXZ HYZ HX HY
 go_enter Tryz.func69,Tryz.ntmps69
 go_upto_region 1 with (fail)
 rw [← hw3]
 clear hw3
 go_wp2_with (go_at_call 53;refine (refuse_any _ _).mono ?_;rintro e w' ⟨rfl,rfl⟩)
 exact ⟨rfl,.err HS.out,HB3.out⟩
end Go.Proofs.YtcnckjlmldnblaaGreatDoor
