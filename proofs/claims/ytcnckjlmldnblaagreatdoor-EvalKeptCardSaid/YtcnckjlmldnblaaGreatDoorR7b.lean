import Derived.Test.YtcnckjlmldnblaaGreatDoorR6
import Derived.BigGuardPart
import Derived.IntWalk
import Derived.Handy
import Derived.OrdersHeld
import Derived.Deep.RegionHeld3
import Derived.WalkLawsBesides
namespace Go.Proofs.YtcnckjlmldnblaaGreatDoor
open Go Go.RowKit
set_option maxRecDepth 100000
set_option maxHeartbeats 4000000
set_option linter.unusedVariables false
set_option linter.unusedSimpArgs false
theorem tog_ord13lt (w0 w:World) (kk p q:Int) (a:Option Addr) (l c:Nat) (hx:RS 1 Sv w a l c ((⟨kk,p,ByteArray.empty,[]⟩:Vl):Vl).ss) (b:Option Addr) (m d:Nat) (hy:RS 1 Sv w b m d ((⟨kk,q,ByteArray.empty,[]⟩:Vl):Vl).ss) (hc:p < q) (hdw:doubleW 13 (⟨kk,p,ByteArray.empty,[]⟩:Vl) (⟨kk,q,ByteArray.empty,[]⟩:Vl)=.ok (truthV true)) :
 Calls Tryz.prog 76 #[.int .i64 13,VA (⟨kk,p,ByteArray.empty,[]⟩:Vl) a l c,VA (⟨kk,q,ByteArray.empty,[]⟩:Vl) b m d] w fun e w'=>TogOut w0 w e w' (doubleW 13 (⟨kk,p,ByteArray.empty,[]⟩:Vl) (⟨kk,q,ByteArray.empty,[]⟩:Vl))∧Below w.heap.size w w':=by
 obtain ⟨w3,hw3,g0,g1,g2,hb3,z3⟩:=boxes3 w (boxS (⟨kk,p,ByteArray.empty,[]⟩:Vl) a l c) (boxS (⟨kk,q,ByteArray.empty,[]⟩:Vl) b m d) boxZ
 have HX:=Lib.hid (hx.below hb3)
 have HY:=Lib.hid (hy.below hb3)
 have HXW:=Lib.hid hx
 have HYW:=Lib.hid hy
 have hl:=hx.1
 have hm:=hy.1
 have HB3:=Lib.hid hb3
 have G0:=Lib.hid g0
 have G1:=Lib.hid g1
 have G2:=Lib.hid (show w3.heap[w.heap.size+1+1]?=some boxZ from g2)
 have z30:w.heap.size < w3.heap.size:=by omega
 have z31:w.heap.size+1 < w3.heap.size:=by omega
 have z32:w.heap.size+1+1 < w3.heap.size:=by omega
 obtain ⟨c0,c1,c2,c3,-⟩:=box4 g0
 obtain ⟨d0,d1,d2,d3,-⟩:=box4 g1
 clear hx hy g0 g1 g2 hb3
 have HDW:=Lib.hid hdw
 clear hdw hl hm
 have c9:(p == q)=false:=by simp;omega
 go_enter Tryz.func76,Tryz.ntmps76
 go_upto_region 1 with (fail)
 rw [← hw3]
 clear hw3
 go_wp2_with (go_at_call 60;refine (boolean_any _ _).mono ?_;rintro e w4 ⟨rfl,hb4⟩;have G24:=Lib.hid ((hb4.block _ z32).trans G2.out);obtain ⟨r0,r1,r2,r3,f0,f1,f2,f3⟩:=box4 G24.out)
 refine bodyPost_ret (res2c Tryz.results76 _ _ (w.heap.size+1+1) _ _ _ _ _ (heap_box G24.out _ _ _ _) rfl rfl) rfl ?_
 exact ⟨.ok (z:=truthV true) rfl ⟨none,0,0,rfl,.inl (rz_nil1 w0)⟩ HDW.out,below_box (by omega) (HB3.out.trans (hb4.mono (by omega))) _ _ _ _⟩
theorem tog_ors13lt (w0 w:World) (s t:ByteArray) (a:Option Addr) (l c:Nat) (hx:RS 1 Sv w a l c ((⟨3,0,s,[]⟩:Vl):Vl).ss) (b:Option Addr) (m d:Nat) (hy:RS 1 Sv w b m d ((⟨3,0,t,[]⟩:Vl):Vl).ss) (hc:Op.bytesLess s.toList t.toList=true) (hc2:(s.toList == t.toList)=false) (hdw:doubleW 13 (⟨3,0,s,[]⟩:Vl) (⟨3,0,t,[]⟩:Vl)=.ok (truthV true)) :
 Calls Tryz.prog 76 #[.int .i64 13,VA (⟨3,0,s,[]⟩:Vl) a l c,VA (⟨3,0,t,[]⟩:Vl) b m d] w fun e w'=>TogOut w0 w e w' (doubleW 13 (⟨3,0,s,[]⟩:Vl) (⟨3,0,t,[]⟩:Vl))∧Below w.heap.size w w':=by
 obtain ⟨w3,hw3,g0,g1,g2,hb3,z3⟩:=boxes3 w (boxS (⟨3,0,s,[]⟩:Vl) a l c) (boxS (⟨3,0,t,[]⟩:Vl) b m d) boxZ
 have HX:=Lib.hid (hx.below hb3)
 have HY:=Lib.hid (hy.below hb3)
 have HXW:=Lib.hid hx
 have HYW:=Lib.hid hy
 have hl:=hx.1
 have hm:=hy.1
 have HB3:=Lib.hid hb3
 have G0:=Lib.hid g0
 have G1:=Lib.hid g1
 have G2:=Lib.hid (show w3.heap[w.heap.size+1+1]?=some boxZ from g2)
 have z30:w.heap.size < w3.heap.size:=by omega
 have z31:w.heap.size+1 < w3.heap.size:=by omega
 have z32:w.heap.size+1+1 < w3.heap.size:=by omega
 obtain ⟨c0,c1,c2,c3,-⟩:=box4 g0
 obtain ⟨d0,d1,d2,d3,-⟩:=box4 g1
 clear hx hy g0 g1 g2 hb3
 have HDW:=Lib.hid hdw
 clear hdw hl hm
 go_enter Tryz.func76,Tryz.ntmps76
 go_upto_region 1 with (fail)
 rw [← hw3]
 clear hw3
 go_wp2_with (go_at_call 60;refine (boolean_any _ _).mono ?_;rintro e w4 ⟨rfl,hb4⟩;have G24:=Lib.hid ((hb4.block _ z32).trans G2.out);obtain ⟨r0,r1,r2,r3,f0,f1,f2,f3⟩:=box4 G24.out)
 refine bodyPost_ret (res2c Tryz.results76 _ _ (w.heap.size+1+1) _ _ _ _ _ (heap_box G24.out _ _ _ _) rfl rfl) rfl ?_
 exact ⟨.ok (z:=truthV true) rfl ⟨none,0,0,rfl,.inl (rz_nil1 w0)⟩ HDW.out,below_box (by omega) (HB3.out.trans (hb4.mono (by omega))) _ _ _ _⟩
theorem tog_ord13eq (w0 w:World) (kk p q:Int) (a:Option Addr) (l c:Nat) (hx:RS 1 Sv w a l c ((⟨kk,p,ByteArray.empty,[]⟩:Vl):Vl).ss) (b:Option Addr) (m d:Nat) (hy:RS 1 Sv w b m d ((⟨kk,q,ByteArray.empty,[]⟩:Vl):Vl).ss) (hc:p=q) (hdw:doubleW 13 (⟨kk,p,ByteArray.empty,[]⟩:Vl) (⟨kk,q,ByteArray.empty,[]⟩:Vl)=.ok (truthV false)) :
 Calls Tryz.prog 76 #[.int .i64 13,VA (⟨kk,p,ByteArray.empty,[]⟩:Vl) a l c,VA (⟨kk,q,ByteArray.empty,[]⟩:Vl) b m d] w fun e w'=>TogOut w0 w e w' (doubleW 13 (⟨kk,p,ByteArray.empty,[]⟩:Vl) (⟨kk,q,ByteArray.empty,[]⟩:Vl))∧Below w.heap.size w w':=by
 obtain ⟨w3,hw3,g0,g1,g2,hb3,z3⟩:=boxes3 w (boxS (⟨kk,p,ByteArray.empty,[]⟩:Vl) a l c) (boxS (⟨kk,q,ByteArray.empty,[]⟩:Vl) b m d) boxZ
 have HX:=Lib.hid (hx.below hb3)
 have HY:=Lib.hid (hy.below hb3)
 have HXW:=Lib.hid hx
 have HYW:=Lib.hid hy
 have hl:=hx.1
 have hm:=hy.1
 have HB3:=Lib.hid hb3
 have G0:=Lib.hid g0
 have G1:=Lib.hid g1
 have G2:=Lib.hid (show w3.heap[w.heap.size+1+1]?=some boxZ from g2)
 have z30:w.heap.size < w3.heap.size:=by omega
 have z31:w.heap.size+1 < w3.heap.size:=by omega
 have z32:w.heap.size+1+1 < w3.heap.size:=by omega
 obtain ⟨c0,c1,c2,c3,-⟩:=box4 g0
 obtain ⟨d0,d1,d2,d3,-⟩:=box4 g1
 clear hx hy g0 g1 g2 hb3
 have HDW:=Lib.hid hdw
 clear hdw hl hm
 subst hc
 go_enter Tryz.func76,Tryz.ntmps76
 go_upto_region 1 with (fail)
 rw [← hw3]
 clear hw3
 go_wp2_with (go_at_call 60;refine (boolean_any _ _).mono ?_;rintro e w4 ⟨rfl,hb4⟩;have G24:=Lib.hid ((hb4.block _ z32).trans G2.out);obtain ⟨r0,r1,r2,r3,f0,f1,f2,f3⟩:=box4 G24.out)
 refine bodyPost_ret (res2c Tryz.results76 _ _ (w.heap.size+1+1) _ _ _ _ _ (heap_box G24.out _ _ _ _) rfl rfl) rfl ?_
 exact ⟨.ok (z:=truthV false) rfl ⟨none,0,0,rfl,.inl (rz_nil1 w0)⟩ HDW.out,below_box (by omega) (HB3.out.trans (hb4.mono (by omega))) _ _ _ _⟩
theorem tog_ors13eq (w0 w:World) (s t:ByteArray) (a:Option Addr) (l c:Nat) (hx:RS 1 Sv w a l c ((⟨3,0,s,[]⟩:Vl):Vl).ss) (b:Option Addr) (m d:Nat) (hy:RS 1 Sv w b m d ((⟨3,0,t,[]⟩:Vl):Vl).ss) (hc:Op.bytesLess s.toList t.toList=false) (hc2:(s.toList == t.toList)=true) (hdw:doubleW 13 (⟨3,0,s,[]⟩:Vl) (⟨3,0,t,[]⟩:Vl)=.ok (truthV false)) :
 Calls Tryz.prog 76 #[.int .i64 13,VA (⟨3,0,s,[]⟩:Vl) a l c,VA (⟨3,0,t,[]⟩:Vl) b m d] w fun e w'=>TogOut w0 w e w' (doubleW 13 (⟨3,0,s,[]⟩:Vl) (⟨3,0,t,[]⟩:Vl))∧Below w.heap.size w w':=by
 obtain ⟨w3,hw3,g0,g1,g2,hb3,z3⟩:=boxes3 w (boxS (⟨3,0,s,[]⟩:Vl) a l c) (boxS (⟨3,0,t,[]⟩:Vl) b m d) boxZ
 have HX:=Lib.hid (hx.below hb3)
 have HY:=Lib.hid (hy.below hb3)
 have HXW:=Lib.hid hx
 have HYW:=Lib.hid hy
 have hl:=hx.1
 have hm:=hy.1
 have HB3:=Lib.hid hb3
 have G0:=Lib.hid g0
 have G1:=Lib.hid g1
 have G2:=Lib.hid (show w3.heap[w.heap.size+1+1]?=some boxZ from g2)
 have z30:w.heap.size < w3.heap.size:=by omega
 have z31:w.heap.size+1 < w3.heap.size:=by omega
 have z32:w.heap.size+1+1 < w3.heap.size:=by omega
 obtain ⟨c0,c1,c2,c3,-⟩:=box4 g0
 obtain ⟨d0,d1,d2,d3,-⟩:=box4 g1
 clear hx hy g0 g1 g2 hb3
 have HDW:=Lib.hid hdw
 clear hdw hl hm
 go_enter Tryz.func76,Tryz.ntmps76
 go_upto_region 1 with (fail)
 rw [← hw3]
 clear hw3
 go_wp2_with (go_at_call 60;refine (boolean_any _ _).mono ?_;rintro e w4 ⟨rfl,hb4⟩;have G24:=Lib.hid ((hb4.block _ z32).trans G2.out);obtain ⟨r0,r1,r2,r3,f0,f1,f2,f3⟩:=box4 G24.out)
 refine bodyPost_ret (res2c Tryz.results76 _ _ (w.heap.size+1+1) _ _ _ _ _ (heap_box G24.out _ _ _ _) rfl rfl) rfl ?_
 exact ⟨.ok (z:=truthV false) rfl ⟨none,0,0,rfl,.inl (rz_nil1 w0)⟩ HDW.out,below_box (by omega) (HB3.out.trans (hb4.mono (by omega))) _ _ _ _⟩
theorem tog_ord13gt (w0 w:World) (kk p q:Int) (a:Option Addr) (l c:Nat) (hx:RS 1 Sv w a l c ((⟨kk,p,ByteArray.empty,[]⟩:Vl):Vl).ss) (b:Option Addr) (m d:Nat) (hy:RS 1 Sv w b m d ((⟨kk,q,ByteArray.empty,[]⟩:Vl):Vl).ss) (hc:q < p) (hdw:doubleW 13 (⟨kk,p,ByteArray.empty,[]⟩:Vl) (⟨kk,q,ByteArray.empty,[]⟩:Vl)=.ok (truthV false)) :
 Calls Tryz.prog 76 #[.int .i64 13,VA (⟨kk,p,ByteArray.empty,[]⟩:Vl) a l c,VA (⟨kk,q,ByteArray.empty,[]⟩:Vl) b m d] w fun e w'=>TogOut w0 w e w' (doubleW 13 (⟨kk,p,ByteArray.empty,[]⟩:Vl) (⟨kk,q,ByteArray.empty,[]⟩:Vl))∧Below w.heap.size w w':=by
 obtain ⟨w3,hw3,g0,g1,g2,hb3,z3⟩:=boxes3 w (boxS (⟨kk,p,ByteArray.empty,[]⟩:Vl) a l c) (boxS (⟨kk,q,ByteArray.empty,[]⟩:Vl) b m d) boxZ
 have HX:=Lib.hid (hx.below hb3)
 have HY:=Lib.hid (hy.below hb3)
 have HXW:=Lib.hid hx
 have HYW:=Lib.hid hy
 have hl:=hx.1
 have hm:=hy.1
 have HB3:=Lib.hid hb3
 have G0:=Lib.hid g0
 have G1:=Lib.hid g1
 have G2:=Lib.hid (show w3.heap[w.heap.size+1+1]?=some boxZ from g2)
 have z30:w.heap.size < w3.heap.size:=by omega
 have z31:w.heap.size+1 < w3.heap.size:=by omega
 have z32:w.heap.size+1+1 < w3.heap.size:=by omega
 obtain ⟨c0,c1,c2,c3,-⟩:=box4 g0
 obtain ⟨d0,d1,d2,d3,-⟩:=box4 g1
 clear hx hy g0 g1 g2 hb3
 have HDW:=Lib.hid hdw
 clear hdw hl hm
 have c8:¬ p < q:=by omega
 have c9:(p == q)=false:=by simp;omega
 go_enter Tryz.func76,Tryz.ntmps76
 go_upto_region 1 with (fail)
 rw [← hw3]
 clear hw3
 go_wp2_with (go_at_call 60;refine (boolean_any _ _).mono ?_;rintro e w4 ⟨rfl,hb4⟩;have G24:=Lib.hid ((hb4.block _ z32).trans G2.out);obtain ⟨r0,r1,r2,r3,f0,f1,f2,f3⟩:=box4 G24.out)
 refine bodyPost_ret (res2c Tryz.results76 _ _ (w.heap.size+1+1) _ _ _ _ _ (heap_box G24.out _ _ _ _) rfl rfl) rfl ?_
 exact ⟨.ok (z:=truthV false) rfl ⟨none,0,0,rfl,.inl (rz_nil1 w0)⟩ HDW.out,below_box (by omega) (HB3.out.trans (hb4.mono (by omega))) _ _ _ _⟩
theorem tog_ors13gt (w0 w:World) (s t:ByteArray) (a:Option Addr) (l c:Nat) (hx:RS 1 Sv w a l c ((⟨3,0,s,[]⟩:Vl):Vl).ss) (b:Option Addr) (m d:Nat) (hy:RS 1 Sv w b m d ((⟨3,0,t,[]⟩:Vl):Vl).ss) (hc:Op.bytesLess s.toList t.toList=false) (hc2:(s.toList == t.toList)=false) (hdw:doubleW 13 (⟨3,0,s,[]⟩:Vl) (⟨3,0,t,[]⟩:Vl)=.ok (truthV false)) :
 Calls Tryz.prog 76 #[.int .i64 13,VA (⟨3,0,s,[]⟩:Vl) a l c,VA (⟨3,0,t,[]⟩:Vl) b m d] w fun e w'=>TogOut w0 w e w' (doubleW 13 (⟨3,0,s,[]⟩:Vl) (⟨3,0,t,[]⟩:Vl))∧Below w.heap.size w w':=by
 obtain ⟨w3,hw3,g0,g1,g2,hb3,z3⟩:=boxes3 w (boxS (⟨3,0,s,[]⟩:Vl) a l c) (boxS (⟨3,0,t,[]⟩:Vl) b m d) boxZ
 have HX:=Lib.hid (hx.below hb3)
 have HY:=Lib.hid (hy.below hb3)
 have HXW:=Lib.hid hx
 have HYW:=Lib.hid hy
 have hl:=hx.1
 have hm:=hy.1
 have HB3:=Lib.hid hb3
 have G0:=Lib.hid g0
 have G1:=Lib.hid g1
 have G2:=Lib.hid (show w3.heap[w.heap.size+1+1]?=some boxZ from g2)
 have z30:w.heap.size < w3.heap.size:=by omega
 have z31:w.heap.size+1 < w3.heap.size:=by omega
 have z32:w.heap.size+1+1 < w3.heap.size:=by omega
 obtain ⟨c0,c1,c2,c3,-⟩:=box4 g0
 obtain ⟨d0,d1,d2,d3,-⟩:=box4 g1
 clear hx hy g0 g1 g2 hb3
 have HDW:=Lib.hid hdw
 clear hdw hl hm
 go_enter Tryz.func76,Tryz.ntmps76
 go_upto_region 1 with (fail)
 rw [← hw3]
 clear hw3
 go_wp2_with (go_at_call 60;refine (boolean_any _ _).mono ?_;rintro e w4 ⟨rfl,hb4⟩;have G24:=Lib.hid ((hb4.block _ z32).trans G2.out);obtain ⟨r0,r1,r2,r3,f0,f1,f2,f3⟩:=box4 G24.out)
 refine bodyPost_ret (res2c Tryz.results76 _ _ (w.heap.size+1+1) _ _ _ _ _ (heap_box G24.out _ _ _ _) rfl rfl) rfl ?_
 exact ⟨.ok (z:=truthV false) rfl ⟨none,0,0,rfl,.inl (rz_nil1 w0)⟩ HDW.out,below_box (by omega) (HB3.out.trans (hb4.mono (by omega))) _ _ _ _⟩
theorem tog_ord14lt (w0 w:World) (kk p q:Int) (a:Option Addr) (l c:Nat) (hx:RS 1 Sv w a l c ((⟨kk,p,ByteArray.empty,[]⟩:Vl):Vl).ss) (b:Option Addr) (m d:Nat) (hy:RS 1 Sv w b m d ((⟨kk,q,ByteArray.empty,[]⟩:Vl):Vl).ss) (hc:p < q) (hdw:doubleW 14 (⟨kk,p,ByteArray.empty,[]⟩:Vl) (⟨kk,q,ByteArray.empty,[]⟩:Vl)=.ok (truthV true)) :
 Calls Tryz.prog 76 #[.int .i64 14,VA (⟨kk,p,ByteArray.empty,[]⟩:Vl) a l c,VA (⟨kk,q,ByteArray.empty,[]⟩:Vl) b m d] w fun e w'=>TogOut w0 w e w' (doubleW 14 (⟨kk,p,ByteArray.empty,[]⟩:Vl) (⟨kk,q,ByteArray.empty,[]⟩:Vl))∧Below w.heap.size w w':=by
 obtain ⟨w3,hw3,g0,g1,g2,hb3,z3⟩:=boxes3 w (boxS (⟨kk,p,ByteArray.empty,[]⟩:Vl) a l c) (boxS (⟨kk,q,ByteArray.empty,[]⟩:Vl) b m d) boxZ
 have HX:=Lib.hid (hx.below hb3)
 have HY:=Lib.hid (hy.below hb3)
 have HXW:=Lib.hid hx
 have HYW:=Lib.hid hy
 have hl:=hx.1
 have hm:=hy.1
 have HB3:=Lib.hid hb3
 have G0:=Lib.hid g0
 have G1:=Lib.hid g1
 have G2:=Lib.hid (show w3.heap[w.heap.size+1+1]?=some boxZ from g2)
 have z30:w.heap.size < w3.heap.size:=by omega
 have z31:w.heap.size+1 < w3.heap.size:=by omega
 have z32:w.heap.size+1+1 < w3.heap.size:=by omega
 obtain ⟨c0,c1,c2,c3,-⟩:=box4 g0
 obtain ⟨d0,d1,d2,d3,-⟩:=box4 g1
 clear hx hy g0 g1 g2 hb3
 have HDW:=Lib.hid hdw
 clear hdw hl hm
 have c9:(p == q)=false:=by simp;omega
 go_enter Tryz.func76,Tryz.ntmps76
 go_upto_region 1 with (fail)
 rw [← hw3]
 clear hw3
 go_wp2_with (go_at_call 60;refine (boolean_any _ _).mono ?_;rintro e w4 ⟨rfl,hb4⟩;have G24:=Lib.hid ((hb4.block _ z32).trans G2.out);obtain ⟨r0,r1,r2,r3,f0,f1,f2,f3⟩:=box4 G24.out)
 refine bodyPost_ret (res2c Tryz.results76 _ _ (w.heap.size+1+1) _ _ _ _ _ (heap_box G24.out _ _ _ _) rfl rfl) rfl ?_
 exact ⟨.ok (z:=truthV true) rfl ⟨none,0,0,rfl,.inl (rz_nil1 w0)⟩ HDW.out,below_box (by omega) (HB3.out.trans (hb4.mono (by omega))) _ _ _ _⟩
theorem tog_ors14lt (w0 w:World) (s t:ByteArray) (a:Option Addr) (l c:Nat) (hx:RS 1 Sv w a l c ((⟨3,0,s,[]⟩:Vl):Vl).ss) (b:Option Addr) (m d:Nat) (hy:RS 1 Sv w b m d ((⟨3,0,t,[]⟩:Vl):Vl).ss) (hc:Op.bytesLess s.toList t.toList=true) (hc2:(s.toList == t.toList)=false) (hdw:doubleW 14 (⟨3,0,s,[]⟩:Vl) (⟨3,0,t,[]⟩:Vl)=.ok (truthV true)) :
 Calls Tryz.prog 76 #[.int .i64 14,VA (⟨3,0,s,[]⟩:Vl) a l c,VA (⟨3,0,t,[]⟩:Vl) b m d] w fun e w'=>TogOut w0 w e w' (doubleW 14 (⟨3,0,s,[]⟩:Vl) (⟨3,0,t,[]⟩:Vl))∧Below w.heap.size w w':=by
 obtain ⟨w3,hw3,g0,g1,g2,hb3,z3⟩:=boxes3 w (boxS (⟨3,0,s,[]⟩:Vl) a l c) (boxS (⟨3,0,t,[]⟩:Vl) b m d) boxZ
 have HX:=Lib.hid (hx.below hb3)
 have HY:=Lib.hid (hy.below hb3)
 have HXW:=Lib.hid hx
 have HYW:=Lib.hid hy
 have hl:=hx.1
 have hm:=hy.1
 have HB3:=Lib.hid hb3
 have G0:=Lib.hid g0
 have G1:=Lib.hid g1
 have G2:=Lib.hid (show w3.heap[w.heap.size+1+1]?=some boxZ from g2)
 have z30:w.heap.size < w3.heap.size:=by omega
 have z31:w.heap.size+1 < w3.heap.size:=by omega
 have z32:w.heap.size+1+1 < w3.heap.size:=by omega
 obtain ⟨c0,c1,c2,c3,-⟩:=box4 g0
 obtain ⟨d0,d1,d2,d3,-⟩:=box4 g1
 clear hx hy g0 g1 g2 hb3
 have HDW:=Lib.hid hdw
 clear hdw hl hm
 go_enter Tryz.func76,Tryz.ntmps76
 go_upto_region 1 with (fail)
 rw [← hw3]
 clear hw3
 go_wp2_with (go_at_call 60;refine (boolean_any _ _).mono ?_;rintro e w4 ⟨rfl,hb4⟩;have G24:=Lib.hid ((hb4.block _ z32).trans G2.out);obtain ⟨r0,r1,r2,r3,f0,f1,f2,f3⟩:=box4 G24.out)
 refine bodyPost_ret (res2c Tryz.results76 _ _ (w.heap.size+1+1) _ _ _ _ _ (heap_box G24.out _ _ _ _) rfl rfl) rfl ?_
 exact ⟨.ok (z:=truthV true) rfl ⟨none,0,0,rfl,.inl (rz_nil1 w0)⟩ HDW.out,below_box (by omega) (HB3.out.trans (hb4.mono (by omega))) _ _ _ _⟩
theorem tog_ord14eq (w0 w:World) (kk p q:Int) (a:Option Addr) (l c:Nat) (hx:RS 1 Sv w a l c ((⟨kk,p,ByteArray.empty,[]⟩:Vl):Vl).ss) (b:Option Addr) (m d:Nat) (hy:RS 1 Sv w b m d ((⟨kk,q,ByteArray.empty,[]⟩:Vl):Vl).ss) (hc:p=q) (hdw:doubleW 14 (⟨kk,p,ByteArray.empty,[]⟩:Vl) (⟨kk,q,ByteArray.empty,[]⟩:Vl)=.ok (truthV true)) :
 Calls Tryz.prog 76 #[.int .i64 14,VA (⟨kk,p,ByteArray.empty,[]⟩:Vl) a l c,VA (⟨kk,q,ByteArray.empty,[]⟩:Vl) b m d] w fun e w'=>TogOut w0 w e w' (doubleW 14 (⟨kk,p,ByteArray.empty,[]⟩:Vl) (⟨kk,q,ByteArray.empty,[]⟩:Vl))∧Below w.heap.size w w':=by
 obtain ⟨w3,hw3,g0,g1,g2,hb3,z3⟩:=boxes3 w (boxS (⟨kk,p,ByteArray.empty,[]⟩:Vl) a l c) (boxS (⟨kk,q,ByteArray.empty,[]⟩:Vl) b m d) boxZ
 have HX:=Lib.hid (hx.below hb3)
 have HY:=Lib.hid (hy.below hb3)
 have HXW:=Lib.hid hx
 have HYW:=Lib.hid hy
 have hl:=hx.1
 have hm:=hy.1
 have HB3:=Lib.hid hb3
 have G0:=Lib.hid g0
 have G1:=Lib.hid g1
 have G2:=Lib.hid (show w3.heap[w.heap.size+1+1]?=some boxZ from g2)
 have z30:w.heap.size < w3.heap.size:=by omega
 have z31:w.heap.size+1 < w3.heap.size:=by omega
 have z32:w.heap.size+1+1 < w3.heap.size:=by omega
 obtain ⟨c0,c1,c2,c3,-⟩:=box4 g0
 obtain ⟨d0,d1,d2,d3,-⟩:=box4 g1
 clear hx hy g0 g1 g2 hb3
 have HDW:=Lib.hid hdw
 clear hdw hl hm
 subst hc
 go_enter Tryz.func76,Tryz.ntmps76
 go_upto_region 1 with (fail)
 rw [← hw3]
 clear hw3
 go_wp2_with (go_at_call 60;refine (boolean_any _ _).mono ?_;rintro e w4 ⟨rfl,hb4⟩;have G24:=Lib.hid ((hb4.block _ z32).trans G2.out);obtain ⟨r0,r1,r2,r3,f0,f1,f2,f3⟩:=box4 G24.out)
 refine bodyPost_ret (res2c Tryz.results76 _ _ (w.heap.size+1+1) _ _ _ _ _ (heap_box G24.out _ _ _ _) rfl rfl) rfl ?_
 exact ⟨.ok (z:=truthV true) rfl ⟨none,0,0,rfl,.inl (rz_nil1 w0)⟩ HDW.out,below_box (by omega) (HB3.out.trans (hb4.mono (by omega))) _ _ _ _⟩
theorem tog_ors14eq (w0 w:World) (s t:ByteArray) (a:Option Addr) (l c:Nat) (hx:RS 1 Sv w a l c ((⟨3,0,s,[]⟩:Vl):Vl).ss) (b:Option Addr) (m d:Nat) (hy:RS 1 Sv w b m d ((⟨3,0,t,[]⟩:Vl):Vl).ss) (hc:Op.bytesLess s.toList t.toList=false) (hc2:(s.toList == t.toList)=true) (hdw:doubleW 14 (⟨3,0,s,[]⟩:Vl) (⟨3,0,t,[]⟩:Vl)=.ok (truthV true)) :
 Calls Tryz.prog 76 #[.int .i64 14,VA (⟨3,0,s,[]⟩:Vl) a l c,VA (⟨3,0,t,[]⟩:Vl) b m d] w fun e w'=>TogOut w0 w e w' (doubleW 14 (⟨3,0,s,[]⟩:Vl) (⟨3,0,t,[]⟩:Vl))∧Below w.heap.size w w':=by
 obtain ⟨w3,hw3,g0,g1,g2,hb3,z3⟩:=boxes3 w (boxS (⟨3,0,s,[]⟩:Vl) a l c) (boxS (⟨3,0,t,[]⟩:Vl) b m d) boxZ
 have HX:=Lib.hid (hx.below hb3)
 have HY:=Lib.hid (hy.below hb3)
 have HXW:=Lib.hid hx
 have HYW:=Lib.hid hy
 have hl:=hx.1
 have hm:=hy.1
 have HB3:=Lib.hid hb3
 have G0:=Lib.hid g0
 have G1:=Lib.hid g1
 have G2:=Lib.hid (show w3.heap[w.heap.size+1+1]?=some boxZ from g2)
 have z30:w.heap.size < w3.heap.size:=by omega
 have z31:w.heap.size+1 < w3.heap.size:=by omega
 have z32:w.heap.size+1+1 < w3.heap.size:=by omega
 obtain ⟨c0,c1,c2,c3,-⟩:=box4 g0
 obtain ⟨d0,d1,d2,d3,-⟩:=box4 g1
 clear hx hy g0 g1 g2 hb3
 have HDW:=Lib.hid hdw
 clear hdw hl hm
 go_enter Tryz.func76,Tryz.ntmps76
 go_upto_region 1 with (fail)
 rw [← hw3]
 clear hw3
 go_wp2_with (go_at_call 60;refine (boolean_any _ _).mono ?_;rintro e w4 ⟨rfl,hb4⟩;have G24:=Lib.hid ((hb4.block _ z32).trans G2.out);obtain ⟨r0,r1,r2,r3,f0,f1,f2,f3⟩:=box4 G24.out)
 refine bodyPost_ret (res2c Tryz.results76 _ _ (w.heap.size+1+1) _ _ _ _ _ (heap_box G24.out _ _ _ _) rfl rfl) rfl ?_
 exact ⟨.ok (z:=truthV true) rfl ⟨none,0,0,rfl,.inl (rz_nil1 w0)⟩ HDW.out,below_box (by omega) (HB3.out.trans (hb4.mono (by omega))) _ _ _ _⟩
theorem tog_ord14gt (w0 w:World) (kk p q:Int) (a:Option Addr) (l c:Nat) (hx:RS 1 Sv w a l c ((⟨kk,p,ByteArray.empty,[]⟩:Vl):Vl).ss) (b:Option Addr) (m d:Nat) (hy:RS 1 Sv w b m d ((⟨kk,q,ByteArray.empty,[]⟩:Vl):Vl).ss) (hc:q < p) (hdw:doubleW 14 (⟨kk,p,ByteArray.empty,[]⟩:Vl) (⟨kk,q,ByteArray.empty,[]⟩:Vl)=.ok (truthV false)) :
 Calls Tryz.prog 76 #[.int .i64 14,VA (⟨kk,p,ByteArray.empty,[]⟩:Vl) a l c,VA (⟨kk,q,ByteArray.empty,[]⟩:Vl) b m d] w fun e w'=>TogOut w0 w e w' (doubleW 14 (⟨kk,p,ByteArray.empty,[]⟩:Vl) (⟨kk,q,ByteArray.empty,[]⟩:Vl))∧Below w.heap.size w w':=by
 obtain ⟨w3,hw3,g0,g1,g2,hb3,z3⟩:=boxes3 w (boxS (⟨kk,p,ByteArray.empty,[]⟩:Vl) a l c) (boxS (⟨kk,q,ByteArray.empty,[]⟩:Vl) b m d) boxZ
 have HX:=Lib.hid (hx.below hb3)
 have HY:=Lib.hid (hy.below hb3)
 have HXW:=Lib.hid hx
 have HYW:=Lib.hid hy
 have hl:=hx.1
 have hm:=hy.1
 have HB3:=Lib.hid hb3
 have G0:=Lib.hid g0
 have G1:=Lib.hid g1
 have G2:=Lib.hid (show w3.heap[w.heap.size+1+1]?=some boxZ from g2)
 have z30:w.heap.size < w3.heap.size:=by omega
 have z31:w.heap.size+1 < w3.heap.size:=by omega
 have z32:w.heap.size+1+1 < w3.heap.size:=by omega
 obtain ⟨c0,c1,c2,c3,-⟩:=box4 g0
 obtain ⟨d0,d1,d2,d3,-⟩:=box4 g1
 clear hx hy g0 g1 g2 hb3
 have HDW:=Lib.hid hdw
 clear hdw hl hm
 have c8:¬ p < q:=by omega
 have c9:(p == q)=false:=by simp;omega
 go_enter Tryz.func76,Tryz.ntmps76
 go_upto_region 1 with (fail)
 rw [← hw3]
 clear hw3
 go_wp2_with (go_at_call 60;refine (boolean_any _ _).mono ?_;rintro e w4 ⟨rfl,hb4⟩;have G24:=Lib.hid ((hb4.block _ z32).trans G2.out);obtain ⟨r0,r1,r2,r3,f0,f1,f2,f3⟩:=box4 G24.out)
 refine bodyPost_ret (res2c Tryz.results76 _ _ (w.heap.size+1+1) _ _ _ _ _ (heap_box G24.out _ _ _ _) rfl rfl) rfl ?_
 exact ⟨.ok (z:=truthV false) rfl ⟨none,0,0,rfl,.inl (rz_nil1 w0)⟩ HDW.out,below_box (by omega) (HB3.out.trans (hb4.mono (by omega))) _ _ _ _⟩
theorem tog_ors14gt (w0 w:World) (s t:ByteArray) (a:Option Addr) (l c:Nat) (hx:RS 1 Sv w a l c ((⟨3,0,s,[]⟩:Vl):Vl).ss) (b:Option Addr) (m d:Nat) (hy:RS 1 Sv w b m d ((⟨3,0,t,[]⟩:Vl):Vl).ss) (hc:Op.bytesLess s.toList t.toList=false) (hc2:(s.toList == t.toList)=false) (hdw:doubleW 14 (⟨3,0,s,[]⟩:Vl) (⟨3,0,t,[]⟩:Vl)=.ok (truthV false)) :
 Calls Tryz.prog 76 #[.int .i64 14,VA (⟨3,0,s,[]⟩:Vl) a l c,VA (⟨3,0,t,[]⟩:Vl) b m d] w fun e w'=>TogOut w0 w e w' (doubleW 14 (⟨3,0,s,[]⟩:Vl) (⟨3,0,t,[]⟩:Vl))∧Below w.heap.size w w':=by
 obtain ⟨w3,hw3,g0,g1,g2,hb3,z3⟩:=boxes3 w (boxS (⟨3,0,s,[]⟩:Vl) a l c) (boxS (⟨3,0,t,[]⟩:Vl) b m d) boxZ
 have HX:=Lib.hid (hx.below hb3)
 have HY:=Lib.hid (hy.below hb3)
 have HXW:=Lib.hid hx
 have HYW:=Lib.hid hy
 have hl:=hx.1
 have hm:=hy.1
 have HB3:=Lib.hid hb3
 have G0:=Lib.hid g0
 have G1:=Lib.hid g1
 have G2:=Lib.hid (show w3.heap[w.heap.size+1+1]?=some boxZ from g2)
 have z30:w.heap.size < w3.heap.size:=by omega
 have z31:w.heap.size+1 < w3.heap.size:=by omega
 have z32:w.heap.size+1+1 < w3.heap.size:=by omega
 obtain ⟨c0,c1,c2,c3,-⟩:=box4 g0
 obtain ⟨d0,d1,d2,d3,-⟩:=box4 g1
 clear hx hy g0 g1 g2 hb3
 have HDW:=Lib.hid hdw
 clear hdw hl hm
 go_enter Tryz.func76,Tryz.ntmps76
 go_upto_region 1 with (fail)
 rw [← hw3]
 clear hw3
 go_wp2_with (go_at_call 60;refine (boolean_any _ _).mono ?_;rintro e w4 ⟨rfl,hb4⟩;have G24:=Lib.hid ((hb4.block _ z32).trans G2.out);obtain ⟨r0,r1,r2,r3,f0,f1,f2,f3⟩:=box4 G24.out)
 refine bodyPost_ret (res2c Tryz.results76 _ _ (w.heap.size+1+1) _ _ _ _ _ (heap_box G24.out _ _ _ _) rfl rfl) rfl ?_
 exact ⟨.ok (z:=truthV false) rfl ⟨none,0,0,rfl,.inl (rz_nil1 w0)⟩ HDW.out,below_box (by omega) (HB3.out.trans (hb4.mono (by omega))) _ _ _ _⟩
theorem tog_ord15lt (w0 w:World) (kk p q:Int) (a:Option Addr) (l c:Nat) (hx:RS 1 Sv w a l c ((⟨kk,p,ByteArray.empty,[]⟩:Vl):Vl).ss) (b:Option Addr) (m d:Nat) (hy:RS 1 Sv w b m d ((⟨kk,q,ByteArray.empty,[]⟩:Vl):Vl).ss) (hc:p < q) (hdw:doubleW 15 (⟨kk,p,ByteArray.empty,[]⟩:Vl) (⟨kk,q,ByteArray.empty,[]⟩:Vl)=.ok (truthV false)) :
 Calls Tryz.prog 76 #[.int .i64 15,VA (⟨kk,p,ByteArray.empty,[]⟩:Vl) a l c,VA (⟨kk,q,ByteArray.empty,[]⟩:Vl) b m d] w fun e w'=>TogOut w0 w e w' (doubleW 15 (⟨kk,p,ByteArray.empty,[]⟩:Vl) (⟨kk,q,ByteArray.empty,[]⟩:Vl))∧Below w.heap.size w w':=by
 obtain ⟨w3,hw3,g0,g1,g2,hb3,z3⟩:=boxes3 w (boxS (⟨kk,p,ByteArray.empty,[]⟩:Vl) a l c) (boxS (⟨kk,q,ByteArray.empty,[]⟩:Vl) b m d) boxZ
 have HX:=Lib.hid (hx.below hb3)
 have HY:=Lib.hid (hy.below hb3)
 have HXW:=Lib.hid hx
 have HYW:=Lib.hid hy
 have hl:=hx.1
 have hm:=hy.1
 have HB3:=Lib.hid hb3
 have G0:=Lib.hid g0
 have G1:=Lib.hid g1
 have G2:=Lib.hid (show w3.heap[w.heap.size+1+1]?=some boxZ from g2)
 have z30:w.heap.size < w3.heap.size:=by omega
 have z31:w.heap.size+1 < w3.heap.size:=by omega
 have z32:w.heap.size+1+1 < w3.heap.size:=by omega
 obtain ⟨c0,c1,c2,c3,-⟩:=box4 g0
 obtain ⟨d0,d1,d2,d3,-⟩:=box4 g1
 clear hx hy g0 g1 g2 hb3
 have HDW:=Lib.hid hdw
 clear hdw hl hm
 have c9:(p == q)=false:=by simp;omega
 go_enter Tryz.func76,Tryz.ntmps76
 go_upto_region 1 with (fail)
 rw [← hw3]
 clear hw3
 go_wp2_with (go_at_call 60;refine (boolean_any _ _).mono ?_;rintro e w4 ⟨rfl,hb4⟩;have G24:=Lib.hid ((hb4.block _ z32).trans G2.out);obtain ⟨r0,r1,r2,r3,f0,f1,f2,f3⟩:=box4 G24.out)
 refine bodyPost_ret (res2c Tryz.results76 _ _ (w.heap.size+1+1) _ _ _ _ _ (heap_box G24.out _ _ _ _) rfl rfl) rfl ?_
 exact ⟨.ok (z:=truthV false) rfl ⟨none,0,0,rfl,.inl (rz_nil1 w0)⟩ HDW.out,below_box (by omega) (HB3.out.trans (hb4.mono (by omega))) _ _ _ _⟩
theorem tog_ors15lt (w0 w:World) (s t:ByteArray) (a:Option Addr) (l c:Nat) (hx:RS 1 Sv w a l c ((⟨3,0,s,[]⟩:Vl):Vl).ss) (b:Option Addr) (m d:Nat) (hy:RS 1 Sv w b m d ((⟨3,0,t,[]⟩:Vl):Vl).ss) (hc:Op.bytesLess s.toList t.toList=true) (hc2:(s.toList == t.toList)=false) (hdw:doubleW 15 (⟨3,0,s,[]⟩:Vl) (⟨3,0,t,[]⟩:Vl)=.ok (truthV false)) :
 Calls Tryz.prog 76 #[.int .i64 15,VA (⟨3,0,s,[]⟩:Vl) a l c,VA (⟨3,0,t,[]⟩:Vl) b m d] w fun e w'=>TogOut w0 w e w' (doubleW 15 (⟨3,0,s,[]⟩:Vl) (⟨3,0,t,[]⟩:Vl))∧Below w.heap.size w w':=by
 obtain ⟨w3,hw3,g0,g1,g2,hb3,z3⟩:=boxes3 w (boxS (⟨3,0,s,[]⟩:Vl) a l c) (boxS (⟨3,0,t,[]⟩:Vl) b m d) boxZ
 have HX:=Lib.hid (hx.below hb3)
 have HY:=Lib.hid (hy.below hb3)
 have HXW:=Lib.hid hx
 have HYW:=Lib.hid hy
 have hl:=hx.1
 have hm:=hy.1
 have HB3:=Lib.hid hb3
 have G0:=Lib.hid g0
 have G1:=Lib.hid g1
 have G2:=Lib.hid (show w3.heap[w.heap.size+1+1]?=some boxZ from g2)
 have z30:w.heap.size < w3.heap.size:=by omega
 have z31:w.heap.size+1 < w3.heap.size:=by omega
 have z32:w.heap.size+1+1 < w3.heap.size:=by omega
 obtain ⟨c0,c1,c2,c3,-⟩:=box4 g0
 obtain ⟨d0,d1,d2,d3,-⟩:=box4 g1
 clear hx hy g0 g1 g2 hb3
 have HDW:=Lib.hid hdw
 clear hdw hl hm
 go_enter Tryz.func76,Tryz.ntmps76
 go_upto_region 1 with (fail)
 rw [← hw3]
 clear hw3
 go_wp2_with (go_at_call 60;refine (boolean_any _ _).mono ?_;rintro e w4 ⟨rfl,hb4⟩;have G24:=Lib.hid ((hb4.block _ z32).trans G2.out);obtain ⟨r0,r1,r2,r3,f0,f1,f2,f3⟩:=box4 G24.out)
 refine bodyPost_ret (res2c Tryz.results76 _ _ (w.heap.size+1+1) _ _ _ _ _ (heap_box G24.out _ _ _ _) rfl rfl) rfl ?_
 exact ⟨.ok (z:=truthV false) rfl ⟨none,0,0,rfl,.inl (rz_nil1 w0)⟩ HDW.out,below_box (by omega) (HB3.out.trans (hb4.mono (by omega))) _ _ _ _⟩
theorem tog_ord15eq (w0 w:World) (kk p q:Int) (a:Option Addr) (l c:Nat) (hx:RS 1 Sv w a l c ((⟨kk,p,ByteArray.empty,[]⟩:Vl):Vl).ss) (b:Option Addr) (m d:Nat) (hy:RS 1 Sv w b m d ((⟨kk,q,ByteArray.empty,[]⟩:Vl):Vl).ss) (hc:p=q) (hdw:doubleW 15 (⟨kk,p,ByteArray.empty,[]⟩:Vl) (⟨kk,q,ByteArray.empty,[]⟩:Vl)=.ok (truthV false)) :
 Calls Tryz.prog 76 #[.int .i64 15,VA (⟨kk,p,ByteArray.empty,[]⟩:Vl) a l c,VA (⟨kk,q,ByteArray.empty,[]⟩:Vl) b m d] w fun e w'=>TogOut w0 w e w' (doubleW 15 (⟨kk,p,ByteArray.empty,[]⟩:Vl) (⟨kk,q,ByteArray.empty,[]⟩:Vl))∧Below w.heap.size w w':=by
 obtain ⟨w3,hw3,g0,g1,g2,hb3,z3⟩:=boxes3 w (boxS (⟨kk,p,ByteArray.empty,[]⟩:Vl) a l c) (boxS (⟨kk,q,ByteArray.empty,[]⟩:Vl) b m d) boxZ
 have HX:=Lib.hid (hx.below hb3)
 have HY:=Lib.hid (hy.below hb3)
 have HXW:=Lib.hid hx
 have HYW:=Lib.hid hy
 have hl:=hx.1
 have hm:=hy.1
 have HB3:=Lib.hid hb3
 have G0:=Lib.hid g0
 have G1:=Lib.hid g1
 have G2:=Lib.hid (show w3.heap[w.heap.size+1+1]?=some boxZ from g2)
 have z30:w.heap.size < w3.heap.size:=by omega
 have z31:w.heap.size+1 < w3.heap.size:=by omega
 have z32:w.heap.size+1+1 < w3.heap.size:=by omega
 obtain ⟨c0,c1,c2,c3,-⟩:=box4 g0
 obtain ⟨d0,d1,d2,d3,-⟩:=box4 g1
 clear hx hy g0 g1 g2 hb3
 have HDW:=Lib.hid hdw
 clear hdw hl hm
 subst hc
 go_enter Tryz.func76,Tryz.ntmps76
 go_upto_region 1 with (fail)
 rw [← hw3]
 clear hw3
 go_wp2_with (go_at_call 60;refine (boolean_any _ _).mono ?_;rintro e w4 ⟨rfl,hb4⟩;have G24:=Lib.hid ((hb4.block _ z32).trans G2.out);obtain ⟨r0,r1,r2,r3,f0,f1,f2,f3⟩:=box4 G24.out)
 refine bodyPost_ret (res2c Tryz.results76 _ _ (w.heap.size+1+1) _ _ _ _ _ (heap_box G24.out _ _ _ _) rfl rfl) rfl ?_
 exact ⟨.ok (z:=truthV false) rfl ⟨none,0,0,rfl,.inl (rz_nil1 w0)⟩ HDW.out,below_box (by omega) (HB3.out.trans (hb4.mono (by omega))) _ _ _ _⟩
theorem tog_ors15eq (w0 w:World) (s t:ByteArray) (a:Option Addr) (l c:Nat) (hx:RS 1 Sv w a l c ((⟨3,0,s,[]⟩:Vl):Vl).ss) (b:Option Addr) (m d:Nat) (hy:RS 1 Sv w b m d ((⟨3,0,t,[]⟩:Vl):Vl).ss) (hc:Op.bytesLess s.toList t.toList=false) (hc2:(s.toList == t.toList)=true) (hdw:doubleW 15 (⟨3,0,s,[]⟩:Vl) (⟨3,0,t,[]⟩:Vl)=.ok (truthV false)) :
 Calls Tryz.prog 76 #[.int .i64 15,VA (⟨3,0,s,[]⟩:Vl) a l c,VA (⟨3,0,t,[]⟩:Vl) b m d] w fun e w'=>TogOut w0 w e w' (doubleW 15 (⟨3,0,s,[]⟩:Vl) (⟨3,0,t,[]⟩:Vl))∧Below w.heap.size w w':=by
 obtain ⟨w3,hw3,g0,g1,g2,hb3,z3⟩:=boxes3 w (boxS (⟨3,0,s,[]⟩:Vl) a l c) (boxS (⟨3,0,t,[]⟩:Vl) b m d) boxZ
 have HX:=Lib.hid (hx.below hb3)
 have HY:=Lib.hid (hy.below hb3)
 have HXW:=Lib.hid hx
 have HYW:=Lib.hid hy
 have hl:=hx.1
 have hm:=hy.1
 have HB3:=Lib.hid hb3
 have G0:=Lib.hid g0
 have G1:=Lib.hid g1
 have G2:=Lib.hid (show w3.heap[w.heap.size+1+1]?=some boxZ from g2)
 have z30:w.heap.size < w3.heap.size:=by omega
 have z31:w.heap.size+1 < w3.heap.size:=by omega
 have z32:w.heap.size+1+1 < w3.heap.size:=by omega
 obtain ⟨c0,c1,c2,c3,-⟩:=box4 g0
 obtain ⟨d0,d1,d2,d3,-⟩:=box4 g1
 clear hx hy g0 g1 g2 hb3
 have HDW:=Lib.hid hdw
 clear hdw hl hm
 go_enter Tryz.func76,Tryz.ntmps76
 go_upto_region 1 with (fail)
 rw [← hw3]
 clear hw3
 go_wp2_with (go_at_call 60;refine (boolean_any _ _).mono ?_;rintro e w4 ⟨rfl,hb4⟩;have G24:=Lib.hid ((hb4.block _ z32).trans G2.out);obtain ⟨r0,r1,r2,r3,f0,f1,f2,f3⟩:=box4 G24.out)
 refine bodyPost_ret (res2c Tryz.results76 _ _ (w.heap.size+1+1) _ _ _ _ _ (heap_box G24.out _ _ _ _) rfl rfl) rfl ?_
 exact ⟨.ok (z:=truthV false) rfl ⟨none,0,0,rfl,.inl (rz_nil1 w0)⟩ HDW.out,below_box (by omega) (HB3.out.trans (hb4.mono (by omega))) _ _ _ _⟩
theorem tog_ord15gt (w0 w:World) (kk p q:Int) (a:Option Addr) (l c:Nat) (hx:RS 1 Sv w a l c ((⟨kk,p,ByteArray.empty,[]⟩:Vl):Vl).ss) (b:Option Addr) (m d:Nat) (hy:RS 1 Sv w b m d ((⟨kk,q,ByteArray.empty,[]⟩:Vl):Vl).ss) (hc:q < p) (hdw:doubleW 15 (⟨kk,p,ByteArray.empty,[]⟩:Vl) (⟨kk,q,ByteArray.empty,[]⟩:Vl)=.ok (truthV true)) :
 Calls Tryz.prog 76 #[.int .i64 15,VA (⟨kk,p,ByteArray.empty,[]⟩:Vl) a l c,VA (⟨kk,q,ByteArray.empty,[]⟩:Vl) b m d] w fun e w'=>TogOut w0 w e w' (doubleW 15 (⟨kk,p,ByteArray.empty,[]⟩:Vl) (⟨kk,q,ByteArray.empty,[]⟩:Vl))∧Below w.heap.size w w':=by
 obtain ⟨w3,hw3,g0,g1,g2,hb3,z3⟩:=boxes3 w (boxS (⟨kk,p,ByteArray.empty,[]⟩:Vl) a l c) (boxS (⟨kk,q,ByteArray.empty,[]⟩:Vl) b m d) boxZ
 have HX:=Lib.hid (hx.below hb3)
 have HY:=Lib.hid (hy.below hb3)
 have HXW:=Lib.hid hx
 have HYW:=Lib.hid hy
 have hl:=hx.1
 have hm:=hy.1
 have HB3:=Lib.hid hb3
 have G0:=Lib.hid g0
 have G1:=Lib.hid g1
 have G2:=Lib.hid (show w3.heap[w.heap.size+1+1]?=some boxZ from g2)
 have z30:w.heap.size < w3.heap.size:=by omega
 have z31:w.heap.size+1 < w3.heap.size:=by omega
 have z32:w.heap.size+1+1 < w3.heap.size:=by omega
 obtain ⟨c0,c1,c2,c3,-⟩:=box4 g0
 obtain ⟨d0,d1,d2,d3,-⟩:=box4 g1
 clear hx hy g0 g1 g2 hb3
 have HDW:=Lib.hid hdw
 clear hdw hl hm
 have c8:¬ p < q:=by omega
 have c9:(p == q)=false:=by simp;omega
 go_enter Tryz.func76,Tryz.ntmps76
 go_upto_region 1 with (fail)
 rw [← hw3]
 clear hw3
 go_wp2_with (go_at_call 60;refine (boolean_any _ _).mono ?_;rintro e w4 ⟨rfl,hb4⟩;have G24:=Lib.hid ((hb4.block _ z32).trans G2.out);obtain ⟨r0,r1,r2,r3,f0,f1,f2,f3⟩:=box4 G24.out)
 refine bodyPost_ret (res2c Tryz.results76 _ _ (w.heap.size+1+1) _ _ _ _ _ (heap_box G24.out _ _ _ _) rfl rfl) rfl ?_
 exact ⟨.ok (z:=truthV true) rfl ⟨none,0,0,rfl,.inl (rz_nil1 w0)⟩ HDW.out,below_box (by omega) (HB3.out.trans (hb4.mono (by omega))) _ _ _ _⟩
theorem tog_ors15gt (w0 w:World) (s t:ByteArray) (a:Option Addr) (l c:Nat) (hx:RS 1 Sv w a l c ((⟨3,0,s,[]⟩:Vl):Vl).ss) (b:Option Addr) (m d:Nat) (hy:RS 1 Sv w b m d ((⟨3,0,t,[]⟩:Vl):Vl).ss) (hc:Op.bytesLess s.toList t.toList=false) (hc2:(s.toList == t.toList)=false) (hdw:doubleW 15 (⟨3,0,s,[]⟩:Vl) (⟨3,0,t,[]⟩:Vl)=.ok (truthV true)) :
 Calls Tryz.prog 76 #[.int .i64 15,VA (⟨3,0,s,[]⟩:Vl) a l c,VA (⟨3,0,t,[]⟩:Vl) b m d] w fun e w'=>TogOut w0 w e w' (doubleW 15 (⟨3,0,s,[]⟩:Vl) (⟨3,0,t,[]⟩:Vl))∧Below w.heap.size w w':=by
 obtain ⟨w3,hw3,g0,g1,g2,hb3,z3⟩:=boxes3 w (boxS (⟨3,0,s,[]⟩:Vl) a l c) (boxS (⟨3,0,t,[]⟩:Vl) b m d) boxZ
 have HX:=Lib.hid (hx.below hb3)
 have HY:=Lib.hid (hy.below hb3)
 have HXW:=Lib.hid hx
 have HYW:=Lib.hid hy
 have hl:=hx.1
 have hm:=hy.1
 have HB3:=Lib.hid hb3
 have G0:=Lib.hid g0
 have G1:=Lib.hid g1
 have G2:=Lib.hid (show w3.heap[w.heap.size+1+1]?=some boxZ from g2)
 have z30:w.heap.size < w3.heap.size:=by omega
 have z31:w.heap.size+1 < w3.heap.size:=by omega
 have z32:w.heap.size+1+1 < w3.heap.size:=by omega
 obtain ⟨c0,c1,c2,c3,-⟩:=box4 g0
 obtain ⟨d0,d1,d2,d3,-⟩:=box4 g1
 clear hx hy g0 g1 g2 hb3
 have HDW:=Lib.hid hdw
 clear hdw hl hm
 go_enter Tryz.func76,Tryz.ntmps76
 go_upto_region 1 with (fail)
 rw [← hw3]
 clear hw3
 go_wp2_with (go_at_call 60;refine (boolean_any _ _).mono ?_;rintro e w4 ⟨rfl,hb4⟩;have G24:=Lib.hid ((hb4.block _ z32).trans G2.out);obtain ⟨r0,r1,r2,r3,f0,f1,f2,f3⟩:=box4 G24.out)
 refine bodyPost_ret (res2c Tryz.results76 _ _ (w.heap.size+1+1) _ _ _ _ _ (heap_box G24.out _ _ _ _) rfl rfl) rfl ?_
 exact ⟨.ok (z:=truthV true) rfl ⟨none,0,0,rfl,.inl (rz_nil1 w0)⟩ HDW.out,below_box (by omega) (HB3.out.trans (hb4.mono (by omega))) _ _ _ _⟩
theorem tog_ord16lt (w0 w:World) (kk p q:Int) (a:Option Addr) (l c:Nat) (hx:RS 1 Sv w a l c ((⟨kk,p,ByteArray.empty,[]⟩:Vl):Vl).ss) (b:Option Addr) (m d:Nat) (hy:RS 1 Sv w b m d ((⟨kk,q,ByteArray.empty,[]⟩:Vl):Vl).ss) (hc:p < q) (hdw:doubleW 16 (⟨kk,p,ByteArray.empty,[]⟩:Vl) (⟨kk,q,ByteArray.empty,[]⟩:Vl)=.ok (truthV false)) :
 Calls Tryz.prog 76 #[.int .i64 16,VA (⟨kk,p,ByteArray.empty,[]⟩:Vl) a l c,VA (⟨kk,q,ByteArray.empty,[]⟩:Vl) b m d] w fun e w'=>TogOut w0 w e w' (doubleW 16 (⟨kk,p,ByteArray.empty,[]⟩:Vl) (⟨kk,q,ByteArray.empty,[]⟩:Vl))∧Below w.heap.size w w':=by
 obtain ⟨w3,hw3,g0,g1,g2,hb3,z3⟩:=boxes3 w (boxS (⟨kk,p,ByteArray.empty,[]⟩:Vl) a l c) (boxS (⟨kk,q,ByteArray.empty,[]⟩:Vl) b m d) boxZ
 have HX:=Lib.hid (hx.below hb3)
 have HY:=Lib.hid (hy.below hb3)
 have HXW:=Lib.hid hx
 have HYW:=Lib.hid hy
 have hl:=hx.1
 have hm:=hy.1
 have HB3:=Lib.hid hb3
 have G0:=Lib.hid g0
 have G1:=Lib.hid g1
 have G2:=Lib.hid (show w3.heap[w.heap.size+1+1]?=some boxZ from g2)
 have z30:w.heap.size < w3.heap.size:=by omega
 have z31:w.heap.size+1 < w3.heap.size:=by omega
 have z32:w.heap.size+1+1 < w3.heap.size:=by omega
 obtain ⟨c0,c1,c2,c3,-⟩:=box4 g0
 obtain ⟨d0,d1,d2,d3,-⟩:=box4 g1
 clear hx hy g0 g1 g2 hb3
 have HDW:=Lib.hid hdw
 clear hdw hl hm
 have c9:(p == q)=false:=by simp;omega
 go_enter Tryz.func76,Tryz.ntmps76
 go_upto_region 1 with (fail)
 rw [← hw3]
 clear hw3
 go_wp2_with (go_at_call 60;refine (boolean_any _ _).mono ?_;rintro e w4 ⟨rfl,hb4⟩;have G24:=Lib.hid ((hb4.block _ z32).trans G2.out);obtain ⟨r0,r1,r2,r3,f0,f1,f2,f3⟩:=box4 G24.out)
 refine bodyPost_ret (res2c Tryz.results76 _ _ (w.heap.size+1+1) _ _ _ _ _ (heap_box G24.out _ _ _ _) rfl rfl) rfl ?_
 exact ⟨.ok (z:=truthV false) rfl ⟨none,0,0,rfl,.inl (rz_nil1 w0)⟩ HDW.out,below_box (by omega) (HB3.out.trans (hb4.mono (by omega))) _ _ _ _⟩
theorem tog_ors16lt (w0 w:World) (s t:ByteArray) (a:Option Addr) (l c:Nat) (hx:RS 1 Sv w a l c ((⟨3,0,s,[]⟩:Vl):Vl).ss) (b:Option Addr) (m d:Nat) (hy:RS 1 Sv w b m d ((⟨3,0,t,[]⟩:Vl):Vl).ss) (hc:Op.bytesLess s.toList t.toList=true) (hc2:(s.toList == t.toList)=false) (hdw:doubleW 16 (⟨3,0,s,[]⟩:Vl) (⟨3,0,t,[]⟩:Vl)=.ok (truthV false)) :
 Calls Tryz.prog 76 #[.int .i64 16,VA (⟨3,0,s,[]⟩:Vl) a l c,VA (⟨3,0,t,[]⟩:Vl) b m d] w fun e w'=>TogOut w0 w e w' (doubleW 16 (⟨3,0,s,[]⟩:Vl) (⟨3,0,t,[]⟩:Vl))∧Below w.heap.size w w':=by
 obtain ⟨w3,hw3,g0,g1,g2,hb3,z3⟩:=boxes3 w (boxS (⟨3,0,s,[]⟩:Vl) a l c) (boxS (⟨3,0,t,[]⟩:Vl) b m d) boxZ
 have HX:=Lib.hid (hx.below hb3)
 have HY:=Lib.hid (hy.below hb3)
 have HXW:=Lib.hid hx
 have HYW:=Lib.hid hy
 have hl:=hx.1
 have hm:=hy.1
 have HB3:=Lib.hid hb3
 have G0:=Lib.hid g0
 have G1:=Lib.hid g1
 have G2:=Lib.hid (show w3.heap[w.heap.size+1+1]?=some boxZ from g2)
 have z30:w.heap.size < w3.heap.size:=by omega
 have z31:w.heap.size+1 < w3.heap.size:=by omega
 have z32:w.heap.size+1+1 < w3.heap.size:=by omega
 obtain ⟨c0,c1,c2,c3,-⟩:=box4 g0
 obtain ⟨d0,d1,d2,d3,-⟩:=box4 g1
 clear hx hy g0 g1 g2 hb3
 have HDW:=Lib.hid hdw
 clear hdw hl hm
 go_enter Tryz.func76,Tryz.ntmps76
 go_upto_region 1 with (fail)
 rw [← hw3]
 clear hw3
 go_wp2_with (go_at_call 60;refine (boolean_any _ _).mono ?_;rintro e w4 ⟨rfl,hb4⟩;have G24:=Lib.hid ((hb4.block _ z32).trans G2.out);obtain ⟨r0,r1,r2,r3,f0,f1,f2,f3⟩:=box4 G24.out)
 refine bodyPost_ret (res2c Tryz.results76 _ _ (w.heap.size+1+1) _ _ _ _ _ (heap_box G24.out _ _ _ _) rfl rfl) rfl ?_
 exact ⟨.ok (z:=truthV false) rfl ⟨none,0,0,rfl,.inl (rz_nil1 w0)⟩ HDW.out,below_box (by omega) (HB3.out.trans (hb4.mono (by omega))) _ _ _ _⟩
theorem tog_ord16eq (w0 w:World) (kk p q:Int) (a:Option Addr) (l c:Nat) (hx:RS 1 Sv w a l c ((⟨kk,p,ByteArray.empty,[]⟩:Vl):Vl).ss) (b:Option Addr) (m d:Nat) (hy:RS 1 Sv w b m d ((⟨kk,q,ByteArray.empty,[]⟩:Vl):Vl).ss) (hc:p=q) (hdw:doubleW 16 (⟨kk,p,ByteArray.empty,[]⟩:Vl) (⟨kk,q,ByteArray.empty,[]⟩:Vl)=.ok (truthV true)) :
 Calls Tryz.prog 76 #[.int .i64 16,VA (⟨kk,p,ByteArray.empty,[]⟩:Vl) a l c,VA (⟨kk,q,ByteArray.empty,[]⟩:Vl) b m d] w fun e w'=>TogOut w0 w e w' (doubleW 16 (⟨kk,p,ByteArray.empty,[]⟩:Vl) (⟨kk,q,ByteArray.empty,[]⟩:Vl))∧Below w.heap.size w w':=by
 obtain ⟨w3,hw3,g0,g1,g2,hb3,z3⟩:=boxes3 w (boxS (⟨kk,p,ByteArray.empty,[]⟩:Vl) a l c) (boxS (⟨kk,q,ByteArray.empty,[]⟩:Vl) b m d) boxZ
 have HX:=Lib.hid (hx.below hb3)
 have HY:=Lib.hid (hy.below hb3)
 have HXW:=Lib.hid hx
 have HYW:=Lib.hid hy
 have hl:=hx.1
 have hm:=hy.1
 have HB3:=Lib.hid hb3
 have G0:=Lib.hid g0
 have G1:=Lib.hid g1
 have G2:=Lib.hid (show w3.heap[w.heap.size+1+1]?=some boxZ from g2)
 have z30:w.heap.size < w3.heap.size:=by omega
 have z31:w.heap.size+1 < w3.heap.size:=by omega
 have z32:w.heap.size+1+1 < w3.heap.size:=by omega
 obtain ⟨c0,c1,c2,c3,-⟩:=box4 g0
 obtain ⟨d0,d1,d2,d3,-⟩:=box4 g1
 clear hx hy g0 g1 g2 hb3
 have HDW:=Lib.hid hdw
 clear hdw hl hm
 subst hc
 go_enter Tryz.func76,Tryz.ntmps76
 go_upto_region 1 with (fail)
 rw [← hw3]
 clear hw3
 go_wp2_with (go_at_call 60;refine (boolean_any _ _).mono ?_;rintro e w4 ⟨rfl,hb4⟩;have G24:=Lib.hid ((hb4.block _ z32).trans G2.out);obtain ⟨r0,r1,r2,r3,f0,f1,f2,f3⟩:=box4 G24.out)
 refine bodyPost_ret (res2c Tryz.results76 _ _ (w.heap.size+1+1) _ _ _ _ _ (heap_box G24.out _ _ _ _) rfl rfl) rfl ?_
 exact ⟨.ok (z:=truthV true) rfl ⟨none,0,0,rfl,.inl (rz_nil1 w0)⟩ HDW.out,below_box (by omega) (HB3.out.trans (hb4.mono (by omega))) _ _ _ _⟩
theorem tog_ors16eq (w0 w:World) (s t:ByteArray) (a:Option Addr) (l c:Nat) (hx:RS 1 Sv w a l c ((⟨3,0,s,[]⟩:Vl):Vl).ss) (b:Option Addr) (m d:Nat) (hy:RS 1 Sv w b m d ((⟨3,0,t,[]⟩:Vl):Vl).ss) (hc:Op.bytesLess s.toList t.toList=false) (hc2:(s.toList == t.toList)=true) (hdw:doubleW 16 (⟨3,0,s,[]⟩:Vl) (⟨3,0,t,[]⟩:Vl)=.ok (truthV true)) :
 Calls Tryz.prog 76 #[.int .i64 16,VA (⟨3,0,s,[]⟩:Vl) a l c,VA (⟨3,0,t,[]⟩:Vl) b m d] w fun e w'=>TogOut w0 w e w' (doubleW 16 (⟨3,0,s,[]⟩:Vl) (⟨3,0,t,[]⟩:Vl))∧Below w.heap.size w w':=by
 obtain ⟨w3,hw3,g0,g1,g2,hb3,z3⟩:=boxes3 w (boxS (⟨3,0,s,[]⟩:Vl) a l c) (boxS (⟨3,0,t,[]⟩:Vl) b m d) boxZ
 have HX:=Lib.hid (hx.below hb3)
 have HY:=Lib.hid (hy.below hb3)
 have HXW:=Lib.hid hx
 have HYW:=Lib.hid hy
 have hl:=hx.1
 have hm:=hy.1
 have HB3:=Lib.hid hb3
 have G0:=Lib.hid g0
 have G1:=Lib.hid g1
 have G2:=Lib.hid (show w3.heap[w.heap.size+1+1]?=some boxZ from g2)
 have z30:w.heap.size < w3.heap.size:=by omega
 have z31:w.heap.size+1 < w3.heap.size:=by omega
 have z32:w.heap.size+1+1 < w3.heap.size:=by omega
 obtain ⟨c0,c1,c2,c3,-⟩:=box4 g0
 obtain ⟨d0,d1,d2,d3,-⟩:=box4 g1
 clear hx hy g0 g1 g2 hb3
 have HDW:=Lib.hid hdw
 clear hdw hl hm
 go_enter Tryz.func76,Tryz.ntmps76
 go_upto_region 1 with (fail)
 rw [← hw3]
 clear hw3
 go_wp2_with (go_at_call 60;refine (boolean_any _ _).mono ?_;rintro e w4 ⟨rfl,hb4⟩;have G24:=Lib.hid ((hb4.block _ z32).trans G2.out);obtain ⟨r0,r1,r2,r3,f0,f1,f2,f3⟩:=box4 G24.out)
 refine bodyPost_ret (res2c Tryz.results76 _ _ (w.heap.size+1+1) _ _ _ _ _ (heap_box G24.out _ _ _ _) rfl rfl) rfl ?_
 exact ⟨.ok (z:=truthV true) rfl ⟨none,0,0,rfl,.inl (rz_nil1 w0)⟩ HDW.out,below_box (by omega) (HB3.out.trans (hb4.mono (by omega))) _ _ _ _⟩
theorem tog_ord16gt (w0 w:World) (kk p q:Int) (a:Option Addr) (l c:Nat) (hx:RS 1 Sv w a l c ((⟨kk,p,ByteArray.empty,[]⟩:Vl):Vl).ss) (b:Option Addr) (m d:Nat) (hy:RS 1 Sv w b m d ((⟨kk,q,ByteArray.empty,[]⟩:Vl):Vl).ss) (hc:q < p) (hdw:doubleW 16 (⟨kk,p,ByteArray.empty,[]⟩:Vl) (⟨kk,q,ByteArray.empty,[]⟩:Vl)=.ok (truthV true)) :
 Calls Tryz.prog 76 #[.int .i64 16,VA (⟨kk,p,ByteArray.empty,[]⟩:Vl) a l c,VA (⟨kk,q,ByteArray.empty,[]⟩:Vl) b m d] w fun e w'=>TogOut w0 w e w' (doubleW 16 (⟨kk,p,ByteArray.empty,[]⟩:Vl) (⟨kk,q,ByteArray.empty,[]⟩:Vl))∧Below w.heap.size w w':=by
 obtain ⟨w3,hw3,g0,g1,g2,hb3,z3⟩:=boxes3 w (boxS (⟨kk,p,ByteArray.empty,[]⟩:Vl) a l c) (boxS (⟨kk,q,ByteArray.empty,[]⟩:Vl) b m d) boxZ
 have HX:=Lib.hid (hx.below hb3)
 have HY:=Lib.hid (hy.below hb3)
 have HXW:=Lib.hid hx
 have HYW:=Lib.hid hy
 have hl:=hx.1
 have hm:=hy.1
 have HB3:=Lib.hid hb3
 have G0:=Lib.hid g0
 have G1:=Lib.hid g1
 have G2:=Lib.hid (show w3.heap[w.heap.size+1+1]?=some boxZ from g2)
 have z30:w.heap.size < w3.heap.size:=by omega
 have z31:w.heap.size+1 < w3.heap.size:=by omega
 have z32:w.heap.size+1+1 < w3.heap.size:=by omega
 obtain ⟨c0,c1,c2,c3,-⟩:=box4 g0
 obtain ⟨d0,d1,d2,d3,-⟩:=box4 g1
 clear hx hy g0 g1 g2 hb3
 have HDW:=Lib.hid hdw
 clear hdw hl hm
 have c8:¬ p < q:=by omega
 have c9:(p == q)=false:=by simp;omega
 go_enter Tryz.func76,Tryz.ntmps76
 go_upto_region 1 with (fail)
 rw [← hw3]
 clear hw3
 go_wp2_with (go_at_call 60;refine (boolean_any _ _).mono ?_;rintro e w4 ⟨rfl,hb4⟩;have G24:=Lib.hid ((hb4.block _ z32).trans G2.out);obtain ⟨r0,r1,r2,r3,f0,f1,f2,f3⟩:=box4 G24.out)
 refine bodyPost_ret (res2c Tryz.results76 _ _ (w.heap.size+1+1) _ _ _ _ _ (heap_box G24.out _ _ _ _) rfl rfl) rfl ?_
 exact ⟨.ok (z:=truthV true) rfl ⟨none,0,0,rfl,.inl (rz_nil1 w0)⟩ HDW.out,below_box (by omega) (HB3.out.trans (hb4.mono (by omega))) _ _ _ _⟩
theorem tog_ors16gt (w0 w:World) (s t:ByteArray) (a:Option Addr) (l c:Nat) (hx:RS 1 Sv w a l c ((⟨3,0,s,[]⟩:Vl):Vl).ss) (b:Option Addr) (m d:Nat) (hy:RS 1 Sv w b m d ((⟨3,0,t,[]⟩:Vl):Vl).ss) (hc:Op.bytesLess s.toList t.toList=false) (hc2:(s.toList == t.toList)=false) (hdw:doubleW 16 (⟨3,0,s,[]⟩:Vl) (⟨3,0,t,[]⟩:Vl)=.ok (truthV true)) :
 Calls Tryz.prog 76 #[.int .i64 16,VA (⟨3,0,s,[]⟩:Vl) a l c,VA (⟨3,0,t,[]⟩:Vl) b m d] w fun e w'=>TogOut w0 w e w' (doubleW 16 (⟨3,0,s,[]⟩:Vl) (⟨3,0,t,[]⟩:Vl))∧Below w.heap.size w w':=by
 obtain ⟨w3,hw3,g0,g1,g2,hb3,z3⟩:=boxes3 w (boxS (⟨3,0,s,[]⟩:Vl) a l c) (boxS (⟨3,0,t,[]⟩:Vl) b m d) boxZ
 have HX:=Lib.hid (hx.below hb3)
 have HY:=Lib.hid (hy.below hb3)
 have HXW:=Lib.hid hx
 have HYW:=Lib.hid hy
 have hl:=hx.1
 have hm:=hy.1
 have HB3:=Lib.hid hb3
 have G0:=Lib.hid g0
 have G1:=Lib.hid g1
 have G2:=Lib.hid (show w3.heap[w.heap.size+1+1]?=some boxZ from g2)
 have z30:w.heap.size < w3.heap.size:=by omega
 have z31:w.heap.size+1 < w3.heap.size:=by omega
 have z32:w.heap.size+1+1 < w3.heap.size:=by omega
 obtain ⟨c0,c1,c2,c3,-⟩:=box4 g0
 obtain ⟨d0,d1,d2,d3,-⟩:=box4 g1
 clear hx hy g0 g1 g2 hb3
 have HDW:=Lib.hid hdw
 clear hdw hl hm
 go_enter Tryz.func76,Tryz.ntmps76
 go_upto_region 1 with (fail)
 rw [← hw3]
 clear hw3
 go_wp2_with (go_at_call 60;refine (boolean_any _ _).mono ?_;rintro e w4 ⟨rfl,hb4⟩;have G24:=Lib.hid ((hb4.block _ z32).trans G2.out);obtain ⟨r0,r1,r2,r3,f0,f1,f2,f3⟩:=box4 G24.out)
 refine bodyPost_ret (res2c Tryz.results76 _ _ (w.heap.size+1+1) _ _ _ _ _ (heap_box G24.out _ _ _ _) rfl rfl) rfl ?_
 exact ⟨.ok (z:=truthV true) rfl ⟨none,0,0,rfl,.inl (rz_nil1 w0)⟩ HDW.out,below_box (by omega) (HB3.out.trans (hb4.mono (by omega))) _ _ _ _⟩
end Go.Proofs.YtcnckjlmldnblaaGreatDoor
