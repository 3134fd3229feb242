import Derived.Test.YtcnckjlmldnblaaGreatDoorR6
import Derived.BigGuardPart
import Derived.IntWalk
import Derived.Handy
import Derived.OrdersHeld
import Derived.Deep.RegionHeld3
import Derived.WalkLawsBesides
namespace Go.Proofs.YtcnckjlmldnblaaGreatDoor
open Go Go.RowKit
set_option maxRecDepth 100000
set_option maxHeartbeats 4000000
set_option linter.unusedVariables false
set_option linter.unusedSimpArgs false
theorem tog_num (w0 w:World) (op:Int) (p q:Int) (a:Option Addr) (l c:Nat) (hx:RS 1 Sv w a l c ((⟨1,p,ByteArray.empty,[]⟩:Vl):Vl).ss) (b:Option Addr) (m d:Nat) (hy:RS 1 Sv w b m d ((⟨1,q,ByteArray.empty,[]⟩:Vl):Vl).ss) (hop:op=18∨op=19∨op=20∨op=21∨op=22) (hp:I64 p) (hq:I64 q) (hdw:doubleW op (⟨1,p,ByteArray.empty,[]⟩:Vl) (⟨1,q,ByteArray.empty,[]⟩:Vl)=numbersW op p q) :
 Calls Tryz.prog 76 #[.int .i64 op,VA (⟨1,p,ByteArray.empty,[]⟩:Vl) a l c,VA (⟨1,q,ByteArray.empty,[]⟩:Vl) b m d] w fun e w'=>TogOut w0 w e w' (doubleW op (⟨1,p,ByteArray.empty,[]⟩:Vl) (⟨1,q,ByteArray.empty,[]⟩:Vl))∧Below w.heap.size w w':=by
 obtain ⟨w3,hw3,g0,g1,g2,hb3,z3⟩:=boxes3 w (boxS (⟨1,p,ByteArray.empty,[]⟩:Vl) a l c) (boxS (⟨1,q,ByteArray.empty,[]⟩:Vl) b m d) boxZ
 have HX:=Lib.hid (hx.below hb3)
 have HY:=Lib.hid (hy.below hb3)
 have HXW:=Lib.hid hx
 have HYW:=Lib.hid hy
 have hl:=hx.1
 have hm:=hy.1
 have HB3:=Lib.hid hb3
 have G0:=Lib.hid g0
 have G1:=Lib.hid g1
 have G2:=Lib.hid (show w3.heap[w.heap.size+1+1]?=some boxZ from g2)
 have z30:w.heap.size < w3.heap.size:=by omega
 have z31:w.heap.size+1 < w3.heap.size:=by omega
 have z32:w.heap.size+1+1 < w3.heap.size:=by omega
 obtain ⟨c0,c1,c2,c3,-⟩:=box4 g0
 obtain ⟨d0,d1,d2,d3,-⟩:=box4 g1
 clear hx hy g0 g1 g2 hb3
 have n13:(op == 13)=false:=by rcases hop with rfl | rfl | rfl | rfl | rfl <;> rfl
 have n14:(op == 14)=false:=by rcases hop with rfl | rfl | rfl | rfl | rfl <;> rfl
 have n15:(op == 15)=false:=by rcases hop with rfl | rfl | rfl | rfl | rfl <;> rfl
 have n16:(op == 16)=false:=by rcases hop with rfl | rfl | rfl | rfl | rfl <;> rfl
 have n17:(op == 17)=false:=by rcases hop with rfl | rfl | rfl | rfl | rfl <;> rfl
 have n28:(op == 28)=false:=by rcases hop with rfl | rfl | rfl | rfl | rfl <;> rfl
 have n31:(op == 31)=false:=by rcases hop with rfl | rfl | rfl | rfl | rfl <;> rfl
 have n32:(op == 32)=false:=by rcases hop with rfl | rfl | rfl | rfl | rfl <;> rfl
 have HOP:=Lib.hid hop
 have HP:=Lib.hid hp
 have HQ:=Lib.hid hq
 have HDW:=Lib.hid hdw
 clear hop hp hq hdw hl hm
 go_enter Tryz.func76,Tryz.ntmps76
 go_upto_region 1 with (fail)
 rw [← hw3]
 clear hw3
 go_wp2_with fail
 with_reducible refine (numR_any w3 op p q HOP.out HP.out HQ.out).mono ?_
 rintro e w4 ⟨hr,hb4⟩
 have HB4:=Lib.hid (HB3.out.trans (hb4.mono (by omega)))
 have G04:=Lib.hid ((hb4.block _ z30).trans G0.out)
 have G14:=Lib.hid ((hb4.block _ z31).trans G1.out)
 have G24:=Lib.hid ((hb4.block _ z32).trans G2.out)
 have z4:w3.heap.size≤w4.heap.size:=hb4.size
 have z40:w.heap.size < w4.heap.size:=by omega
 have z41:w.heap.size+1 < w4.heap.size:=by omega
 have z42:w.heap.size+1+1 < w4.heap.size:=by omega
 clear hb4 c0 c1 c2 c3 d0 d1 d2 d3
 obtain ⟨c0,c1,c2,c3,-⟩:=box4 G04.out
 obtain ⟨d0,d1,d2,d3,-⟩:=box4 G14.out
 obtain ⟨r0,r1,r2,r3,f0,f1,f2,f3⟩:=box4 G24.out
 unfold NumRet at hr
 cases hn:numbersW op p q with
 | error er =>
   rw [hn] at hr
   have he0:=numR_err HOP.out hn
   have HN:=Lib.hid hn
   subst hr
   clear hn
   go_wp2_with fail
   refine bodyPost_ret (res2c Tryz.results76 _ _ (w.heap.size+1+1) _ _ _ _ _ (heap_box_alloc G24.out _ _ _ _ _) rfl rfl) rfl ?_
   exact ⟨.err (z:=v0) rfl ⟨none,0,0,rfl,.inl (rz_nil1 w0)⟩ (by rw [HDW.out,HN.out]) (by have:=he0;intro h;rw [h] at this;cases this),below_box_alloc (by omega) HB4.out _ _ _ _ _ (by omega)⟩
 | ok z =>
   rw [hn] at hr
   subst hr
   obtain ⟨s,rfl⟩:=numR_ok HOP.out HP.out HQ.out hn
   have HN:=Lib.hid hn
   clear hn
   go_wp2_with fail
   refine bodyPost_ret (res2c Tryz.results76 _ _ (w.heap.size+1+1) _ _ _ _ _ (heap_box_alloc G24.out _ _ _ _ _) rfl rfl) rfl ?_
   exact ⟨.ok (z:=intV s) rfl ⟨none,0,0,rfl,.inl (rz_nil1 w0)⟩ (by rw [HDW.out,HN.out]),below_box_alloc (by omega) HB4.out _ _ _ _ _ (by omega)⟩
theorem tog_tt (w0 w:World) (op:Int) (p q:Int) (a:Option Addr) (l c:Nat) (hx:RS 1 Sv w a l c ((⟨4,p,ByteArray.empty,[]⟩:Vl):Vl).ss) (b:Option Addr) (m d:Nat) (hy:RS 1 Sv w b m d ((⟨4,q,ByteArray.empty,[]⟩:Vl):Vl).ss) (hop:op=18∨op=19∨op=20∨op=21∨op=22) (hp:I64 p) (hq:I64 q) (hdw:doubleW op (⟨4,p,ByteArray.empty,[]⟩:Vl) (⟨4,q,ByteArray.empty,[]⟩:Vl)=numbersW op p q) :
 Calls Tryz.prog 76 #[.int .i64 op,VA (⟨4,p,ByteArray.empty,[]⟩:Vl) a l c,VA (⟨4,q,ByteArray.empty,[]⟩:Vl) b m d] w fun e w'=>TogOut w0 w e w' (doubleW op (⟨4,p,ByteArray.empty,[]⟩:Vl) (⟨4,q,ByteArray.empty,[]⟩:Vl))∧Below w.heap.size w w':=by
 obtain ⟨w3,hw3,g0,g1,g2,hb3,z3⟩:=boxes3 w (boxS (⟨4,p,ByteArray.empty,[]⟩:Vl) a l c) (boxS (⟨4,q,ByteArray.empty,[]⟩:Vl) b m d) boxZ
 have HX:=Lib.hid (hx.below hb3)
 have HY:=Lib.hid (hy.below hb3)
 have HXW:=Lib.hid hx
 have HYW:=Lib.hid hy
 have hl:=hx.1
 have hm:=hy.1
 have HB3:=Lib.hid hb3
 have G0:=Lib.hid g0
 have G1:=Lib.hid g1
 have G2:=Lib.hid (show w3.heap[w.heap.size+1+1]?=some boxZ from g2)
 have z30:w.heap.size < w3.heap.size:=by omega
 have z31:w.heap.size+1 < w3.heap.size:=by omega
 have z32:w.heap.size+1+1 < w3.heap.size:=by omega
 obtain ⟨c0,c1,c2,c3,-⟩:=box4 g0
 obtain ⟨d0,d1,d2,d3,-⟩:=box4 g1
 clear hx hy g0 g1 g2 hb3
 have n13:(op == 13)=false:=by rcases hop with rfl | rfl | rfl | rfl | rfl <;> rfl
 have n14:(op == 14)=false:=by rcases hop with rfl | rfl | rfl | rfl | rfl <;> rfl
 have n15:(op == 15)=false:=by rcases hop with rfl | rfl | rfl | rfl | rfl <;> rfl
 have n16:(op == 16)=false:=by rcases hop with rfl | rfl | rfl | rfl | rfl <;> rfl
 have n17:(op == 17)=false:=by rcases hop with rfl | rfl | rfl | rfl | rfl <;> rfl
 have n28:(op == 28)=false:=by rcases hop with rfl | rfl | rfl | rfl | rfl <;> rfl
 have n31:(op == 31)=false:=by rcases hop with rfl | rfl | rfl | rfl | rfl <;> rfl
 have n32:(op == 32)=false:=by rcases hop with rfl | rfl | rfl | rfl | rfl <;> rfl
 have HOP:=Lib.hid hop
 have HP:=Lib.hid hp
 have HQ:=Lib.hid hq
 have HDW:=Lib.hid hdw
 clear hop hp hq hdw hl hm
 go_enter Tryz.func76,Tryz.ntmps76
 go_upto_region 1 with (fail)
 rw [← hw3]
 clear hw3
 go_wp2_with fail
 with_reducible refine (numR_any w3 op p q HOP.out HP.out HQ.out).mono ?_
 rintro e w4 ⟨hr,hb4⟩
 have HB4:=Lib.hid (HB3.out.trans (hb4.mono (by omega)))
 have G04:=Lib.hid ((hb4.block _ z30).trans G0.out)
 have G14:=Lib.hid ((hb4.block _ z31).trans G1.out)
 have G24:=Lib.hid ((hb4.block _ z32).trans G2.out)
 have z4:w3.heap.size≤w4.heap.size:=hb4.size
 have z40:w.heap.size < w4.heap.size:=by omega
 have z41:w.heap.size+1 < w4.heap.size:=by omega
 have z42:w.heap.size+1+1 < w4.heap.size:=by omega
 clear hb4 c0 c1 c2 c3 d0 d1 d2 d3
 obtain ⟨c0,c1,c2,c3,-⟩:=box4 G04.out
 obtain ⟨d0,d1,d2,d3,-⟩:=box4 G14.out
 obtain ⟨r0,r1,r2,r3,f0,f1,f2,f3⟩:=box4 G24.out
 unfold NumRet at hr
 cases hn:numbersW op p q with
 | error er =>
   rw [hn] at hr
   have he0:=numR_err HOP.out hn
   have HN:=Lib.hid hn
   subst hr
   clear hn
   go_wp2_with fail
   refine bodyPost_ret (res2c Tryz.results76 _ _ (w.heap.size+1+1) _ _ _ _ _ (heap_box_alloc G24.out _ _ _ _ _) rfl rfl) rfl ?_
   exact ⟨.err (z:=v0) rfl ⟨none,0,0,rfl,.inl (rz_nil1 w0)⟩ (by rw [HDW.out,HN.out]) (by have:=he0;intro h;rw [h] at this;cases this),below_box_alloc (by omega) HB4.out _ _ _ _ _ (by omega)⟩
 | ok z =>
   rw [hn] at hr
   subst hr
   obtain ⟨s,rfl⟩:=numR_ok HOP.out HP.out HQ.out hn
   have HN:=Lib.hid hn
   clear hn
   go_wp2_with fail
   refine bodyPost_ret (res2c Tryz.results76 _ _ (w.heap.size+1+1) _ _ _ _ _ (heap_box_alloc G24.out _ _ _ _ _) rfl rfl) rfl ?_
   exact ⟨.ok (z:=intV s) rfl ⟨none,0,0,rfl,.inl (rz_nil1 w0)⟩ (by rw [HDW.out,HN.out]),below_box_alloc (by omega) HB4.out _ _ _ _ _ (by omega)⟩
theorem right_time (s:Int):rightV ⟨4,s,ByteArray.empty,[]⟩=if timelyB s=true then 0 else 111:=by
 unfold rightV
 have hf:formedV ⟨4,s,ByteArray.empty,[]⟩=true:=by simp [formedV]
 rw [hf,if_neg (by decide)]
 cases h:timelyB s
 · rw [if_pos ⟨rfl,rfl⟩,if_neg (by decide)]
 · rw [if_neg (by simp)]
   simp [longB]
theorem time_i64 {s:Int} (h:timelyB s=true):I64 s:=by
 unfold timelyB at h
 simp at h
 unfold I64
 omega
theorem tog_ti (w0 w:World) (op:Int) (p q s0:Int) (a:Option Addr) (l c:Nat) (hx:RS 1 Sv w a l c ((⟨4,p,ByteArray.empty,[]⟩:Vl):Vl).ss) (b:Option Addr) (m d:Nat) (hy:RS 1 Sv w b m d ((⟨1,q,ByteArray.empty,[]⟩:Vl):Vl).ss) (hop:op=18∨op=19∨op=20∨op=21∨op=22) (hp:I64 p) (hq:I64 q) (hnu:numbersW op p q=numW s0) (hdw:doubleW op (⟨4,p,ByteArray.empty,[]⟩:Vl) (⟨1,q,ByteArray.empty,[]⟩:Vl)=if timelyB s0=true then .ok (timeV s0) else .error 111) :
 Calls Tryz.prog 76 #[.int .i64 op,VA (⟨4,p,ByteArray.empty,[]⟩:Vl) a l c,VA (⟨1,q,ByteArray.empty,[]⟩:Vl) b m d] w fun e w'=>TogOut w0 w e w' (doubleW op (⟨4,p,ByteArray.empty,[]⟩:Vl) (⟨1,q,ByteArray.empty,[]⟩:Vl))∧Below w.heap.size w w':=by
 obtain ⟨w3,hw3,g0,g1,g2,hb3,z3⟩:=boxes3 w (boxS (⟨4,p,ByteArray.empty,[]⟩:Vl) a l c) (boxS (⟨1,q,ByteArray.empty,[]⟩:Vl) b m d) boxZ
 have HX:=Lib.hid (hx.below hb3)
 have HY:=Lib.hid (hy.below hb3)
 have HXW:=Lib.hid hx
 have HYW:=Lib.hid hy
 have hl:=hx.1
 have hm:=hy.1
 have HB3:=Lib.hid hb3
 have G0:=Lib.hid g0
 have G1:=Lib.hid g1
 have G2:=Lib.hid (show w3.heap[w.heap.size+1+1]?=some boxZ from g2)
 have z30:w.heap.size < w3.heap.size:=by omega
 have z31:w.heap.size+1 < w3.heap.size:=by omega
 have z32:w.heap.size+1+1 < w3.heap.size:=by omega
 obtain ⟨c0,c1,c2,c3,-⟩:=box4 g0
 obtain ⟨d0,d1,d2,d3,-⟩:=box4 g1
 clear hx hy g0 g1 g2 hb3
 have n13:(op == 13)=false:=by rcases hop with rfl | rfl | rfl | rfl | rfl <;> rfl
 have n14:(op == 14)=false:=by rcases hop with rfl | rfl | rfl | rfl | rfl <;> rfl
 have n15:(op == 15)=false:=by rcases hop with rfl | rfl | rfl | rfl | rfl <;> rfl
 have n16:(op == 16)=false:=by rcases hop with rfl | rfl | rfl | rfl | rfl <;> rfl
 have n17:(op == 17)=false:=by rcases hop with rfl | rfl | rfl | rfl | rfl <;> rfl
 have n28:(op == 28)=false:=by rcases hop with rfl | rfl | rfl | rfl | rfl <;> rfl
 have n31:(op == 31)=false:=by rcases hop with rfl | rfl | rfl | rfl | rfl <;> rfl
 have n32:(op == 32)=false:=by rcases hop with rfl | rfl | rfl | rfl | rfl <;> rfl
 have HOP:=Lib.hid hop
 have HP:=Lib.hid hp
 have HQ:=Lib.hid hq
 have HDW:=Lib.hid hdw
 have HNU:=Lib.hid hnu
 clear hop hp hq hdw hnu hl hm
 go_enter Tryz.func76,Tryz.ntmps76
 go_upto_region 1 with (fail)
 rw [← hw3]
 clear hw3
 go_wp2_with fail
 with_reducible refine (numR_any w3 op p q HOP.out HP.out HQ.out).mono ?_
 rintro e w4 ⟨hr,hb4⟩
 have HB4:=Lib.hid (HB3.out.trans (hb4.mono (by omega)))
 have G04:=Lib.hid ((hb4.block _ z30).trans G0.out)
 have G14:=Lib.hid ((hb4.block _ z31).trans G1.out)
 have G24:=Lib.hid ((hb4.block _ z32).trans G2.out)
 have z4:w3.heap.size≤w4.heap.size:=hb4.size
 have z40:w.heap.size < w4.heap.size:=by omega
 have z41:w.heap.size+1 < w4.heap.size:=by omega
 have z42:w.heap.size+1+1 < w4.heap.size:=by omega
 clear hb4 c0 c1 c2 c3 d0 d1 d2 d3
 obtain ⟨c0,c1,c2,c3,-⟩:=box4 G04.out
 obtain ⟨d0,d1,d2,d3,-⟩:=box4 G14.out
 obtain ⟨r0,r1,r2,r3,f0,f1,f2,f3⟩:=box4 G24.out
 unfold NumRet at hr
 cases hn:numbersW op p q with
 | error er =>
   rw [hn] at hr
   have he0:=numR_err HOP.out hn
   have HN:=Lib.hid hn
   subst hr
   clear hn
   go_wp2_with fail
   refine bodyPost_ret (res2c Tryz.results76 _ _ (w.heap.size+1+1) _ _ _ _ _ (heap_box_alloc G24.out _ _ _ _ _) rfl rfl) rfl ?_
   have her:numW s0=.error er:=by rw [← HNU.out];exact HN.out
   have hns:¬ I64 s0:=fun h=>by rw [numW_ok h] at her;cases her
   have h111:er=111:=by rw [numW_no hns] at her;exact (Except.error.inj her).symm
   have htf:timelyB s0=false:=by
    cases h:timelyB s0
    · rfl
    · exact absurd (time_i64 h) hns
   exact ⟨.err (z:=v0) rfl ⟨none,0,0,rfl,.inl (rz_nil1 w0)⟩ (by rw [HDW.out,htf,if_neg (by decide),h111]) (by omega),below_box_alloc (by omega) HB4.out _ _ _ _ _ (by omega)⟩
 | ok z =>
   rw [hn] at hr
   subst hr
   obtain ⟨s,rfl⟩:=numR_ok HOP.out HP.out HQ.out hn
   have HN:=Lib.hid hn
   clear hn
   have hs0:s=s0:=by
    have h:=HN.out
    rw [HNU.out] at h
    unfold numW at h
    split at h
    · have:=Except.ok.inj h
      unfold intV at this
      simp only [Vl.mk.injEq] at this
      exact this.2.1.symm
    · cases h
   subst hs0
   go_upto_region 30 with (fail)
   obtain ⟨w5,hw5⟩:∃ w5,w5=w4.alloc (.cells #[.int .i64 4,.int .i64 (intV s).n,.string (intV s).t,.slice none 0 0] 43):=⟨_,rfl⟩
   have g5:w5.heap[w4.heap.size]?=some (.cells #[.int .i64 4,.int .i64 s,.string ByteArray.empty,.slice none 0 0] 43 (0,0)):=by rw [hw5];exact heap_alloc_new w4 _
   have hb5:Below w4.heap.size w4 w5:=by rw [hw5];exact bel1 _ _
   have G25:=Lib.hid ((hb5.block _ z42).trans G24.out)
   have HB5:=Lib.hid (HB4.out.trans (hb5.mono (by omega)))
   have G5:=Lib.hid g5
   have z5:w4.heap.size < w5.heap.size:=(Array.getElem?_eq_some_iff.1 g5).1
   rw [← hw5]
   clear hw5 hb5 c0 c1 c2 c3 d0 d1 d2 d3 r0 r1 r2 r3 f0 f1 f2 f3
   obtain ⟨e0,e1,e2,e3,-⟩:=box4 g5
   clear g5
   go_wp2_with fail
   with_reducible refine (refright_any w5 ⟨4,s,ByteArray.empty,[]⟩ none 0 0 (rs_nil1 _)).mono ?_
   rintro e w6 ⟨rfl,hb6⟩
   have HB6:=Lib.hid (HB5.out.trans (hb6.mono (by omega)))
   have G26:=Lib.hid ((hb6.block (w.heap.size+1+1) (by omega)).trans G25.out)
   have G56:=Lib.hid ((hb6.block _ z5).trans G5.out)
   clear hb6 e0 e1 e2 e3
   obtain ⟨e0,e1,e2,e3,-⟩:=box4 G56.out
   obtain ⟨r0,r1,r2,r3,f0,f1,f2,f3⟩:=box4 G26.out
   rw [right_time]
   cases ht:timelyB s
   · have HT:=Lib.hid ht
     rw [if_neg (by decide)]
     go_wp2_with fail
     refine bodyPost_ret (res2c Tryz.results76 _ _ (w.heap.size+1+1) _ _ _ _ _ (heap_box G26.out _ _ _ _) rfl rfl) rfl ?_
     exact ⟨.err (z:=⟨4,s,ByteArray.empty,[]⟩) rfl ⟨none,0,0,rfl,.inl (rz_nil1 w0)⟩ (by rw [HDW.out,HT.out];rfl) (by decide),below_box (by omega) HB6.out _ _ _ _⟩
   · have HT:=Lib.hid ht
     rw [if_pos rfl]
     go_wp2_with fail
     refine bodyPost_ret (res2c Tryz.results76 _ _ (w.heap.size+1+1) _ _ _ _ _ (heap_box G26.out _ _ _ _) rfl rfl) rfl ?_
     exact ⟨.ok (z:=⟨4,s,ByteArray.empty,[]⟩) rfl ⟨none,0,0,rfl,.inl (rz_nil1 w0)⟩ (by rw [HDW.out,HT.out];rfl),below_box (by omega) HB6.out _ _ _ _⟩
theorem tog_it (w0 w:World) (op:Int) (p q s0:Int) (a:Option Addr) (l c:Nat) (hx:RS 1 Sv w a l c ((⟨1,p,ByteArray.empty,[]⟩:Vl):Vl).ss) (b:Option Addr) (m d:Nat) (hy:RS 1 Sv w b m d ((⟨4,q,ByteArray.empty,[]⟩:Vl):Vl).ss) (hop:op=18∨op=19∨op=20∨op=21∨op=22) (hp:I64 p) (hq:I64 q) (hnu:numbersW op p q=numW s0) (hdw:doubleW op (⟨1,p,ByteArray.empty,[]⟩:Vl) (⟨4,q,ByteArray.empty,[]⟩:Vl)=if timelyB s0=true then .ok (timeV s0) else .error 111) :
 Calls Tryz.prog 76 #[.int .i64 op,VA (⟨1,p,ByteArray.empty,[]⟩:Vl) a l c,VA (⟨4,q,ByteArray.empty,[]⟩:Vl) b m d] w fun e w'=>TogOut w0 w e w' (doubleW op (⟨1,p,ByteArray.empty,[]⟩:Vl) (⟨4,q,ByteArray.empty,[]⟩:Vl))∧Below w.heap.size w w':=by
 obtain ⟨w3,hw3,g0,g1,g2,hb3,z3⟩:=boxes3 w (boxS (⟨1,p,ByteArray.empty,[]⟩:Vl) a l c) (boxS (⟨4,q,ByteArray.empty,[]⟩:Vl) b m d) boxZ
 have HX:=Lib.hid (hx.below hb3)
 have HY:=Lib.hid (hy.below hb3)
 have HXW:=Lib.hid hx
 have HYW:=Lib.hid hy
 have hl:=hx.1
 have hm:=hy.1
 have HB3:=Lib.hid hb3
 have G0:=Lib.hid g0
 have G1:=Lib.hid g1
 have G2:=Lib.hid (show w3.heap[w.heap.size+1+1]?=some boxZ from g2)
 have z30:w.heap.size < w3.heap.size:=by omega
 have z31:w.heap.size+1 < w3.heap.size:=by omega
 have z32:w.heap.size+1+1 < w3.heap.size:=by omega
 obtain ⟨c0,c1,c2,c3,-⟩:=box4 g0
 obtain ⟨d0,d1,d2,d3,-⟩:=box4 g1
 clear hx hy g0 g1 g2 hb3
 have n13:(op == 13)=false:=by rcases hop with rfl | rfl | rfl | rfl | rfl <;> rfl
 have n14:(op == 14)=false:=by rcases hop with rfl | rfl | rfl | rfl | rfl <;> rfl
 have n15:(op == 15)=false:=by rcases hop with rfl | rfl | rfl | rfl | rfl <;> rfl
 have n16:(op == 16)=false:=by rcases hop with rfl | rfl | rfl | rfl | rfl <;> rfl
 have n17:(op == 17)=false:=by rcases hop with rfl | rfl | rfl | rfl | rfl <;> rfl
 have n28:(op == 28)=false:=by rcases hop with rfl | rfl | rfl | rfl | rfl <;> rfl
 have n31:(op == 31)=false:=by rcases hop with rfl | rfl | rfl | rfl | rfl <;> rfl
 have n32:(op == 32)=false:=by rcases hop with rfl | rfl | rfl | rfl | rfl <;> rfl
 have HOP:=Lib.hid hop
 have HP:=Lib.hid hp
 have HQ:=Lib.hid hq
 have HDW:=Lib.hid hdw
 have HNU:=Lib.hid hnu
 clear hop hp hq hdw hnu hl hm
 go_enter Tryz.func76,Tryz.ntmps76
 go_upto_region 1 with (fail)
 rw [← hw3]
 clear hw3
 go_wp2_with fail
 with_reducible refine (numR_any w3 op p q HOP.out HP.out HQ.out).mono ?_
 rintro e w4 ⟨hr,hb4⟩
 have HB4:=Lib.hid (HB3.out.trans (hb4.mono (by omega)))
 have G04:=Lib.hid ((hb4.block _ z30).trans G0.out)
 have G14:=Lib.hid ((hb4.block _ z31).trans G1.out)
 have G24:=Lib.hid ((hb4.block _ z32).trans G2.out)
 have z4:w3.heap.size≤w4.heap.size:=hb4.size
 have z40:w.heap.size < w4.heap.size:=by omega
 have z41:w.heap.size+1 < w4.heap.size:=by omega
 have z42:w.heap.size+1+1 < w4.heap.size:=by omega
 clear hb4 c0 c1 c2 c3 d0 d1 d2 d3
 obtain ⟨c0,c1,c2,c3,-⟩:=box4 G04.out
 obtain ⟨d0,d1,d2,d3,-⟩:=box4 G14.out
 obtain ⟨r0,r1,r2,r3,f0,f1,f2,f3⟩:=box4 G24.out
 unfold NumRet at hr
 cases hn:numbersW op p q with
 | error er =>
   rw [hn] at hr
   have he0:=numR_err HOP.out hn
   have HN:=Lib.hid hn
   subst hr
   clear hn
   go_wp2_with fail
   refine bodyPost_ret (res2c Tryz.results76 _ _ (w.heap.size+1+1) _ _ _ _ _ (heap_box_alloc G24.out _ _ _ _ _) rfl rfl) rfl ?_
   have her:numW s0=.error er:=by rw [← HNU.out];exact HN.out
   have hns:¬ I64 s0:=fun h=>by rw [numW_ok h] at her;cases her
   have h111:er=111:=by rw [numW_no hns] at her;exact (Except.error.inj her).symm
   have htf:timelyB s0=false:=by
    cases h:timelyB s0
    · rfl
    · exact absurd (time_i64 h) hns
   exact ⟨.err (z:=v0) rfl ⟨none,0,0,rfl,.inl (rz_nil1 w0)⟩ (by rw [HDW.out,htf,if_neg (by decide),h111]) (by omega),below_box_alloc (by omega) HB4.out _ _ _ _ _ (by omega)⟩
 | ok z =>
   rw [hn] at hr
   subst hr
   obtain ⟨s,rfl⟩:=numR_ok HOP.out HP.out HQ.out hn
   have HN:=Lib.hid hn
   clear hn
   have hs0:s=s0:=by
    have h:=HN.out
    rw [HNU.out] at h
    unfold numW at h
    split at h
    · have:=Except.ok.inj h
      unfold intV at this
      simp only [Vl.mk.injEq] at this
      exact this.2.1.symm
    · cases h
   subst hs0
   go_upto_region 30 with (fail)
   obtain ⟨w5,hw5⟩:∃ w5,w5=w4.alloc (.cells #[.int .i64 4,.int .i64 (intV s).n,.string (intV s).t,.slice none 0 0] 43):=⟨_,rfl⟩
   have g5:w5.heap[w4.heap.size]?=some (.cells #[.int .i64 4,.int .i64 s,.string ByteArray.empty,.slice none 0 0] 43 (0,0)):=by rw [hw5];exact heap_alloc_new w4 _
   have hb5:Below w4.heap.size w4 w5:=by rw [hw5];exact bel1 _ _
   have G25:=Lib.hid ((hb5.block _ z42).trans G24.out)
   have HB5:=Lib.hid (HB4.out.trans (hb5.mono (by omega)))
   have G5:=Lib.hid g5
   have z5:w4.heap.size < w5.heap.size:=(Array.getElem?_eq_some_iff.1 g5).1
   rw [← hw5]
   clear hw5 hb5 c0 c1 c2 c3 d0 d1 d2 d3 r0 r1 r2 r3 f0 f1 f2 f3
   obtain ⟨e0,e1,e2,e3,-⟩:=box4 g5
   clear g5
   go_wp2_with fail
   with_reducible refine (refright_any w5 ⟨4,s,ByteArray.empty,[]⟩ none 0 0 (rs_nil1 _)).mono ?_
   rintro e w6 ⟨rfl,hb6⟩
   have HB6:=Lib.hid (HB5.out.trans (hb6.mono (by omega)))
   have G26:=Lib.hid ((hb6.block (w.heap.size+1+1) (by omega)).trans G25.out)
   have G56:=Lib.hid ((hb6.block _ z5).trans G5.out)
   clear hb6 e0 e1 e2 e3
   obtain ⟨e0,e1,e2,e3,-⟩:=box4 G56.out
   obtain ⟨r0,r1,r2,r3,f0,f1,f2,f3⟩:=box4 G26.out
   rw [right_time]
   cases ht:timelyB s
   · have HT:=Lib.hid ht
     rw [if_neg (by decide)]
     go_wp2_with fail
     refine bodyPost_ret (res2c Tryz.results76 _ _ (w.heap.size+1+1) _ _ _ _ _ (heap_box G26.out _ _ _ _) rfl rfl) rfl ?_
     exact ⟨.err (z:=⟨4,s,ByteArray.empty,[]⟩) rfl ⟨none,0,0,rfl,.inl (rz_nil1 w0)⟩ (by rw [HDW.out,HT.out];rfl) (by decide),below_box (by omega) HB6.out _ _ _ _⟩
   · have HT:=Lib.hid ht
     rw [if_pos rfl]
     go_wp2_with fail
     refine bodyPost_ret (res2c Tryz.results76 _ _ (w.heap.size+1+1) _ _ _ _ _ (heap_box G26.out _ _ _ _) rfl rfl) rfl ?_
     exact ⟨.ok (z:=⟨4,s,ByteArray.empty,[]⟩) rfl ⟨none,0,0,rfl,.inl (rz_nil1 w0)⟩ (by rw [HDW.out,HT.out];rfl),below_box (by omega) HB6.out _ _ _ _⟩
end Go.Proofs.YtcnckjlmldnblaaGreatDoor
