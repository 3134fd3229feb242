import Derived.Test.YtcnckjlmldnblaaGreatDoorE4
import Derived.WalkLawsBesides
namespace Go.Proofs.YtcnckjlmldnblaaGreatDoor
open Go Go.RowKit
set_option maxRecDepth 100000
set_option maxHeartbeats 4000000
set_option linter.unusedVariables false
set_option linter.unusedSimpArgs false
theorem right_form {x:Vl} (h:formedV x=false):rightV x=8:=by unfold rightV;rw [if_pos h]
theorem right_ok {x:Vl} (h:formedV x=true):rightV x=if x.k=4∧timelyB x.n=false then 111 else if longB x=true then 113 else if 64 < x.ss.length then 114 else 0:=by unfold rightV;rw [if_neg (by rw [h];decide)]
theorem long_nil {k n:Int} {t:ByteArray}:longB ⟨k,n,t,[]⟩=decide (1024 < t.size):=by simp [longB]
theorem size_nil {t:ByteArray} (h:t.toList=[]):t.size=0:=by rw [ByteArray.toList_eq] at h;rw [← ByteArray.size_data,← Array.length_toList,h];rfl
theorem refright_0 (w:World) (n:Int) (t:ByteArray) (ss:List ByteArray) (a:Option Addr) (l c:Nat) (hx:RS 1 Sv w a l c ss) :
 Calls Tryz.prog 57 #[.agg #[.int .i64 0,.int .i64 n,.string t,.slice a l c]] w fun e w'=>e=.returned (.int .i64 (rightV ⟨0,n,t,ss⟩))∧Below w.heap.size w w':=by
 obtain ⟨w1,hw1⟩:∃ w1,w1=w.alloc (boxS ⟨0,n,t,ss⟩ a l c):=⟨_,rfl⟩
 have g0:w1.heap[w.heap.size]?=some (boxS ⟨0,n,t,ss⟩ a l c):=by rw [hw1];exact heap_alloc_new w _
 have hb1:Below w.heap.size w w1:=by rw [hw1];exact bel1 _ _
 have z1:w1.heap.size=w.heap.size+1:=by rw [hw1];simp
 have HB1:=Lib.hid hb1
 have HX:=Lib.hid (hx.below hb1)
 have HL:=Lib.hid hx.1
 have hl48:=hx.2.2.1
 obtain ⟨c0,c1,c2,c3,-⟩:=box4 g0
 clear g0 hb1 hx
 cases hn:(n == 0)
 · have hn':(n != 0)=true:=by simp at hn;simp [hn]
   go_enter Tryz.func57,Tryz.ntmps57
   go_upto_region 1 with (fail)
   rw [← hw1]
   clear hw1
   go_wp2_with fail
   go_ret
   exact ⟨ret_intk (right_form (by simp [formedV,show n ≠ 0 by simpa using hn])).symm,HB1.out⟩
 · obtain rfl:n=0:=by simpa using hn
   clear hn
   cases ht:(t.toList == [])
   · have ht':(t.toList != [])=true:=by simp at ht;simp [ht]
     go_enter Tryz.func57,Tryz.ntmps57
     go_upto_region 1 with (fail)
     rw [← hw1]
     clear hw1
     go_wp2_with fail
     go_ret
     exact ⟨ret_intk (right_form (by simp [formedV,show t.toList ≠ [] by simpa using ht])).symm,HB1.out⟩
   · have HT:=Lib.hid (show t.toList=[] by simpa using ht)
     have hts:t.size=0:=size_nil HT.out
     have htI:¬ (1024:Int) < (t.size:Int):=by omega
     clear hts
     by_cases hl0:0 < l
     · have hl0I:(0:Int) < (l:Int):=by omega
       have HS:=Lib.hid (show formedV ⟨0,0,t,ss⟩=false by have h:=HL.out;cases ss with | nil=>simp at h;omega | cons y ys=>simp [formedV])
       go_enter Tryz.func57,Tryz.ntmps57
       go_upto_region 1 with (fail)
       rw [← hw1]
       clear hw1
       go_wp2_with fail
       go_ret
       exact ⟨ret_intk (right_form HS.out).symm,HB1.out⟩
     · obtain rfl:l=0:=by omega
       obtain rfl:ss=[]:=List.eq_nil_of_length_eq_zero HL.out
       go_enter Tryz.func57,Tryz.ntmps57
       go_upto_region 1 with (fail)
       rw [← hw1]
       clear hw1
       go_wp2_with fail
       refine wp_loop_rounds 1 ?_
       rw [rounds_succ]
       go_wp2_with fail
       refine wp_loop_rounds 1 ?_
       rw [rounds_succ]
       go_wp2_with fail
       go_ret
       exact ⟨ret_intk (by rw [right_ok (by simp [formedV,HT.out])];simp [long_nil,size_nil HT.out]),HB1.out⟩
theorem refright_1 (w:World) (n:Int) (t:ByteArray) (ss:List ByteArray) (a:Option Addr) (l c:Nat) (hx:RS 1 Sv w a l c ss) :
 Calls Tryz.prog 57 #[.agg #[.int .i64 1,.int .i64 n,.string t,.slice a l c]] w fun e w'=>e=.returned (.int .i64 (rightV ⟨1,n,t,ss⟩))∧Below w.heap.size w w':=by
 obtain ⟨w1,hw1⟩:∃ w1,w1=w.alloc (boxS ⟨1,n,t,ss⟩ a l c):=⟨_,rfl⟩
 have g0:w1.heap[w.heap.size]?=some (boxS ⟨1,n,t,ss⟩ a l c):=by rw [hw1];exact heap_alloc_new w _
 have hb1:Below w.heap.size w w1:=by rw [hw1];exact bel1 _ _
 have z1:w1.heap.size=w.heap.size+1:=by rw [hw1];simp
 have HB1:=Lib.hid hb1
 have HX:=Lib.hid (hx.below hb1)
 have HL:=Lib.hid hx.1
 have hl48:=hx.2.2.1
 obtain ⟨c0,c1,c2,c3,-⟩:=box4 g0
 clear g0 hb1 hx
 cases hn:(n == 0)
 · have hn':(n != 0)=true:=by simp at hn;simp [hn]
   cases ht:(t.toList == [])
   · have ht':(t.toList != [])=true:=by simp at ht;simp [ht]
     go_enter Tryz.func57,Tryz.ntmps57
     go_upto_region 1 with (fail)
     rw [← hw1]
     clear hw1
     go_wp2_with fail
     go_ret
     exact ⟨ret_intk (right_form (by simp [formedV,show t.toList ≠ [] by simpa using ht])).symm,HB1.out⟩
   · have HT:=Lib.hid (show t.toList=[] by simpa using ht)
     have hts:t.size=0:=size_nil HT.out
     have htI:¬ (1024:Int) < (t.size:Int):=by omega
     clear hts
     by_cases hl0:0 < l
     · have hl0I:(0:Int) < (l:Int):=by omega
       have HS:=Lib.hid (show formedV ⟨1,n,t,ss⟩=false by have h:=HL.out;cases ss with | nil=>simp at h;omega | cons y ys=>simp [formedV])
       go_enter Tryz.func57,Tryz.ntmps57
       go_upto_region 1 with (fail)
       rw [← hw1]
       clear hw1
       go_wp2_with fail
       go_ret
       exact ⟨ret_intk (right_form HS.out).symm,HB1.out⟩
     · obtain rfl:l=0:=by omega
       obtain rfl:ss=[]:=List.eq_nil_of_length_eq_zero HL.out
       go_enter Tryz.func57,Tryz.ntmps57
       go_upto_region 1 with (fail)
       rw [← hw1]
       clear hw1
       go_wp2_with fail
       refine wp_loop_rounds 1 ?_
       rw [rounds_succ]
       go_wp2_with fail
       refine wp_loop_rounds 1 ?_
       rw [rounds_succ]
       go_wp2_with fail
       go_ret
       exact ⟨ret_intk (by rw [right_ok (by simp [formedV,HT.out])];simp [long_nil,size_nil HT.out]),HB1.out⟩
 · obtain rfl:n=0:=by simpa using hn
   clear hn
   cases ht:(t.toList == [])
   · have ht':(t.toList != [])=true:=by simp at ht;simp [ht]
     go_enter Tryz.func57,Tryz.ntmps57
     go_upto_region 1 with (fail)
     rw [← hw1]
     clear hw1
     go_wp2_with fail
     go_ret
     exact ⟨ret_intk (right_form (by simp [formedV,show t.toList ≠ [] by simpa using ht])).symm,HB1.out⟩
   · have HT:=Lib.hid (show t.toList=[] by simpa using ht)
     have hts:t.size=0:=size_nil HT.out
     have htI:¬ (1024:Int) < (t.size:Int):=by omega
     clear hts
     by_cases hl0:0 < l
     · have hl0I:(0:Int) < (l:Int):=by omega
       have HS:=Lib.hid (show formedV ⟨1,0,t,ss⟩=false by have h:=HL.out;cases ss with | nil=>simp at h;omega | cons y ys=>simp [formedV])
       go_enter Tryz.func57,Tryz.ntmps57
       go_upto_region 1 with (fail)
       rw [← hw1]
       clear hw1
       go_wp2_with fail
       go_ret
       exact ⟨ret_intk (right_form HS.out).symm,HB1.out⟩
     · obtain rfl:l=0:=by omega
       obtain rfl:ss=[]:=List.eq_nil_of_length_eq_zero HL.out
       go_enter Tryz.func57,Tryz.ntmps57
       go_upto_region 1 with (fail)
       rw [← hw1]
       clear hw1
       go_wp2_with fail
       refine wp_loop_rounds 1 ?_
       rw [rounds_succ]
       go_wp2_with fail
       refine wp_loop_rounds 1 ?_
       rw [rounds_succ]
       go_wp2_with fail
       go_ret
       exact ⟨ret_intk (by rw [right_ok (by simp [formedV,HT.out])];simp [long_nil,size_nil HT.out]),HB1.out⟩
theorem refright_2 (w:World) (n:Int) (t:ByteArray) (ss:List ByteArray) (a:Option Addr) (l c:Nat) (hx:RS 1 Sv w a l c ss) :
 Calls Tryz.prog 57 #[.agg #[.int .i64 2,.int .i64 n,.string t,.slice a l c]] w fun e w'=>e=.returned (.int .i64 (rightV ⟨2,n,t,ss⟩))∧Below w.heap.size w w':=by
 obtain ⟨w1,hw1⟩:∃ w1,w1=w.alloc (boxS ⟨2,n,t,ss⟩ a l c):=⟨_,rfl⟩
 have g0:w1.heap[w.heap.size]?=some (boxS ⟨2,n,t,ss⟩ a l c):=by rw [hw1];exact heap_alloc_new w _
 have hb1:Below w.heap.size w w1:=by rw [hw1];exact bel1 _ _
 have z1:w1.heap.size=w.heap.size+1:=by rw [hw1];simp
 have HB1:=Lib.hid hb1
 have HX:=Lib.hid (hx.below hb1)
 have HL:=Lib.hid hx.1
 have hl48:=hx.2.2.1
 obtain ⟨c0,c1,c2,c3,-⟩:=box4 g0
 clear g0 hb1 hx
 cases hn:(n == 0)
 · have hn':(n != 0)=true:=by simp at hn;simp [hn]
   cases ht:(t.toList == [])
   · have ht':(t.toList != [])=true:=by simp at ht;simp [ht]
     go_enter Tryz.func57,Tryz.ntmps57
     go_upto_region 1 with (fail)
     rw [← hw1]
     clear hw1
     go_wp2_with fail
     go_ret
     exact ⟨ret_intk (right_form (by simp [formedV,show t.toList ≠ [] by simpa using ht])).symm,HB1.out⟩
   · have HT:=Lib.hid (show t.toList=[] by simpa using ht)
     have hts:t.size=0:=size_nil HT.out
     have htI:¬ (1024:Int) < (t.size:Int):=by omega
     clear hts
     by_cases hl0:0 < l
     · have hl0I:(0:Int) < (l:Int):=by omega
       have HS:=Lib.hid (show formedV ⟨2,n,t,ss⟩=false by have h:=HL.out;cases ss with | nil=>simp at h;omega | cons y ys=>simp [formedV])
       go_enter Tryz.func57,Tryz.ntmps57
       go_upto_region 1 with (fail)
       rw [← hw1]
       clear hw1
       go_wp2_with fail
       go_ret
       exact ⟨ret_intk (right_form HS.out).symm,HB1.out⟩
     · obtain rfl:l=0:=by omega
       obtain rfl:ss=[]:=List.eq_nil_of_length_eq_zero HL.out
       cases hn1:(n == 1)
       · have hn1':(n != 1)=true:=by simp at hn1;simp [hn1]
         have HS:=Lib.hid (show formedV ⟨2,n,t,[]⟩=false by simp at hn hn1;simp [formedV,hn,hn1])
         go_enter Tryz.func57,Tryz.ntmps57
         go_upto_region 1 with (fail)
         rw [← hw1]
         clear hw1
         go_wp2_with fail
         go_ret
         exact ⟨ret_intk (right_form HS.out).symm,HB1.out⟩
       · obtain rfl:n=1:=by simpa using hn1
         clear hn1 hn hn'
         go_enter Tryz.func57,Tryz.ntmps57
         go_upto_region 1 with (fail)
         rw [← hw1]
         clear hw1
         go_wp2_with fail
         refine wp_loop_rounds 1 ?_
         rw [rounds_succ]
         go_wp2_with fail
         refine wp_loop_rounds 1 ?_
         rw [rounds_succ]
         go_wp2_with fail
         go_ret
         exact ⟨ret_intk (by rw [right_ok (by simp [formedV,HT.out])];simp [long_nil,size_nil HT.out]),HB1.out⟩
 · obtain rfl:n=0:=by simpa using hn
   clear hn
   cases ht:(t.toList == [])
   · have ht':(t.toList != [])=true:=by simp at ht;simp [ht]
     go_enter Tryz.func57,Tryz.ntmps57
     go_upto_region 1 with (fail)
     rw [← hw1]
     clear hw1
     go_wp2_with fail
     go_ret
     exact ⟨ret_intk (right_form (by simp [formedV,show t.toList ≠ [] by simpa using ht])).symm,HB1.out⟩
   · have HT:=Lib.hid (show t.toList=[] by simpa using ht)
     have hts:t.size=0:=size_nil HT.out
     have htI:¬ (1024:Int) < (t.size:Int):=by omega
     clear hts
     by_cases hl0:0 < l
     · have hl0I:(0:Int) < (l:Int):=by omega
       have HS:=Lib.hid (show formedV ⟨2,0,t,ss⟩=false by have h:=HL.out;cases ss with | nil=>simp at h;omega | cons y ys=>simp [formedV])
       go_enter Tryz.func57,Tryz.ntmps57
       go_upto_region 1 with (fail)
       rw [← hw1]
       clear hw1
       go_wp2_with fail
       go_ret
       exact ⟨ret_intk (right_form HS.out).symm,HB1.out⟩
     · obtain rfl:l=0:=by omega
       obtain rfl:ss=[]:=List.eq_nil_of_length_eq_zero HL.out
       go_enter Tryz.func57,Tryz.ntmps57
       go_upto_region 1 with (fail)
       rw [← hw1]
       clear hw1
       go_wp2_with fail
       refine wp_loop_rounds 1 ?_
       rw [rounds_succ]
       go_wp2_with fail
       refine wp_loop_rounds 1 ?_
       rw [rounds_succ]
       go_wp2_with fail
       go_ret
       exact ⟨ret_intk (by rw [right_ok (by simp [formedV,HT.out])];simp [long_nil,size_nil HT.out]),HB1.out⟩
theorem refright_3 (w:World) (n:Int) (t:ByteArray) (ss:List ByteArray) (a:Option Addr) (l c:Nat) (hx:RS 1 Sv w a l c ss) :
 Calls Tryz.prog 57 #[.agg #[.int .i64 3,.int .i64 n,.string t,.slice a l c]] w fun e w'=>e=.returned (.int .i64 (rightV ⟨3,n,t,ss⟩))∧Below w.heap.size w w':=by
 obtain ⟨w1,hw1⟩:∃ w1,w1=w.alloc (boxS ⟨3,n,t,ss⟩ a l c):=⟨_,rfl⟩
 have g0:w1.heap[w.heap.size]?=some (boxS ⟨3,n,t,ss⟩ a l c):=by rw [hw1];exact heap_alloc_new w _
 have hb1:Below w.heap.size w w1:=by rw [hw1];exact bel1 _ _
 have z1:w1.heap.size=w.heap.size+1:=by rw [hw1];simp
 have HB1:=Lib.hid hb1
 have HX:=Lib.hid (hx.below hb1)
 have HL:=Lib.hid hx.1
 have hl48:=hx.2.2.1
 obtain ⟨c0,c1,c2,c3,-⟩:=box4 g0
 clear g0 hb1 hx
 cases hn:(n == 0)
 · have hn':(n != 0)=true:=by simp at hn;simp [hn]
   go_enter Tryz.func57,Tryz.ntmps57
   go_upto_region 1 with (fail)
   rw [← hw1]
   clear hw1
   go_wp2_with fail
   go_ret
   exact ⟨ret_intk (right_form (by simp [formedV,show n ≠ 0 by simpa using hn])).symm,HB1.out⟩
 · obtain rfl:n=0:=by simpa using hn
   clear hn
   cases ht:(t.toList == [])
   · have ht':(t.toList != [])=true:=by simp at ht;simp [ht]
     by_cases hl0:0 < l
     · have hl0I:(0:Int) < (l:Int):=by omega
       have HS:=Lib.hid (show formedV ⟨3,0,t,ss⟩=false by have h:=HL.out;cases ss with | nil=>simp at h;omega | cons y ys=>simp [formedV])
       go_enter Tryz.func57,Tryz.ntmps57
       go_upto_region 1 with (fail)
       rw [← hw1]
       clear hw1
       go_wp2_with fail
       go_ret
       exact ⟨ret_intk (right_form HS.out).symm,HB1.out⟩
     · obtain rfl:l=0:=by omega
       obtain rfl:ss=[]:=List.eq_nil_of_length_eq_zero HL.out
       by_cases hts:1024 < t.size
       · have htI:(1024:Int) < (t.size:Int):=by omega
         go_enter Tryz.func57,Tryz.ntmps57
         go_upto_region 1 with (fail)
         rw [← hw1]
         clear hw1
         go_wp2_with fail
         refine wp_loop_rounds 1 ?_
         rw [rounds_succ]
         go_wp2_with fail
         go_ret
         exact ⟨ret_intk (by rw [right_ok (by simp [formedV])];simp [long_nil,hts]),HB1.out⟩
       · have htI:¬ (1024:Int) < (t.size:Int):=by omega
         have HTS:=Lib.hid hts
         go_enter Tryz.func57,Tryz.ntmps57
         go_upto_region 1 with (fail)
         rw [← hw1]
         clear hw1
         go_wp2_with fail
         refine wp_loop_rounds 1 ?_
         rw [rounds_succ]
         go_wp2_with fail
         refine wp_loop_rounds 1 ?_
         rw [rounds_succ]
         go_wp2_with fail
         go_ret
         exact ⟨ret_intk (by rw [right_ok (by simp [formedV])];simp [long_nil,HTS.out]),HB1.out⟩
   · have ht':(t.toList != [])=false:=by simp at ht;simp [ht]
     by_cases hl0:0 < l
     · have hl0I:(0:Int) < (l:Int):=by omega
       have HS:=Lib.hid (show formedV ⟨3,0,t,ss⟩=false by have h:=HL.out;cases ss with | nil=>simp at h;omega | cons y ys=>simp [formedV])
       go_enter Tryz.func57,Tryz.ntmps57
       go_upto_region 1 with (fail)
       rw [← hw1]
       clear hw1
       go_wp2_with fail
       go_ret
       exact ⟨ret_intk (right_form HS.out).symm,HB1.out⟩
     · obtain rfl:l=0:=by omega
       obtain rfl:ss=[]:=List.eq_nil_of_length_eq_zero HL.out
       by_cases hts:1024 < t.size
       · have htI:(1024:Int) < (t.size:Int):=by omega
         go_enter Tryz.func57,Tryz.ntmps57
         go_upto_region 1 with (fail)
         rw [← hw1]
         clear hw1
         go_wp2_with fail
         refine wp_loop_rounds 1 ?_
         rw [rounds_succ]
         go_wp2_with fail
         go_ret
         exact ⟨ret_intk (by rw [right_ok (by simp [formedV])];simp [long_nil,hts]),HB1.out⟩
       · have htI:¬ (1024:Int) < (t.size:Int):=by omega
         have HTS:=Lib.hid hts
         go_enter Tryz.func57,Tryz.ntmps57
         go_upto_region 1 with (fail)
         rw [← hw1]
         clear hw1
         go_wp2_with fail
         refine wp_loop_rounds 1 ?_
         rw [rounds_succ]
         go_wp2_with fail
         refine wp_loop_rounds 1 ?_
         rw [rounds_succ]
         go_wp2_with fail
         go_ret
         exact ⟨ret_intk (by rw [right_ok (by simp [formedV])];simp [long_nil,HTS.out]),HB1.out⟩
theorem refright_4 (w:World) (n:Int) (t:ByteArray) (ss:List ByteArray) (a:Option Addr) (l c:Nat) (hx:RS 1 Sv w a l c ss) :
 Calls Tryz.prog 57 #[.agg #[.int .i64 4,.int .i64 n,.string t,.slice a l c]] w fun e w'=>e=.returned (.int .i64 (rightV ⟨4,n,t,ss⟩))∧Below w.heap.size w w':=by
 obtain ⟨w1,hw1⟩:∃ w1,w1=w.alloc (boxS ⟨4,n,t,ss⟩ a l c):=⟨_,rfl⟩
 have g0:w1.heap[w.heap.size]?=some (boxS ⟨4,n,t,ss⟩ a l c):=by rw [hw1];exact heap_alloc_new w _
 have hb1:Below w.heap.size w w1:=by rw [hw1];exact bel1 _ _
 have z1:w1.heap.size=w.heap.size+1:=by rw [hw1];simp
 have HB1:=Lib.hid hb1
 have HX:=Lib.hid (hx.below hb1)
 have HL:=Lib.hid hx.1
 have hl48:=hx.2.2.1
 obtain ⟨c0,c1,c2,c3,-⟩:=box4 g0
 clear g0 hb1 hx
 cases hn:(n == 0)
 · have hn':(n != 0)=true:=by simp at hn;simp [hn]
   cases ht:(t.toList == [])
   · have ht':(t.toList != [])=true:=by simp at ht;simp [ht]
     go_enter Tryz.func57,Tryz.ntmps57
     go_upto_region 1 with (fail)
     rw [← hw1]
     clear hw1
     go_wp2_with fail
     go_ret
     exact ⟨ret_intk (right_form (by simp [formedV,show t.toList ≠ [] by simpa using ht])).symm,HB1.out⟩
   · have HT:=Lib.hid (show t.toList=[] by simpa using ht)
     have hts:t.size=0:=size_nil HT.out
     have htI:¬ (1024:Int) < (t.size:Int):=by omega
     clear hts
     by_cases hl0:0 < l
     · have hl0I:(0:Int) < (l:Int):=by omega
       have HS:=Lib.hid (show formedV ⟨4,n,t,ss⟩=false by have h:=HL.out;cases ss with | nil=>simp at h;omega | cons y ys=>simp [formedV])
       go_enter Tryz.func57,Tryz.ntmps57
       go_upto_region 1 with (fail)
       rw [← hw1]
       clear hw1
       go_wp2_with fail
       go_ret
       exact ⟨ret_intk (right_form HS.out).symm,HB1.out⟩
     · obtain rfl:l=0:=by omega
       obtain rfl:ss=[]:=List.eq_nil_of_length_eq_zero HL.out
       by_cases hn0:n < 0
       · have HTI:=Lib.hid (show timelyB n=false by simp [timelyB];omega)
         go_enter Tryz.func57,Tryz.ntmps57
         go_upto_region 1 with (fail)
         rw [← hw1]
         clear hw1
         go_wp2_with fail
         refine wp_loop_rounds 1 ?_
         rw [rounds_succ]
         go_wp2_with fail
         go_ret
         exact ⟨ret_intk (by rw [right_ok (by simp [formedV,HT.out])];simp [HTI.out]),HB1.out⟩
       · by_cases hn1:4611686018427387904 < n
         · have HTI:=Lib.hid (show timelyB n=false by simp [timelyB];omega)
           go_enter Tryz.func57,Tryz.ntmps57
           go_upto_region 1 with (fail)
           rw [← hw1]
           clear hw1
           go_wp2_with fail
           refine wp_loop_rounds 1 ?_
           rw [rounds_succ]
           go_wp2_with fail
           go_ret
           exact ⟨ret_intk (by rw [right_ok (by simp [formedV,HT.out])];simp [HTI.out]),HB1.out⟩
         · have HTI:=Lib.hid (show timelyB n=true by simp [timelyB];omega)
           go_enter Tryz.func57,Tryz.ntmps57
           go_upto_region 1 with (fail)
           rw [← hw1]
           clear hw1
           go_wp2_with fail
           refine wp_loop_rounds 1 ?_
           rw [rounds_succ]
           go_wp2_with fail
           refine wp_loop_rounds 1 ?_
           rw [rounds_succ]
           go_wp2_with fail
           go_ret
           exact ⟨ret_intk (by rw [right_ok (by simp [formedV,HT.out])];simp [HTI.out,long_nil,size_nil HT.out]),HB1.out⟩
 · obtain rfl:n=0:=by simpa using hn
   clear hn
   cases ht:(t.toList == [])
   · have ht':(t.toList != [])=true:=by simp at ht;simp [ht]
     go_enter Tryz.func57,Tryz.ntmps57
     go_upto_region 1 with (fail)
     rw [← hw1]
     clear hw1
     go_wp2_with fail
     go_ret
     exact ⟨ret_intk (right_form (by simp [formedV,show t.toList ≠ [] by simpa using ht])).symm,HB1.out⟩
   · have HT:=Lib.hid (show t.toList=[] by simpa using ht)
     have hts:t.size=0:=size_nil HT.out
     have htI:¬ (1024:Int) < (t.size:Int):=by omega
     clear hts
     by_cases hl0:0 < l
     · have hl0I:(0:Int) < (l:Int):=by omega
       have HS:=Lib.hid (show formedV ⟨4,0,t,ss⟩=false by have h:=HL.out;cases ss with | nil=>simp at h;omega | cons y ys=>simp [formedV])
       go_enter Tryz.func57,Tryz.ntmps57
       go_upto_region 1 with (fail)
       rw [← hw1]
       clear hw1
       go_wp2_with fail
       go_ret
       exact ⟨ret_intk (right_form HS.out).symm,HB1.out⟩
     · obtain rfl:l=0:=by omega
       obtain rfl:ss=[]:=List.eq_nil_of_length_eq_zero HL.out
       have HTI:=Lib.hid (show timelyB 0=true by simp [timelyB])
       go_enter Tryz.func57,Tryz.ntmps57
       go_upto_region 1 with (fail)
       rw [← hw1]
       clear hw1
       go_wp2_with fail
       refine wp_loop_rounds 1 ?_
       rw [rounds_succ]
       go_wp2_with fail
       refine wp_loop_rounds 1 ?_
       rw [rounds_succ]
       go_wp2_with fail
       go_ret
       exact ⟨ret_intk (by rw [right_ok (by simp [formedV,HT.out])];simp [HTI.out,long_nil,size_nil HT.out]),HB1.out⟩
theorem refright_5 (w:World) (n:Int) (t:ByteArray) (ss:List ByteArray) (a:Option Addr) (l c:Nat) (hx:RS 1 Sv w a l c ss) :
 Calls Tryz.prog 57 #[.agg #[.int .i64 5,.int .i64 n,.string t,.slice a l c]] w fun e w'=>e=.returned (.int .i64 (rightV ⟨5,n,t,ss⟩))∧Below w.heap.size w w':=by
 obtain ⟨w1,hw1⟩:∃ w1,w1=w.alloc (boxS ⟨5,n,t,ss⟩ a l c):=⟨_,rfl⟩
 have g0:w1.heap[w.heap.size]?=some (boxS ⟨5,n,t,ss⟩ a l c):=by rw [hw1];exact heap_alloc_new w _
 have hb1:Below w.heap.size w w1:=by rw [hw1];exact bel1 _ _
 have z1:w1.heap.size=w.heap.size+1:=by rw [hw1];simp
 have HB1:=Lib.hid hb1
 have HX:=Lib.hid (hx.below hb1)
 have HL:=Lib.hid hx.1
 have hl48:=hx.2.2.1
 obtain ⟨c0,c1,c2,c3,-⟩:=box4 g0
 clear g0 hb1 hx
 cases hn:(n == 0)
 · have hn':(n != 0)=true:=by simp at hn;simp [hn]
   go_enter Tryz.func57,Tryz.ntmps57
   go_upto_region 1 with (fail)
   rw [← hw1]
   clear hw1
   go_wp2_with fail
   go_ret
   exact ⟨ret_intk (right_form (by simp [formedV,show n ≠ 0 by simpa using hn])).symm,HB1.out⟩
 · obtain rfl:n=0:=by simpa using hn
   clear hn
   cases ht:(t.toList == [])
   · have ht':(t.toList != [])=true:=by simp at ht;simp [ht]
     go_enter Tryz.func57,Tryz.ntmps57
     go_upto_region 1 with (fail)
     rw [← hw1]
     clear hw1
     go_wp2_with fail
     go_ret
     exact ⟨ret_intk (right_form (by simp [formedV,show t.toList ≠ [] by simpa using ht])).symm,HB1.out⟩
   · have HT:=Lib.hid (show t.toList=[] by simpa using ht)
     have hts:t.size=0:=size_nil HT.out
     have HTS:=Lib.hid hts
     have htI:¬ (1024:Int) < (t.size:Int):=by omega
     clear hts
     by_cases hl0:0 < l
     · have hl0I:(0:Int) < (l:Int):=by omega
       go_enter Tryz.func57,Tryz.ntmps57
       go_upto_region 1 with (fail)
       rw [← hw1]
       clear hw1
       go_wp2_with fail
       go_loopw [3] (fun i wr=>∃ q:Nat,(q≤l∨q=0)∧i=.int .i64 ((q:Int)+1)∧UpTo ss (q+1)∧Below w1.heap.size w1 wr) (fun i _=>l+1 - (intOf i).toNat)
       case atStart=>exact ⟨0,.inr rfl,rfl,fun i a b hi=>by omega,Below.refl _ _⟩
       case round =>
        obtain ⟨q,hq,rfl,hup,hbr⟩:=hrel
        have HUP:=Lib.hid hup
        have HBR:=Lib.hid hbr
        have d0:=(hbr.cell (p:=⟨w.heap.size,0,none⟩) (by show w.heap.size < _;omega)).trans c0
        have d2:=(hbr.cell (p:=⟨w.heap.size,2,none⟩) (by show w.heap.size < _;omega)).trans c2
        have d3:=(hbr.cell (p:=⟨w.heap.size,3,none⟩) (by show w.heap.size < _;omega)).trans c3
        clear hup hbr
        by_cases hlt:q+1 < l
        · obtain ⟨xa,xo,x,rfl,hx,hcx⟩:=HX.out.at (show q < l by omega)
          obtain ⟨xa',xo',y,he,hy,hcy⟩:=HX.out.at hlt
          simp only [Option.some.injEq,Addr.mk.injEq,and_true] at he
          obtain ⟨rfl,rfl⟩:=he
          have x0:=(HBR.out.cell (p:=⟨xa,xo+q * 1+0,none⟩) (block_lt_of_cell (hcx 0 _ rfl))).trans (hcx 0 _ rfl)
          have y0:=(HBR.out.cell (p:=⟨xa,xo+(q+1) * 1+0,none⟩) (block_lt_of_cell (hcy 0 _ rfl))).trans (hcy 0 _ rfl)
          simp only [Nat.add_zero,Nat.mul_one] at x0 y0
          have hltI:(q:Int)+1 < (l:Int):=by omega
          have HXX:=Lib.hid hx
          have HYY:=Lib.hid hy
          clear hx hy hcx hcy hq
          cases hc:Op.bytesLess x.toList y.toList
          · have HN:=Lib.hid (upB_not HXX.out HYY.out hc)
            go_wp2_with fail
            go_region
            go_wp2_with fail
            go_ret
            exact ⟨ret_intk (right_form (by simp [formedV,HN.out])).symm,(HB1.out.trans (HBR.out.mono (by omega))).drew⟩
          · have HN:=Lib.hid (HUP.out.next HXX.out HYY.out hc)
            go_wp2_with fail
            go_region
            go_wp2_with fail
            go_roundw
            case rel=>exact ⟨q+1,by omega,by go_num,HN.out,HBR.out.drew⟩
            case measure=>simp [intOf];omega
        · have hltI:¬ (q:Int)+1 < (l:Int):=by omega
          have HUA:=Lib.hid (HUP.out.all (by have:=HL.out;omega))
          have HFO:=Lib.hid (show formedV ⟨5,0,t,ss⟩=true by simp [formedV,HT.out,HUA.out])
          go_wp2_with fail
          go_loopw [4] (fun i wq=>∃ j:Nat,j≤l∧i=.int .i64 j∧(∀ (i:Nat) (y:ByteArray),i < j→ss[i]?=some y→¬ 1024 < y.size)∧Below wr.heap.size wr wq) (fun i _=>l - (intOf i).toNat)
          case atStart=>exact ⟨0,by omega,rfl,fun i y hi=>by omega,Below.refl _ _⟩
          case round =>
           obtain ⟨j,hj,rfl,hs,hbq⟩:=hrel
           have HSJ:=Lib.hid hs
           have HBQ:=Lib.hid hbq
           have zr:=HBR.out.size
           have e3:=(hbq.cell (p:=⟨w.heap.size,3,none⟩) (by show w.heap.size < _;omega)).trans d3
           clear hs hbq
           by_cases hjl:j < l
           · obtain ⟨xa,xo,y,rfl,hy,hcy⟩:=HX.out.at hjl
             have y0:=((HBR.out.trans (HBQ.out.mono zr)).cell (p:=⟨xa,xo+j * 1+0,none⟩) (block_lt_of_cell (hcy 0 _ rfl))).trans (hcy 0 _ rfl)
             simp only [Nat.add_zero,Nat.mul_one] at y0
             have hjI:(j:Int) < (l:Int):=by omega
             have HY:=Lib.hid hy
             clear hy hcy
             by_cases hlong:1024 < y.size
             · have hlI:(1024:Int) < (y.size:Int):=by omega
               have HLO:=Lib.hid (show longB ⟨5,0,t,ss⟩=true by
                simp only [longB,Bool.or_eq_true,List.any_eq_true]
                exact .inr ⟨y,List.mem_of_getElem? HY.out,by simpa using hlong⟩)
               go_wp2_with fail
               go_ret
               exact ⟨ret_intk (by rw [right_ok HFO.out,HLO.out];simp),HB1.out.trans ((HBR.out.trans (HBQ.out.mono zr)).mono (by omega))⟩
             · have hlI:¬ (1024:Int) < (y.size:Int):=by omega
               have HNL:=Lib.hid hlong
               go_wp2_with fail
               go_roundw
               case rel=>exact ⟨j+1,by omega,by go_num,fun i u hi hu=>(by
                by_cases e:i=j
                · subst e;rw [HY.out] at hu;cases hu;exact HNL.out
                · exact HSJ.out i u (by omega) hu),HBQ.out⟩
               case measure=>simp [intOf];omega
           · have hjI:¬ (j:Int) < (l:Int):=by omega
             have HLO:=Lib.hid (show longB ⟨5,0,t,ss⟩=false by
              simp only [longB,HTS.out,Bool.or_eq_false_iff,List.any_eq_false]
              refine ⟨by decide,fun u hu=>?_⟩
              obtain ⟨i,hi⟩:=List.getElem?_of_mem hu
              have:=HSJ.out i u (by have:=(List.getElem?_eq_some_iff.1 hi).1;have:=HL.out;omega) hi
              simpa using this)
             by_cases h64:64 < l
             · have h64I:(64:Int) < (l:Int):=by omega
               have H64:=Lib.hid h64
               go_wp2_with fail
               go_ret
               exact ⟨ret_intk (by rw [right_ok HFO.out,HLO.out];have h:=HL.out;simp [h,H64.out]),HB1.out.trans ((HBR.out.trans (HBQ.out.mono zr)).mono (by omega))⟩
             · have h64I:¬ (64:Int) < (l:Int):=by omega
               have H64:=Lib.hid h64
               go_wp2_with fail
               go_ret
               exact ⟨ret_intk (by rw [right_ok HFO.out,HLO.out];have h:=HL.out;simp [h,H64.out]),HB1.out.trans ((HBR.out.trans (HBQ.out.mono zr)).mono (by omega))⟩
     · obtain rfl:l=0:=by omega
       obtain rfl:ss=[]:=List.eq_nil_of_length_eq_zero HL.out
       go_enter Tryz.func57,Tryz.ntmps57
       go_upto_region 1 with (fail)
       rw [← hw1]
       clear hw1
       go_wp2_with fail
       refine wp_loop_rounds 1 ?_
       rw [rounds_succ]
       go_wp2_with fail
       refine wp_loop_rounds 1 ?_
       rw [rounds_succ]
       go_wp2_with fail
       go_ret
       exact ⟨ret_intk (by rw [right_ok (by simp [formedV,HT.out,upB])];simp [long_nil,size_nil HT.out]),HB1.out⟩
theorem refright_any (w:World) (x:Vl) (a:Option Addr) (l c:Nat) (hx:RS 1 Sv w a l c x.ss) :
 Calls Tryz.prog 57 #[VA x a l c] w fun e w'=>e=.returned (.int .i64 (rightV x))∧Below w.heap.size w w':=by
 obtain ⟨k,n,t,ss⟩:=x
 by_cases h0:k=0
 · subst h0;exact refright_0 w n t ss a l c hx
 by_cases h1:k=1
 · subst h1;exact refright_1 w n t ss a l c hx
 by_cases h2:k=2
 · subst h2;exact refright_2 w n t ss a l c hx
 by_cases h3:k=3
 · subst h3;exact refright_3 w n t ss a l c hx
 by_cases h4:k=4
 · subst h4;exact refright_4 w n t ss a l c hx
 by_cases h5:k=5
 · subst h5;exact refright_5 w n t ss a l c hx
 have HS:=Lib.hid (show rightV ⟨k,n,t,ss⟩=8 from right_form (by simp [formedV,h0,h1,h2,h3,h4,h5]))
 clear hx
 by_cases hneg:k < 0
 · clear h0 h1 h2 h3 h4 h5
   go_enter Tryz.func57,Tryz.ntmps57
   go_wp2_with fail
   go_ret
   exact ⟨ret_intk HS.out.symm,bel1 _ _⟩
 · have hgt:5 < k:=by omega
   clear h0 h1 h2 h3 h4 h5
   go_enter Tryz.func57,Tryz.ntmps57
   go_wp2_with fail
   go_ret
   exact ⟨ret_intk HS.out.symm,bel1 _ _⟩
theorem refequal_any (w:World) (x:Vl) (a:Option Addr) (l c:Nat) (hx:RS 1 Sv w a l c x.ss) (y:Vl) (b:Option Addr) (m d:Nat) (hy:RS 1 Sv w b m d y.ss) :
 Calls Tryz.prog 72 #[VA x a l c,VA y b m d] w fun e w'=>e=.returned (.bool (eqV x y))∧Below w.heap.size w w':=by
 obtain ⟨k,n,t,ss⟩:=x
 obtain ⟨k',n',t',ss'⟩:=y
 obtain ⟨w1,hw1⟩:∃ w1,w1=(w.alloc (boxS ⟨k,n,t,ss⟩ a l c)).alloc (boxS ⟨k',n',t',ss'⟩ b m d):=⟨_,rfl⟩
 have g0:w1.heap[w.heap.size]?=some (boxS ⟨k,n,t,ss⟩ a l c):=by rw [hw1];exact heap_alloc2_old w _ _
 have g1:w1.heap[w.heap.size+1]?=some (boxS ⟨k',n',t',ss'⟩ b m d):=by rw [hw1];exact heap_alloc2_new w _ _
 have hb1:Below w.heap.size w w1:=by rw [hw1];exact bel2 _ _ _
 have z1:w1.heap.size=w.heap.size+2:=by rw [hw1];simp
 have HB1:=Lib.hid hb1
 have HX:=Lib.hid (hx.below hb1)
 have HY:=Lib.hid (hy.below hb1)
 have HL:=Lib.hid hx.1
 have HM:=Lib.hid hy.1
 have hl48:=hx.2.2.1
 have hm48:=hy.2.2.1
 obtain ⟨c0,c1,c2,c3,-⟩:=box4 g0
 obtain ⟨d0,d1,d2,d3,-⟩:=box4 g1
 clear g0 g1 hb1 hx hy
 cases ek:(k == k')
 · have ek':(k != k')=true:=by simp at ek;simp [ek]
   have HS:=Lib.hid (show eqV ⟨k,n,t,ss⟩ ⟨k',n',t',ss'⟩=false by simp [eqV,ek])
   clear ek
   go_enter Tryz.func72,Tryz.ntmps72
   go_upto_region 1 with (fail)
   rw [← hw1]
   clear hw1
   go_wp2_with fail
   go_ret
   exact ⟨ret_bool HS.out.symm,HB1.out⟩
 obtain rfl:k=k':=by simpa using ek
 clear ek
 cases en:(n == n')
 · have en':(n != n')=true:=by simp at en;simp [en]
   have HS:=Lib.hid (show eqV ⟨k,n,t,ss⟩ ⟨k,n',t',ss'⟩=false by simp [eqV,en])
   clear en
   go_enter Tryz.func72,Tryz.ntmps72
   go_upto_region 1 with (fail)
   rw [← hw1]
   clear hw1
   go_wp2_with fail
   go_ret
   exact ⟨ret_bool HS.out.symm,HB1.out⟩
 obtain rfl:n=n':=by simpa using en
 clear en
 cases et:(t.toList == t'.toList)
 · have et':(t.toList != t'.toList)=true:=by simp at et;simp [et]
   have HS:=Lib.hid (show eqV ⟨k,n,t,ss⟩ ⟨k,n,t',ss'⟩=false by simp [eqV,et])
   go_enter Tryz.func72,Tryz.ntmps72
   go_upto_region 1 with (fail)
   rw [← hw1]
   clear hw1
   go_wp2_with fail
   go_ret
   exact ⟨ret_bool HS.out.symm,HB1.out⟩
 obtain rfl:t=t':=toList_inj' (by simpa using et)
 clear et
 by_cases hlm:l=m
 · subst hlm
   have HE:=Lib.hid (show eqV ⟨k,n,t,ss⟩ ⟨k,n,t,ss'⟩=eqSS ss ss' by simp [eqV])
   go_enter Tryz.func72,Tryz.ntmps72
   go_upto_region 1 with (fail)
   rw [← hw1]
   clear hw1
   go_wp2_with fail
   go_loopw [5] (fun i wr=>∃ j:Nat,j≤l∧i=.int .i64 j∧(∀ (i:Nat) (x y:ByteArray),i < j→ss[i]?=some x→ss'[i]?=some y→x=y)∧Below w1.heap.size w1 wr) (fun i _=>l - (intOf i).toNat)
   case atStart=>exact ⟨0,by omega,rfl,fun i x y hi=>by omega,Below.refl _ _⟩
   case round =>
    obtain ⟨j,hj,rfl,hs,hbr⟩:=hrel
    have HSJ:=Lib.hid hs
    have HBR:=Lib.hid hbr
    have q3:=(hbr.cell (p:=⟨w.heap.size,3,none⟩) (by show w.heap.size < _;omega)).trans c3
    have r3:=(hbr.cell (p:=⟨w.heap.size+1,3,none⟩) (by show w.heap.size+1 < _;omega)).trans d3
    clear hs hbr
    by_cases hjl:j < l
    · obtain ⟨xa,xo,x,rfl,hx,hcx⟩:=HX.out.at hjl
      obtain ⟨ya,yo,y,rfl,hy,hcy⟩:=HY.out.at hjl
      have x0:=(HBR.out.cell (p:=⟨xa,xo+j * 1+0,none⟩) (block_lt_of_cell (hcx 0 _ rfl))).trans (hcx 0 _ rfl)
      have y0:=(HBR.out.cell (p:=⟨ya,yo+j * 1+0,none⟩) (block_lt_of_cell (hcy 0 _ rfl))).trans (hcy 0 _ rfl)
      simp only [Nat.add_zero,Nat.mul_one] at x0 y0
      have hjI:(j:Int) < (l:Int):=by omega
      have HXX:=Lib.hid hx
      have HYY:=Lib.hid hy
      clear hx hy hcx hcy
      cases exy:(x.toList == y.toList)
      · have exy':(x.toList != y.toList)=true:=by simp at exy;simp [exy]
        have HS:=Lib.hid (show eqSS ss ss'=false by
         rw [eqSS_dec,decide_eq_false_iff_not]
         intro e
         subst e
         have h1:=HXX.out
         rw [HYY.out] at h1
         cases h1
         simp at exy)
        go_wp2_with fail
        go_region
        go_wp2_with fail
        go_ret
        exact ⟨ret_bool (by rw [HE.out,HS.out]),(HB1.out.trans (HBR.out.mono (by omega))).drew⟩
      · have exy':(x.toList != y.toList)=false:=by simp at exy;simp [exy]
        have HQ:=Lib.hid (show x=y from toList_inj' (by simpa using exy))
        go_wp2_with fail
        go_region
        go_wp2_with fail
        go_roundw
        case rel=>exact ⟨j+1,by omega,by go_num,fun i u v hi hu hv=>(by
         by_cases e:i=j
         · subst e;rw [HXX.out] at hu;rw [HYY.out] at hv;cases hu;cases hv;exact HQ.out
         · exact HSJ.out i u v (by omega) hu hv),HBR.out.drew⟩
        case measure=>simp [intOf];omega
    · have hjI:¬ (j:Int) < (l:Int):=by omega
      have HS:=Lib.hid (show eqSS ss ss'=true by
       rw [eqSS_iff]
       apply List.ext_getElem?
       intro i
       have h1:ss.length=l:=HL.out
       have h2:ss'.length=l:=HM.out
       rcases Nat.lt_or_ge i l with hi | hi
       · rw [List.getElem?_eq_getElem (by omega),List.getElem?_eq_getElem (by omega)]
         exact congrArg some (HSJ.out i _ _ (by omega) (List.getElem?_eq_getElem (by omega)) (List.getElem?_eq_getElem (by omega)))
       · rw [List.getElem?_eq_none (by omega),List.getElem?_eq_none (by omega)])
      go_wp2_with fail
      go_ret
      exact ⟨ret_bool (by rw [HE.out,HS.out]),HB1.out.trans (HBR.out.mono (by omega))⟩
 · have hlI:¬ (l:Int)=(m:Int):=by omega
   have hl1:(l == m)=false:=by simp [hlm]
   have hl2:(l != m)=true:=by simp [hlm]
   have hl3:((l:Int) != (m:Int))=true:=by simp;omega
   have HS:=Lib.hid (show eqV ⟨k,n,t,ss⟩ ⟨k,n,t,ss'⟩=false by
    have h1:ss.length=l:=HL.out
    have h2:ss'.length=m:=HM.out
    simp [eqV,eqSS,h1,h2,hlm])
   go_enter Tryz.func72,Tryz.ntmps72
   go_upto_region 1 with (fail)
   rw [← hw1]
   clear hw1
   go_wp2_with fail
   go_ret
   exact ⟨ret_bool HS.out.symm,HB1.out⟩
end Go.Proofs.YtcnckjlmldnblaaGreatDoor

