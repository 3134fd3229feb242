import Derived.Test.YtcnckjlmldnblaaGreatDoorE33
import Derived.Lib.SlBytesRow
import Derived.Test.YtcnckjlmldnblaaGreatDoorE25
import Derived.Test.YtcnckjlmldnblaaGreatDoorE47
import Derived.Handy
import Derived.Test.YtcnckjlmldnblaaGreatDoorE14
import Derived.BigGuardPart
namespace Go.Proofs.YtcnckjlmldnblaaGreatDoor
open Go Go.RowKit
set_option maxRecDepth 100000
set_option maxHeartbeats 4000000
set_option linter.unusedVariables false
set_option linter.unusedSimpArgs false
theorem sl48:Sl Tryz.prog 22 56 (.agg #[.int .i64 0,.string ByteArray.empty,.int .i64 0,.int .i64 0,.string ByteArray.empty,.slice none 0 0,.slice none 0 0]) 7 104:=⟨by kernel_rfl,by kernel_rfl,rfl,by decide⟩
theorem new_bc (w:World) (k:Bc) (j:Nat) (u:Value) (h:(Bc.cs k)[j]?=some u):(w.alloc (.cells #[.string k.nm,.int .i64 k.v.x.k,.int .i64 k.v.x.n,.string k.v.x.t,.slice k.v.a k.v.l k.v.c] 50)).cell? ((⟨w.heap.size,0,none⟩:Addr).add j)=some u:=by
 rw [Addr.add_lit,cell_of_row _ _ _ _ _ _ (heap_alloc_new w _),Nat.zero_add]
 simpa [Bc.cs] using h
def Two (op:Int):Prop:=op=13∨op=14∨op=15∨op=16∨op=17∨op=18∨op=19∨op=20∨op=21∨op=22∨op=28∨op=31∨op=32

/-- Two values that are alike. -/
theorem sameV_any (w:World) (x:Vl) (a:Option Addr) (l c:Nat) (hx:RS 1 Sv w a l c x.ss) (b:Option Addr) (d:Nat) (hy:RS 1 Sv w b l d x.ss) :
 Calls Tryz.prog 21 #[VA x a l c,VA x b l d] w fun e w'=>e=.returned (.bool true)∧Below w.heap.size w w':=by
 obtain ⟨w1,hw1⟩:∃ w1,w1=(w.alloc (boxS x a l c)).alloc (boxS x b l d):=⟨_,rfl⟩
 have g0:w1.heap[w.heap.size]?=some (boxS x a l c):=by rw [hw1];exact heap_alloc2_old w _ _
 have g1:w1.heap[w.heap.size+1]?=some (boxS x b l d):=by rw [hw1];exact heap_alloc2_new w _ _
 have hb1:Below w.heap.size w w1:=by rw [hw1];exact bel2 _ _ _
 have z1:w.heap.size≤w1.heap.size:=hb1.size
 have HB1:=Lib.hid hb1
 have HX:=Lib.hid (hx.below hb1)
 have HY:=Lib.hid (hy.below hb1)
 obtain ⟨c0,c1,c2,c3,-⟩:=box4 g0
 obtain ⟨d0,d1,d2,d3,-⟩:=box4 g1
 clear g0 g1 hb1 hx hy
 go_enter Tryz.func21,Tryz.ntmps21
 go_upto_region 1 with (fail)
 rw [← hw1]
 clear hw1
 go_wp2_with (go_at_call 30;refine (same_S w1 a l c x.ss HX.out b d HY.out).mono ?_;rintro e w2 ⟨rfl,hb2⟩)
 go_ret
 exact ⟨rfl,HB1.out.trans (hb2.mono z1)⟩
end Go.Proofs.YtcnckjlmldnblaaGreatDoor
