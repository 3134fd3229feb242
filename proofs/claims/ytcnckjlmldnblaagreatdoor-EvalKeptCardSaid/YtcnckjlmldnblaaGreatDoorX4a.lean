import Derived.Test.YtcnckjlmldnblaaGreatDoorX1
import Derived.Test.YtcnckjlmldnblaaGreatDoorB1
namespace Go.Proofs.YtcnckjlmldnblaaGreatDoor
open Go Go.RowKit
set_option maxRecDepth 100000
set_option maxHeartbeats 4000000
set_option linter.unusedVariables false
set_option linter.unusedSimpArgs false
def l0 (l:List (Int × Bool)) (i:Nat):Int × Bool:=l.getD i (0,false)
def setR (l:List (Int × Bool)):(Int × Bool) × Bool:=if l.all (fun k=>k.1 == 3) then ((5,false),true) else ((0,false),false)
theorem oset (w:World) (a:Option Addr) (n c:Nat) (l:List (Int × Bool)) (h:RS 2 Kd w a n c l):Calls Tryz.prog 88 #[.int .i64 6,.slice a n c] w fun e w'=>KindOut e (setR l)∧Below w.heap.size w w':=by
 have hlen:=h.1
 have hn:=h.2.2.1
 have b1:Below w.heap.size w (w.alloc (.cells #[.int .i64 0,.bool false] 127)):=(Below.refl _ _).alloc (Nat.le_refl _) _
 have g1:=heap_alloc_new w (.cells #[.int .i64 0,.bool false] 127)
 have HR:=Lib.hid (h.below b1)
 have hs:w.heap.size < (w.alloc (.cells #[.int .i64 0,.bool false] 127)).heap.size:=by simp
 have HB:=Lib.hid b1
 clear h b1
 go_enter Tryz.func88,Tryz.ntmps88
 go_wp2
 generalize w.alloc (.cells #[.int .i64 0,.bool false] 127)=w3 at *
 have c1:=cell_of_row w3 _ 0 _ _ _ g1
 have c1':=cell_of_row w3 _ 1 _ _ _ g1
 have f1:=frozen_of_row w3 _ 0 _ _ g1
 have f1':=frozen_of_row w3 _ 1 _ _ g1
 simp only [List.getElem?_toArray,List.getElem?_cons_zero,List.getElem?_cons_succ] at c1 c1'
 go_loop [6] (fun i=>∃ k:Nat,k≤n∧i=.int .i64 k∧(l.take k).all (fun k=>k.1 == 3)=true) (fun i=>n - (intOf i).toNat)
 case atStart=>exact ⟨0,by omega,rfl,rfl⟩
 case round =>
  obtain ⟨k,hk,rfl,ha⟩:=hrel
  have HA:=Lib.hid ha
  clear ha
  by_cases hlt:k < n
  · obtain ⟨b,off,x,rfl,hx,hcl⟩:=HR.out.at hlt
    have x0:=hcl 0 _ rfl
    simp only [Nat.add_zero] at x0
    have hltI:(k:Int) < (n:Int):=by omega
    have HX:=Lib.hid hx
    clear hcl hx
    cases hx3:(x.1 == 3)
    · have hn3:(x.1 != 3)=true:=by simp [bne,hx3]
      have H:=Lib.hid (show l.all (fun k=>k.1 == 3)=false by
       rw [List.all_eq_false];exact ⟨x,List.mem_of_getElem? HX.out,by simp [hx3]⟩)
      go_wp2
      exact bodyPost_ret (v:=.tuple #[.agg #[.int .i64 0,.bool false],.bool false]) (by simp [results,Tryz.results88,go_sem,c1,c1']) rfl ⟨by rw [setR,H.out];rfl,below_set2 HB.out _ (Nat.le_refl _) _ _⟩
    · have hn3:(x.1 != 3)=false:=by simp [bne,hx3]
      have H:=Lib.hid (show (l.take (k+1)).all (fun k=>k.1 == 3)=true by rw [List.take_add_one,HX.out,List.all_append,HA.out];simp [hx3])
      go_wp2
      go_round
      case rel=>exact ⟨k+1,by omega,by go_num,H.out⟩
      case measure=>simp [intOf];omega
  · have hltI:¬ (k:Int) < (n:Int):=by omega
    have H:=Lib.hid (show l.all (fun k=>k.1 == 3)=true by have:=HA.out;rwa [List.take_of_length_le (by omega)] at this)
    go_wp2
    exact bodyPost_ret (v:=.tuple #[.agg #[.int .i64 5,.bool false],.bool true]) (by simp [results,Tryz.results88,go_sem,c1,c1']) rfl ⟨by rw [setR,H.out];rfl,below_set2 HB.out _ (Nat.le_refl _) _ _⟩
theorem op7 (w:World) (a:Option Addr) (n c:Nat) (xb:Int) (xo:Bool) (l:List (Int × Bool)) (h:RS 2 Kd w a n c l) (h0:l[0]?=some (xb,xo)):Calls Tryz.prog 88 #[.int .i64 7,.slice a n c] w fun e w'=>KindOut e ((1,false),xb == 1)∧Below w.heap.size w w':=by
 have hlen:=h.1
 have hn:0 < n:=by have:=(List.getElem?_eq_some_iff.1 h0).1;omega
 obtain ⟨b,off,rfl,hcl⟩:=h.addr hn
 have x0:=hcl 0 _ h0 0 _ rfl
 have hbl:=block_lt_of_cell x0
 simp only [Nat.add_zero,Nat.zero_mul] at x0 hbl
 have hnI:(0:Int) < (n:Int):=by omega
 clear hcl h h0
 go_enter Tryz.func88,Tryz.ntmps88
 go_wp2
 go_region
 all_goals go_wp2
 all_goals exact bodyPost_ret (v:=.tuple #[.agg #[.int .i64 1,.bool false],.bool (xb == 1)]) (by simp [results,Tryz.results88,go_sem]) rfl ⟨rfl,((Below.refl _ _).alloc (Nat.le_refl _) _).drew⟩
theorem op8 (w:World) (a:Option Addr) (n c:Nat) (xb:Int) (xo:Bool) (l:List (Int × Bool)) (h:RS 2 Kd w a n c l) (h0:l[0]?=some (xb,xo)):Calls Tryz.prog 88 #[.int .i64 8,.slice a n c] w fun e w'=>KindOut e ((2,false),xb == 2)∧Below w.heap.size w w':=by
 have hlen:=h.1
 have hn:0 < n:=by have:=(List.getElem?_eq_some_iff.1 h0).1;omega
 obtain ⟨b,off,rfl,hcl⟩:=h.addr hn
 have x0:=hcl 0 _ h0 0 _ rfl
 have hbl:=block_lt_of_cell x0
 simp only [Nat.add_zero,Nat.zero_mul] at x0 hbl
 have hnI:(0:Int) < (n:Int):=by omega
 clear hcl h h0
 go_enter Tryz.func88,Tryz.ntmps88
 go_wp2
 go_region
 all_goals go_wp2
 all_goals exact bodyPost_ret (v:=.tuple #[.agg #[.int .i64 2,.bool false],.bool (xb == 2)]) (by simp [results,Tryz.results88,go_sem]) rfl ⟨rfl,((Below.refl _ _).alloc (Nat.le_refl _) _).drew⟩
theorem op27 (w:World) (a:Option Addr) (n c:Nat) (xb:Int) (xo:Bool) (l:List (Int × Bool)) (h:RS 2 Kd w a n c l) (h0:l[0]?=some (xb,xo)):Calls Tryz.prog 88 #[.int .i64 27,.slice a n c] w fun e w'=>KindOut e ((1,false),xb == 3 || xb == 5)∧Below w.heap.size w w':=by
 have hlen:=h.1
 have hn:0 < n:=by have:=(List.getElem?_eq_some_iff.1 h0).1;omega
 obtain ⟨b,off,rfl,hcl⟩:=h.addr hn
 have x0:=hcl 0 _ h0 0 _ rfl
 have hbl:=block_lt_of_cell x0
 simp only [Nat.add_zero,Nat.zero_mul] at x0 hbl
 have hnI:(0:Int) < (n:Int):=by omega
 clear hcl h h0
 cases e3:(xb == 3)
 · go_enter Tryz.func88,Tryz.ntmps88
   go_wp2
   go_region
   all_goals go_wp2
   all_goals exact bodyPost_ret (v:=.tuple #[.agg #[.int .i64 1,.bool false],.bool (xb == 5)]) (by simp [results,Tryz.results88,go_sem]) rfl ⟨by first | rfl | (rw [e3];rfl),((Below.refl _ _).alloc (Nat.le_refl _) _).drew⟩
 · go_enter Tryz.func88,Tryz.ntmps88
   go_wp2
   go_region
   all_goals go_wp2
   all_goals exact bodyPost_ret (v:=.tuple #[.agg #[.int .i64 1,.bool false],.bool true]) (by simp [results,Tryz.results88,go_sem]) rfl ⟨by first | rfl | (rw [e3];rfl),((Below.refl _ _).alloc (Nat.le_refl _) _).drew⟩
theorem keepg {w w':World} (hb:Below w.heap.size w w') {b o:Nat} {v:Value} (h:w.cell? ⟨b,o,none⟩=some v):w'.cell? ⟨b,o,none⟩=some v:=(hb.cell (p:=⟨b,o,none⟩) (block_lt_of_cell h)).trans h
theorem obin (w:World) (op:Int) (hop:op=9∨op=10∨op=13∨op=14∨op=15∨op=16∨op=17∨op=18∨op=19∨op=20∨op=21∨op=22∨op=28∨op=31∨op=32) (a:Option Addr) (n c:Nat) (xb yb:Int) (xo yo:Bool) (l:List (Int × Bool)) (h:RS 2 Kd w a n c l) (h0:l[0]?=some (xb,xo)) (h1:l[1]?=some (yb,yo)) :
 Calls Tryz.prog 88 #[.int .i64 op,.slice a n c] w fun e w'=>KindOut e ((binK op xb yb,false),decide (0 < binK op xb yb))∧Below w.heap.size w w':=by
 have hlen:=h.1
 have hn:1 < n:=by have:=(List.getElem?_eq_some_iff.1 h1).1;omega
 obtain ⟨b,off,rfl,hcl⟩:=h.addr (by omega)
 have x0:=hcl 0 _ h0 0 _ rfl
 have x1:=hcl 0 _ h0 1 _ rfl
 have y0:=hcl 1 _ h1 0 _ rfl
 have y1:=hcl 1 _ h1 1 _ rfl
 simp only [Nat.add_zero,Nat.zero_mul,Nat.one_mul] at x0 x1 y0 y1
 have hn0:(0:Int) < (n:Int):=by omega
 have hnN:0 < n:=by omega
 have hn1:(1:Int) < (n:Int):=by omega
 have bw:Below w.heap.size w (w.alloc (.cells #[.int .i64 0,.bool false] 127)):=(Below.refl _ _).alloc (Nat.le_refl _) _
 have g1:=heap_alloc_new w (.cells #[.int .i64 0,.bool false] 127)
 have hs:w.heap.size < (w.alloc (.cells #[.int .i64 0,.bool false] 127)).heap.size:=by simp
 replace x0:=keepg bw x0
 replace x1:=keepg bw x1
 replace y0:=keepg bw y0
 replace y1:=keepg bw y1
 have HB:=Lib.hid bw
 clear hcl h h0 h1 bw
 have e1:(op == 1)=false:=by simp;omega
 have e30:(op == 30)=false:=by simp;omega
 have e2:(op == 2)=false:=by simp;omega
 have e25:(op == 25)=false:=by simp;omega
 have e26:(op == 26)=false:=by simp;omega
 have e24:(op == 24)=false:=by simp;omega
 have e3:(op == 3)=false:=by simp;omega
 have e29:(op == 29)=false:=by simp;omega
 have e4:(op == 4)=false:=by simp;omega
 have e6:(op == 6)=false:=by simp;omega
 have e7:(op == 7)=false:=by simp;omega
 have e8:(op == 8)=false:=by simp;omega
 have e27:(op == 27)=false:=by simp;omega
 have e23:(op == 23)=false:=by simp;omega
 have e33:(op == 33)=false:=by simp;omega
 have e11:(op == 11)=false:=by simp;omega
 have e12:(op == 12)=false:=by simp;omega
 have HOP:=Lib.hid hop
 clear hop
 go_enter Tryz.func88,Tryz.ntmps88
 go_wp2_with fail
 generalize w.alloc (.cells #[.int .i64 0,.bool false] 127)=w3 at *
 have c1:=cell_of_row w3 _ 0 _ _ _ g1
 have c1':=cell_of_row w3 _ 1 _ _ _ g1
 have f1:=frozen_of_row w3 _ 0 _ _ g1
 have f1':=frozen_of_row w3 _ 1 _ _ g1
 simp only [List.getElem?_toArray,List.getElem?_cons_zero,List.getElem?_cons_succ] at c1 c1'
 clear g1 x1 y1
 go_quiet ((go_at_call 107;exact Calls.quiet_of_same ((binary_any _ op xb yb HOP.out).mono fun _ _ ⟨p,q⟩=>⟨p,q.symm⟩)))
 go_wp2
 exact bodyPost_ret (v:=.tuple #[.agg #[.int .i64 (binK op xb yb),.bool false],.bool (decide (0 < binK op xb yb))]) (by simp [results,Tryz.results88,go_sem,c1,c1']) rfl ⟨rfl,below_set2 (below_drewN HB.out _) _ (Nat.le_refl _) _ _⟩
end Go.Proofs.YtcnckjlmldnblaaGreatDoor
