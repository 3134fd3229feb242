import Derived.Test.YtcnckjlmldnblaaGreatDoorE1
namespace Go.Proofs.YtcnckjlmldnblaaGreatDoor
open Go Go.RowKit
set_option maxRecDepth 100000
set_option maxHeartbeats 4000000
set_option linter.unusedVariables false
set_option linter.unusedSimpArgs false
/-- A worth without members, or a refusal on its way out. -/
def NOut (e:Ending) (r:Wr):Prop:=match r with
 | .ok x=>e=.returned (VA x none 0 0)∧x.ss=[]
 | .error er=>e=refused er
theorem NOut.cases {e:Ending} {r:Wr} (h:NOut e r):(∃ x,r=.ok x∧e=.returned (VA x none 0 0)∧x.ss=[])∨(∃ er,r=.error er∧e=refused er):=by
 cases r with
 | ok x=>exact .inl ⟨x,rfl,h.1,h.2⟩
 | error er=>exact .inr ⟨er,rfl,h⟩
theorem NOut.ok {e:Ending} {r:Wr} {x:Vl} (h:r=.ok x) (he:e=.returned (VA x none 0 0)) (hs:x.ss=[]):NOut e r:=by subst h;exact ⟨he,hs⟩
theorem NOut.err {r:Wr} {er:Int} (h:r=.error er):NOut (refused er) r:=by subst h;exact rfl
abbrev I64 (n:Int):Prop:=-9223372036854775808≤n∧n≤9223372036854775807
theorem numW_ok {n:Int} (h:I64 n):numW n=.ok (intV n):=by unfold numW;rw [if_pos h]
theorem numW_over {n:Int} (h:¬ I64 n):numW n=.error 111:=by unfold numW;rw [if_neg h]
theorem wrap_in {a:Int} (h:I64 a):wrap64 a=a:=by unfold wrap64;omega
theorem num_ret {n:Int} (h:I64 n):NOut (.returned (VA (intV (wrap64 n)) none 0 0)) (numW n):=by rw [numW_ok h,wrap_in h];exact ⟨rfl,rfl⟩
theorem num_over {n:Int} (h:¬ I64 n):NOut (refused 111) (numW n):=by rw [numW_over h];exact rfl
theorem moved_ret {t b:Int} (h1:0≤t+b∧t+b≤4611686018427387904) (h2:wrap64 (t+b)=t+b):NOut (.returned (VA (timeV (wrap64 (t+b))) none 0 0)) (movedW t b):=by
 unfold movedW
 rw [if_pos (by simp [timelyB];exact h1),h2]
 exact ⟨rfl,rfl⟩
theorem moved_over {t b:Int} (h:¬ (0≤t+b∧t+b≤4611686018427387904)):NOut (refused 111) (movedW t b):=by
 unfold movedW
 rw [if_neg (by simpa [timelyB] using h)]
 exact rfl
theorem belbox {w w1:World} {o:Obj} (hb1:Below (w.alloc o).heap.size (w.alloc o) w1) (x0 x1 x2 x3:Value) :
 Below w.heap.size w ((((w1.setCell ⟨w.heap.size,0,none⟩ x0).setCell ⟨w.heap.size,1,none⟩ x1).setCell ⟨w.heap.size,2,none⟩ x2).setCell ⟨w.heap.size,3,none⟩ x3) :=
 ((((((Below.refl w.heap.size w).alloc (Nat.le_refl _) o).trans (hb1.mono (by simp))).setCell (p:=⟨w.heap.size,0,none⟩) (Nat.le_refl _) x0).setCell (p:=⟨w.heap.size,1,none⟩) (Nat.le_refl _) x1).setCell (p:=⟨w.heap.size,2,none⟩) (Nat.le_refl _) x2).setCell (p:=⟨w.heap.size,3,none⟩) (Nat.le_refl _) x3
theorem belcall {w w1:World} {o:Obj} (hb1:Below (w.alloc o).heap.size (w.alloc o) w1):Below w.heap.size w w1:=((Below.refl w.heap.size w).alloc (Nat.le_refl _) o).trans (hb1.mono (by simp))
theorem ord_ret {b:Bool} {r:Wr} (h:r=.ok (truthV b)):NOut (.returned (VA (truthV b) none 0 0)) r:=by rw [h];exact ⟨rfl,rfl⟩
theorem ord_over {r:Wr} {e:Int} (h:r=.error e):NOut (refused e) r:=by rw [h];exact rfl
theorem bel1 (w:World) (o:Obj):Below w.heap.size w (w.alloc o):=(Below.refl _ _).alloc (Nat.le_refl _) _
theorem bel2 (w:World) (o p:Obj):Below w.heap.size w ((w.alloc o).alloc p):=(bel1 w o).alloc (by simp) _
theorem bel3 (w:World) (o p q:Obj):Below w.heap.size w (((w.alloc o).alloc p).alloc q):=(bel2 w o p).alloc (by simp;omega) _
theorem difference_any (w:World) (a b:Int) (ha:I64 a) (hb:I64 b):Calls Tryz.prog 80 #[.int .i64 a,.int .i64 b] w fun e w'=>NOut e (numW (a - b))∧Below w.heap.size w w':=by
 have HA:=Lib.hid ha
 have HB:=Lib.hid hb
 clear ha hb
 go_enter Tryz.func80,Tryz.ntmps80
 go_wp2_with (first | (go_at_call 53;refine (refuse_any _ _).mono ?_;rintro e w' ⟨rfl,rfl⟩) | (go_at_call 50;refine (integer_any _ _).mono ?_;rintro e w' ⟨rfl,rfl⟩))
 all_goals first
  | (go_returns;exact ⟨num_ret (by have ha:=HA.out;have hb:=HB.out;simp [I64,wrap64,timelyB] at *;omega),bel2 _ _ _⟩)
  | exact ⟨rfl,num_over (by have ha:=HA.out;have hb:=HB.out;simp [I64,wrap64,timelyB] at *;omega),bel1 _ _⟩
theorem sum_any (w:World) (a b:Int) (ha:I64 a) (hb:I64 b):Calls Tryz.prog 95 #[.int .i64 a,.int .i64 b] w fun e w'=>NOut e (numW (a+b))∧Below w.heap.size w w':=by
 have HA:=Lib.hid ha
 have HB:=Lib.hid hb
 clear ha hb
 go_enter Tryz.func95,Tryz.ntmps95
 go_wp2_with (first | (go_at_call 53;refine (refuse_any _ _).mono ?_;rintro e w' ⟨rfl,rfl⟩) | (go_at_call 50;refine (integer_any _ _).mono ?_;rintro e w' ⟨rfl,rfl⟩))
 all_goals first
  | (go_returns;exact ⟨num_ret (by have ha:=HA.out;have hb:=HB.out;simp [I64,wrap64,timelyB] at *;omega),bel2 _ _ _⟩)
  | exact ⟨rfl,num_over (by have ha:=HA.out;have hb:=HB.out;simp [I64,wrap64,timelyB] at *;omega),bel1 _ _⟩
theorem moved_any (w:World) (t b:Int) (ht:timelyB t=true) (hb:I64 b):Calls Tryz.prog 82 #[.int .i64 t,.int .i64 b] w fun e w'=>NOut e (movedW t b)∧Below w.heap.size w w':=by
 have HA:=Lib.hid (show 0≤t∧t≤4611686018427387904 by simpa [timelyB] using ht)
 have HB:=Lib.hid hb
 clear ht hb
 go_enter Tryz.func82,Tryz.ntmps82
 go_wp2_with (first | (go_at_call 53;refine (refuse_any _ _).mono ?_;rintro e w' ⟨rfl,rfl⟩) | (go_at_call 51;refine (timed_any _ _).mono ?_;rintro e w' ⟨rfl,rfl⟩) | (go_at_call 33;refine (timely_any _ _).mono ?_;rintro e w' ⟨rfl,rfl⟩))
 all_goals first
  | (go_returns;exact ⟨moved_ret (by have ha:=HA.out;have hb:=HB.out;simp [I64,wrap64,timelyB] at *;omega) (by have ha:=HA.out;have hb:=HB.out;simp [I64,wrap64,timelyB] at *;omega),bel2 _ _ _⟩)
  | exact ⟨rfl,moved_over (by have ha:=HA.out;have hb:=HB.out;simp [I64,wrap64,timelyB] at *;omega),bel1 _ _⟩
theorem orderedI_any (w:World) (op a b:Int):Calls Tryz.prog 98 #[.int .i64 op,.int .i64 a,.int .i64 b] w fun e w'=>NOut e (orderedI op a b)∧Below w.heap.size w w':=by
 go_enter Tryz.func98,Tryz.ntmps98
 go_wp2_with (first | (go_at_call 53;refine (refuse_any _ _).mono ?_;rintro e w' ⟨rfl,rfl⟩) | (go_at_call 49;refine (truth_any _ _).mono ?_;rintro e w' ⟨rfl,rfl⟩))
 all_goals first
  | (go_returns;exact ⟨ord_ret (by simp_all [orderedI,orderedW]),bel3 _ _ _ _⟩)
  | exact ⟨rfl,ord_over (by simp_all [orderedI,orderedW]),bel1 _ _⟩
theorem orderedS_any (w:World) (op:Int) (a b:ByteArray):Calls Tryz.prog 83 #[.int .i64 op,.string a,.string b] w fun e w'=>NOut e (orderedS op a b)∧Below w.heap.size w w':=by
 go_enter Tryz.func83,Tryz.ntmps83
 go_wp2_with (first | (go_at_call 53;refine (refuse_any _ _).mono ?_;rintro e w' ⟨rfl,rfl⟩) | (go_at_call 49;refine (truth_any _ _).mono ?_;rintro e w' ⟨rfl,rfl⟩))
 all_goals first
  | (go_returns;exact ⟨ord_ret (by simp_all [orderedS,orderedW]),bel3 _ _ _ _⟩)
  | exact ⟨rfl,ord_over (by simp_all [orderedS,orderedW]),bel1 _ _⟩
theorem quot_in {a b:Int} (ha:I64 a) (hb:I64 b) (h0:b ≠ 0) (h1:b ≠ -1):I64 (a.tdiv b)∧I64 (a.tmod b):=by
 by_cases hb1:b=1
 · subst hb1
   rw [Int.tdiv_one,Int.tmod_one]
   exact ⟨ha,by unfold I64;omega⟩
 · have n2:(a.tmod b).natAbs < b.natAbs:=by rw [Int.natAbs_tmod];exact Nat.mod_lt _ (by omega)
   have n3:2≤b.natAbs:=by omega
   have n4:(a.tdiv b).natAbs * 2≤a.natAbs:=by
    rw [Int.natAbs_tdiv]
    calc a.natAbs / b.natAbs * 2≤a.natAbs / b.natAbs * b.natAbs:=Nat.mul_le_mul_left _ n3
     _≤a.natAbs:=Nat.div_mul_le_self _ _
   unfold I64 at *
   generalize a.tdiv b=q at *
   generalize a.tmod b=r at *
   refine ⟨?_,?_⟩ <;> omega
theorem quotient_any (w:World) (op a b:Int) (ha:I64 a) (hb:I64 b):Calls Tryz.prog 97 #[.int .i64 op,.int .i64 a,.int .i64 b] w fun e w'=>NOut e (quotW op a b)∧Below w.heap.size w w':=by
 by_cases h0:b=0
 · subst h0
   go_enter Tryz.func97,Tryz.ntmps97
   go_wp2_with (first | (go_at_call 53;refine (refuse_any _ _).mono ?_;rintro e w' ⟨rfl,rfl⟩))
   exact ⟨rfl,.err (by simp [quotW]),bel1 _ _⟩
 · by_cases h1:b=-1
   · subst h1
     have HA:=Lib.hid ha
     cases h22:(op == 22)
     · go_enter Tryz.func97,Tryz.ntmps97
       go_wp2_with (first | (go_at_call 53;refine (refuse_any _ _).mono ?_;rintro e w' ⟨rfl,rfl⟩) | (go_at_call 50;refine (integer_any _ _).mono ?_;rintro e w' ⟨rfl,rfl⟩) | (go_at_call 80;refine (difference_any _ 0 a ⟨by omega,by omega⟩ HA.out).mono ?_;rintro e w1 ⟨hn,hb1⟩;obtain ⟨c0,c1,c2,c3,f0,f1,f2,f3⟩:=box4 (boxed hb1);rcases hn.cases with ⟨x,hx,rfl,hs⟩ | ⟨er,hx,rfl⟩))
       · refine retbox rfl (boxed hb1) rfl ?_
         exact ⟨.ok (x:=x) (by simp at h22;simp only [quotW];rw [if_neg (by omega),if_neg h22,Int.tdiv_neg,Int.tdiv_one,← hx];congr 1;omega) rfl hs,belbox hb1 _ _ _ _⟩
       · exact ⟨rfl,.err (by simp at h22;simp only [quotW];rw [if_neg (by omega),if_neg h22,Int.tdiv_neg,Int.tdiv_one,← hx];congr 1;omega),belcall hb1⟩
     · obtain rfl:op=22:=by simpa using h22
       go_enter Tryz.func97,Tryz.ntmps97
       go_wp2_with (first | (go_at_call 53;refine (refuse_any _ _).mono ?_;rintro e w' ⟨rfl,rfl⟩) | (go_at_call 50;refine (integer_any _ _).mono ?_;rintro e w' ⟨rfl,rfl⟩))
       go_returns
       exact ⟨.ok (x:=intV 0) (by simp [quotW]) rfl rfl,bel2 _ _ _⟩
   · have hq:=quot_in ha hb h0 h1
     have HQ:=Lib.hid hq
     have H1:=Lib.hid h1
     have h1b:(b == -1)=false:=by simpa using h1
     have h0b:(b == 0)=false:=by simpa using h0
     clear hq h1 ha hb
     go_enter Tryz.func97,Tryz.ntmps97
     go_wp2_with (first | (go_at_call 53;refine (refuse_any _ _).mono ?_;rintro e w' ⟨rfl,rfl⟩) | (go_at_call 50;refine (integer_any _ _).mono ?_;rintro e w' ⟨rfl,rfl⟩))
     all_goals (go_returns;refine ⟨?_,bel2 _ _ _⟩)
     · exact .ok (x:=intV (a.tmod b)) (by simp_all [quotW]) rfl rfl
     · rw [wrap_in HQ.out.1]
       exact .ok (x:=intV (a.tdiv b)) (by have q:=HQ.out.1;simp only [quotW];rw [if_neg h0,if_neg (by simp_all),numW_ok q]) rfl rfl
theorem size_any (w:World) (a:Int) (ha:I64 a):Calls Tryz.prog 114 #[.int .i64 a] w fun e w'=>e=.returned (.int .u64 (a.natAbs:Int))∧w'=w:=by
 have HA:=Lib.hid ha
 clear ha
 go_enter Tryz.func114,Tryz.ntmps114
 go_wp2
 all_goals go_ret
 all_goals exact ⟨ret_intk (by have ha:=HA.out;simp only [I64,IntKind.wrap_u64] at *;omega),rfl⟩
end Go.Proofs.YtcnckjlmldnblaaGreatDoor

