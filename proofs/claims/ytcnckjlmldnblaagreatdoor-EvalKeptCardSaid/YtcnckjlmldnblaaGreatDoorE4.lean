import Derived.Test.YtcnckjlmldnblaaGreatDoorE3
import Derived.Test.YtcnckjlmldnblaaGreatDoorShelf
import Derived.Test.YtcnckjlmldnblaaGreatDoorB1
namespace Go.Proofs.YtcnckjlmldnblaaGreatDoor
open Go Go.RowKit
set_option maxRecDepth 100000
set_option maxHeartbeats 4000000
set_option linter.unusedVariables false
set_option linter.unusedSimpArgs false
theorem mul_sign (a b:Int):((a < 0 ↔ b < 0)→0≤a * b)∧(¬ (a < 0 ↔ b < 0)→a * b≤0):=by
 constructor
 · intro h
   by_cases ha:a < 0
   · exact Int.mul_nonneg_of_nonpos_of_nonpos (by omega) (by have:=h.1 ha;omega)
   · exact Int.mul_nonneg (by omega) (by have:¬ b < 0:=fun hb=>ha (h.2 hb);omega)
 · intro h
   by_cases ha:a < 0
   · have hb:0≤b:=by
      apply Classical.byContradiction
      intro hb
      exact h ⟨fun _=>by omega,fun _=>ha⟩
     exact Int.mul_nonpos_of_nonpos_of_nonneg (by omega) hb
   · have hb:b < 0:=by
      apply Classical.byContradiction
      intro hb
      exact h ⟨fun x=>absurd x ha,fun x=>absurd x hb⟩
     exact Int.mul_nonpos_of_nonneg_of_nonpos (by omega) (by omega)
theorem nat_abs_lt {a:Int} (h:I64 a):a.natAbs < 18446744073709551616:=by unfold I64 at h;omega
theorem prod_fact {a b:Int} (ha:I64 a) (hb:I64 b):∃ p:Nat,a.natAbs * b.natAbs=p∧(a * b).natAbs=p∧((a < 0 ↔ b < 0)→0≤a * b)∧(¬ (a < 0 ↔ b < 0)→a * b≤0) :=
 ⟨_,rfl,Int.natAbs_mul a b,mul_sign a b⟩
theorem product_any (w:World) (a b:Int) (ha:I64 a) (hb:I64 b):Calls Tryz.prog 96 #[.int .i64 a,.int .i64 b] w fun e w'=>NOut e (numW (a * b))∧Below w.heap.size w w':=by
 obtain ⟨p,hp,hP,h1,h2⟩:=prod_fact ha hb
 have HF:=Lib.hid (And.intro hP (And.intro h1 h2))
 have HA:=Lib.hid ha
 have HB:=Lib.hid hb
 have HPP:=Lib.hid hp
 clear ha hb hp hP h1 h2
 go_enter Tryz.func96,Tryz.ntmps96
 go_wp2_with (first | (go_at_call 53;refine (refuse_any _ _).mono ?_;rintro e w' ⟨rfl,rfl⟩) | (go_at_call 50;refine (integer_any _ _).mono ?_;rintro e w' ⟨rfl,rfl⟩) | (go_at_call 114;refine (size_any _ _ (by first | exact HA.out | exact HB.out)).mono ?_;rintro e w' ⟨rfl,rfl⟩) | (go_at_call 113;refine (Tryz.bits_Mul64 a.natAbs b.natAbs (nat_abs_lt HA.out) (nat_abs_lt HB.out) _).mono ?_;rintro e w' ⟨rfl,rfl⟩;rw [HPP.out]))
 all_goals first
  | (go_returns;exact ⟨num_ret (by obtain ⟨hP,h1,h2⟩:=HF.out;generalize a * b=P at *;simp [I64] at *;omega),bel2 _ _ _⟩)
  | exact ⟨rfl,num_over (by obtain ⟨hP,h1,h2⟩:=HF.out;generalize a * b=P at *;simp [I64] at *;omega),bel1 _ _⟩
theorem numbers_any (w:World) (op a b:Int) (ha:I64 a) (hb:I64 b):Calls Tryz.prog 81 #[.int .i64 op,.int .i64 a,.int .i64 b] w fun e w'=>NOut e (numbersW op a b)∧Below w.heap.size w w':=by
 have HA:=Lib.hid ha
 have HB:=Lib.hid hb
 clear ha hb
 go_enter Tryz.func81,Tryz.ntmps81
 go_wp2_with (first | (go_at_call 50;refine (integer_any _ _).mono ?_;rintro e w' ⟨rfl,rfl⟩) | (go_at_call 95;refine (sum_any _ a b (by exact HA.out) (by exact HB.out)).mono ?_;rintro e w1 ⟨hn,hb1⟩;obtain ⟨c0,c1,c2,c3,f0,f1,f2,f3⟩:=box4 (boxed hb1);rcases hn.cases with ⟨x,hx,rfl,hs⟩ | ⟨er,hx,rfl⟩) | (go_at_call 80;refine (difference_any _ a b (by exact HA.out) (by exact HB.out)).mono ?_;rintro e w1 ⟨hn,hb1⟩;obtain ⟨c0,c1,c2,c3,f0,f1,f2,f3⟩:=box4 (boxed hb1);rcases hn.cases with ⟨x,hx,rfl,hs⟩ | ⟨er,hx,rfl⟩) | (go_at_call 96;refine (product_any _ a b (by exact HA.out) (by exact HB.out)).mono ?_;rintro e w1 ⟨hn,hb1⟩;obtain ⟨c0,c1,c2,c3,f0,f1,f2,f3⟩:=box4 (boxed hb1);rcases hn.cases with ⟨x,hx,rfl,hs⟩ | ⟨er,hx,rfl⟩) | (go_at_call 97;refine (quotient_any _ op a b (by exact HA.out) (by exact HB.out)).mono ?_;rintro e w1 ⟨hn,hb1⟩;obtain ⟨c0,c1,c2,c3,f0,f1,f2,f3⟩:=box4 (boxed hb1);rcases hn.cases with ⟨x,hx,rfl,hs⟩ | ⟨er,hx,rfl⟩) | (go_at_call 98;refine (orderedI_any _ op a b).mono ?_;rintro e w1 ⟨hn,hb1⟩;obtain ⟨c0,c1,c2,c3,f0,f1,f2,f3⟩:=box4 (boxed hb1);rcases hn.cases with ⟨x,hx,rfl,hs⟩ | ⟨er,hx,rfl⟩))
 all_goals first
  | (refine retbox rfl (boxed hb1) rfl ?_;exact ⟨.ok (x:=x) (by rw [← hx];simp_all [numbersW]) rfl hs,belbox hb1 _ _ _ _⟩)
  | exact ⟨rfl,.err (by rw [← hx];simp_all [numbersW]),belcall hb1⟩
  | (go_returns;exact ⟨.ok (x:=intV (min a b)) (by simp_all [numbersW]) rfl rfl,bel2 _ _ _⟩)
  | (go_returns;exact ⟨.ok (x:=intV (max a b)) (by simp_all [numbersW]) rfl rfl,bel2 _ _ _⟩)
theorem flat_sv:∀ xs:List ByteArray,xs.flatMap Sv=xs.map Value.string
 | []=>rfl
 | x :: t=>by rw [List.flatMap_cons,flat_sv t];rfl
theorem RS.strs {w:World} {a:Option Addr} {n c:Nat} {xs:List ByteArray} (h:RS 1 Sv w a n c xs) (h0:0 < n):∃ b off,a=some ⟨b,off,none⟩∧∀ j,j < xs.length→w.cell? ⟨b,off+j,none⟩=some (.string (xs.getD j ByteArray.empty)):=by
 obtain ⟨b,off,e,hc⟩:=h.2.2.2 0 _ (List.getElem?_eq_getElem (by have:=h.1;omega))
 refine ⟨b,off,e,fun j hj=>?_⟩
 obtain ⟨b',off',e',hc'⟩:=h.2.2.2 j _ (List.getElem?_eq_getElem hj)
 rw [e] at e'
 simp only [Option.some.injEq,Addr.mk.injEq,and_true] at e'
 obtain ⟨rfl,rfl⟩:=e'
 have:=hc' 0 _ rfl
 rw [Nat.mul_one,Nat.add_zero] at this
 rw [this,List.getD_eq_getElem?_getD,List.getElem?_eq_getElem hj]
 rfl
theorem eqS_any (w:World) (a:Option Addr) (n c:Nat) (xs:List ByteArray) (hx:RS 1 Sv w a n c xs) (b:Option Addr) (m d:Nat) (ys:List ByteArray) (hy:RS 1 Sv w b m d ys) :
 Calls Tryz.prog 36 #[.slice a n c,.slice b m d] w fun e w'=>e=.returned (.bool (decide (xs=ys)))∧∃ q,w'=w.drewN q:=by
 have l1:=hx.1
 have l2:=hy.1
 have n1:=hx.2.2.1
 have n2:=hy.2.2.1
 by_cases hnm:n=m
 · subst hnm
   by_cases h0:0 < n
   · obtain ⟨b1,o1,rfl,c1⟩:=hx.strs h0
     obtain ⟨b2,o2,rfl,c2⟩:=hy.strs h0
     refine (Tryz.slices_Equal_string b1 o1 n c b2 o2 n d xs ys w (by omega) (by omega) (by omega) (by omega) c1 c2).mono ?_
     rintro e w' ⟨rfl,q,rfl⟩
     rw [List.take_of_length_le (by omega),List.take_of_length_le (by omega)]
     exact ⟨rfl,q,rfl⟩
   · obtain rfl:n=0:=by omega
     refine (Tryz.slices_Equal_string_empty a b c 0 d w (by omega)).mono ?_
     rintro e w' ⟨rfl,rfl⟩
     refine ⟨?_,0,rfl⟩
     rw [List.eq_nil_of_length_eq_zero l1,List.eq_nil_of_length_eq_zero l2]
     rfl
 · refine (Tryz.slices_Equal_string_lens a b n c m d w hnm).mono ?_
   rintro e w' ⟨rfl,rfl⟩
   refine ⟨?_,0,rfl⟩
   have:xs ≠ ys:=fun e=>hnm (by rw [← l1,← l2,e])
   simp [this]
theorem clone_any (w:World) (a:Option Addr) (n c:Nat) (xs:List ByteArray) (hx:RS 1 Sv w a n c xs) (hn:n * 16≤140737488355328) :
 Calls Tryz.prog 25 #[.slice a n c] w fun e w'=>∃ a' c',e=.returned (.slice a' n c')∧w'.ownsRow w.heap.size 9 1 (.slice a' n c') n (xs.flatMap Sv)∧Below w.heap.size w w':=by
 have l1:=hx.1
 by_cases h0:0 < n
 · obtain ⟨b1,o1,rfl,c1⟩:=hx.strs h0
   refine (Tryz.slices_Clone_string b1 o1 n c xs w (by omega) hn c1).mono ?_
   rintro e w' ⟨v',rfl,ho,-,hb⟩
   rw [List.take_of_length_le (by omega),← flat_sv] at ho
   obtain ⟨a',c',rfl,-⟩:=owns_shape ho
   exact ⟨a',c',rfl,ho,hb⟩
 · obtain rfl:n=0:=by omega
   have hxs:=List.eq_nil_of_length_eq_zero l1
   subst hxs
   cases a with
   | none =>
     refine (Tryz.slices_Clone_string_nil 0 c w).mono ?_
     rintro e w' ⟨rfl,rfl⟩
     exact ⟨none,0,rfl,World.ownsRow_nil _ _ _ _,Below.refl _ _⟩
   | some ad =>
     refine (Tryz.slices_Clone_string_zero ad c w).mono ?_
     rintro e w' ⟨v',rfl,ho,-,hb⟩
     obtain ⟨a',c',rfl,-⟩:=owns_shape ho
     exact ⟨a',c',rfl,ho,hb⟩
theorem inSS_iff (l:List ByteArray) (x:ByteArray):inSS l x=true ↔ x ∈ l:=by
 unfold inSS
 rw [List.any_eq_true]
 constructor
 · rintro ⟨y,hy,h⟩
   have e:y=x:=toList_inj' (by simpa using h)
   rw [← e]
   exact hy
 · intro h
   exact ⟨x,h,by simp⟩
theorem contains_any (w:World) (a:Option Addr) (n c:Nat) (xs:List ByteArray) (hx:RS 1 Sv w a n c xs) (s:ByteArray) :
 Calls Tryz.prog 84 #[.slice a n c,.string s] w fun e w'=>e=.returned (.bool (inSS xs s))∧w'=w:=by
 have l1:=hx.1
 have n1:=hx.2.2.1
 by_cases h0:0 < n
 · obtain ⟨b1,o1,rfl,c1⟩:=hx.strs h0
   refine (Tryz.slices_Contains_string b1 o1 n c xs s w (by omega) (by omega) c1).mono ?_
   rintro e w' ⟨rfl,rfl⟩
   refine ⟨ret_bool ?_,rfl⟩
   rw [List.take_of_length_le (by omega),Bool.eq_iff_iff,Lib.containsS_iff,inSS_iff]
 · obtain rfl:n=0:=by omega
   have hxs:=List.eq_nil_of_length_eq_zero l1
   subst hxs
   refine (Tryz.slices_Contains_string_empty _ _ _ _).mono ?_
   rintro e w' ⟨rfl,rfl⟩
   exact ⟨rfl,rfl⟩
abbrev boxZ:Obj:=.cells #[.int .i64 0,.int .i64 0,.string { data:=#[] },.slice none 0 0] 43
abbrev boxS (x:Vl) (a:Option Addr) (l c:Nat):Obj:=.cells #[.int .i64 x.k,.int .i64 x.n,.string x.t,.slice a l c] 43
/-- A value whose members are the program's own. -/
def SV (w:World) (B:Nat) (v:Value) (x:Vl):Prop:=∃ a l c,v=VA x a l c∧l=x.ss.length∧((l=0∧(a=none→c=0))∨w.ownsRow B 9 1 (.slice a l c) l (x.ss.flatMap Sv))
/-- A value whose set is new memory, its room too. -/
def SO (w:World) (B:Nat) (v:Value) (x:Vl):Prop:=∃ a l c,v=VA x a l c∧l=x.ss.length∧w.ownsRow B 9 1 (.slice a l c) l (x.ss.flatMap Sv)
theorem SO.sv {w:World} {B:Nat} {v:Value} {x:Vl} (h:SO w B v x):SV w B v x:=by
 obtain ⟨a,l,c,e,hl,h⟩:=h
 exact ⟨a,l,c,e,hl,.inr h⟩
theorem own_any (w:World) (x:Vl) (a:Option Addr) (l c:Nat) (hx:RS 1 Sv w a l c x.ss) (hl:l * 16≤140737488355328) :
 Calls Tryz.prog 26 #[VA x a l c] w fun e w'=>∃ v,e=.returned v∧SO w' w.heap.size v x∧Below w.heap.size w w':=by
 have HX:=Lib.hid hx
 have HL:=Lib.hid hl
 clear hx hl
 go_enter Tryz.func26,Tryz.ntmps26
 go_wp2_with fail
 obtain ⟨w2,hw2⟩:∃ w2,w2=(w.alloc (boxS x a l c)).alloc (boxZ):=⟨_,rfl⟩
 have g0:w2.heap[w.heap.size]?=some (boxS x a l c):=by rw [hw2];exact heap_alloc2_old w _ _
 have g1:w2.heap[w.heap.size+1]?=some (boxZ):=by rw [hw2];exact heap_alloc2_new w _ _
 have z2:w2.heap.size=w.heap.size+2:=by rw [hw2];simp
 have hb2:Below w.heap.size w w2:=by rw [hw2];exact bel2 _ _ _
 rw [← hw2]
 clear hw2
 with_reducible refine (clone_any w2 a l c x.ss (HX.out.below hb2) HL.out).mono ?_
 rintro e w3 ⟨a',c',rfl,ho,hb3⟩
 have q0:=(hb3.block _ (by omega)).trans g0
 have q1:=(hb3.block _ (by omega)).trans g1
 obtain ⟨c0,c1,c2,c3,f0,f1,f2,f3⟩:=box4 q0
 obtain ⟨d0,d1,d2,d3,e0,e1,e2,e3⟩:=box4 q1
 have Q1:=Lib.hid q1
 have HO:=Lib.hid ho
 have HB3:=Lib.hid (hb2.trans (hb3.mono (by omega)))
 have HL':=Lib.hid HX.out.1
 have Z2:=Lib.hid z2
 clear q0 q1 g0 g1 hb2 ho hb3 z2
 go_wp2_with fail
 refine retbox rfl (w1:=w3.setCell ⟨w.heap.size,3,none⟩ (.slice a' l c')) ((heap_setCell_other w3 ⟨w.heap.size,3,none⟩ (w.heap.size+1) _ (by show w.heap.size+1 ≠ w.heap.size;omega)).trans Q1.out) rfl ?_
 have z:=Z2.out
 refine ⟨_,rfl,⟨a',l,c',rfl,HL'.out.symm,owns_mono (B:=w2.heap.size) ?_ (by omega)⟩,?_⟩
 · exact ownsRow_setCell_below (ownsRow_setCell_below (ownsRow_setCell_below (ownsRow_setCell_below (ownsRow_setCell_below HO.out (by show w.heap.size < _;omega) _) (by show w.heap.size+1 < _;omega) _) (by show w.heap.size+1 < _;omega) _) (by show w.heap.size+1 < _;omega) _) (by show w.heap.size+1 < _;omega) _
 · exact ((((HB3.out.setCell (p:=⟨w.heap.size,3,none⟩) (Nat.le_refl _) _).setCell (p:=⟨w.heap.size+1,0,none⟩) (Nat.le_succ _) _).setCell (p:=⟨w.heap.size+1,1,none⟩) (Nat.le_succ _) _).setCell (p:=⟨w.heap.size+1,2,none⟩) (Nat.le_succ _) _).setCell (p:=⟨w.heap.size+1,3,none⟩) (Nat.le_succ _) _
theorem eqSS_dec (a b:List ByteArray):eqSS a b=decide (a=b):=by rw [Bool.eq_iff_iff,eqSS_iff,decide_eq_true_eq]
theorem equal_any (w:World) (x:Vl) (a:Option Addr) (l c:Nat) (hx:RS 1 Sv w a l c x.ss) (y:Vl) (b:Option Addr) (m d:Nat) (hy:RS 1 Sv w b m d y.ss) :
 Calls Tryz.prog 16 #[VA x a l c,VA y b m d] w fun e w'=>e=.returned (.bool (eqV x y))∧Below w.heap.size w w':=by
 have HX:=Lib.hid hx
 have HY:=Lib.hid hy
 clear hx hy
 go_enter Tryz.func16,Tryz.ntmps16
 go_wp2_with (go_at_call 36;refine (eqS_any _ _ _ _ _ (HX.out.below (bel2 _ _ _)) _ _ _ _ (HY.out.below (bel2 _ _ _))).mono ?_;rintro e w' ⟨rfl,q,rfl⟩)
 all_goals go_ret
 all_goals first
  | exact ⟨ret_bool (by simp_all [eqV,eqSS_dec]),below_drewN (bel2 _ _ _) _⟩
  | exact ⟨ret_bool (by simp_all [eqV,eqSS_dec]),bel2 _ _ _⟩
theorem upB_adj:∀ l:List ByteArray,upB l=true ↔ ∀ (i:Nat) (a b:ByteArray),l[i]?=some a→l[i+1]?=some b→Op.bytesLess a.toList b.toList=true
 | []=>by simp [upB]
 | [x]=>by simp [upB]
 | x :: y :: t=>by
   rw [upB,Bool.and_eq_true,upB_adj (y :: t)]
   constructor
   · rintro ⟨h1,h2⟩ i a b ha hb
     cases i with
     | zero =>
       simp at ha hb
       subst ha hb
       exact h1
     | succ i=>exact h2 i a b (by simpa using ha) (by simpa using hb)
   · intro h
     exact ⟨h 0 x y rfl rfl,fun i a b ha hb=>h (i+1) a b (by simpa using ha) (by simpa using hb)⟩
/-- So many of a list's texts rise. -/
def UpTo (l:List ByteArray) (j:Nat):Prop:=∀ (i:Nat) (a b:ByteArray),i+1 < j→l[i]?=some a→l[i+1]?=some b→Op.bytesLess a.toList b.toList=true
theorem UpTo.all {l:List ByteArray} {j:Nat} (h:UpTo l j) (hj:l.length≤j):upB l=true:=(upB_adj l).2 fun i a b ha hb=>h i a b (by have:=(List.getElem?_eq_some_iff.1 hb).1;omega) ha hb
theorem UpTo.next {l:List ByteArray} {q:Nat} {x y:ByteArray} (h:UpTo l (q+1)) (hx:l[q]?=some x) (hy:l[q+1]?=some y) (hl:Op.bytesLess x.toList y.toList=true):UpTo l (q+1+1):=fun i a b hi ha hb=>by
 by_cases e:i=q
 · subst e
   rw [hx] at ha;rw [hy] at hb
   cases ha;cases hb
   exact hl
 · exact h i a b (by omega) ha hb
theorem upB_not {l:List ByteArray} {q:Nat} {x y:ByteArray} (hx:l[q]?=some x) (hy:l[q+1]?=some y) (hl:Op.bytesLess x.toList y.toList=false):upB l=false:=by
 cases h:upB l with
 | false=>rfl
 | true=>have:=(upB_adj l).1 h q x y hx hy;rw [hl] at this;cases this
theorem formed_5 (n:Int) (t:ByteArray) (ss:List ByteArray):formedV ⟨5,n,t,ss⟩=(t.toList == [] && upB ss && n == 0):=by
 simp [formedV,Bool.and_assoc]
theorem formed_not5 (x:Vl) (l:Nat) (hl:l=x.ss.length) (h5:x.k ≠ 5):formedV x=((x.k == 3 || x.t.toList == []) && l == 0 && (if x.k=1∨x.k=4 then true else if x.k=2 then x.n == 0 || x.n == 1 else if x.k=0∨x.k=3 then x.n == 0 else false)):=by
 have e1:(x.k == 5)=false:=by simpa using h5
 have e2:x.ss.isEmpty=(l == 0):=by rw [hl];cases x.ss <;> rfl
 simp only [formedV,e1,e2,Bool.false_or,h5,if_false]
theorem formed_any (w:World) (x:Vl) (a:Option Addr) (l c:Nat) (hx:RS 1 Sv w a l c x.ss) :
 Calls Tryz.prog 32 #[VA x a l c] w fun e w'=>e=.returned (.bool (formedV x))∧Below w.heap.size w w':=by
 by_cases h5:x.k=5
 · obtain ⟨k,n,t,ss⟩:=x
   dsimp only at h5 hx ⊢
   subst h5
   rw [formed_5]
   cases ht:(t.toList == [])
   · go_enter Tryz.func32,Tryz.ntmps32
     go_wp2
     go_ret
     exact ⟨ret_bool (by simp),bel1 _ _⟩
   · obtain ⟨w1,hw1⟩:∃ w1,w1=w.alloc (boxS ⟨5,n,t,ss⟩ a l c):=⟨_,rfl⟩
     have g0:w1.heap[w.heap.size]?=some (boxS ⟨5,n,t,ss⟩ a l c):=by rw [hw1];exact heap_alloc_new w _
     have hb1:Below w.heap.size w w1:=by rw [hw1];exact bel1 _ _
     have z1:w1.heap.size=w.heap.size+1:=by rw [hw1];simp
     have HX:=Lib.hid (hx.below hb1)
     have HB1:=Lib.hid hb1
     have G0:=Lib.hid g0
     have hl48:=hx.2.2.1
     have hlen:=hx.1
     have HW:=Lib.hid hw1.symm
     have HLE:=Lib.hid hlen
     obtain ⟨c0,c1,c2,c3,-⟩:=box4 g0
     clear hx g0 hb1 hlen
     go_enter Tryz.func32,Tryz.ntmps32
     go_upto_region 13 with (fail)
     rw [← hw1]
     clear hw1
     go_wp2_with fail
     go_loopw [3] (fun i wr=>∃ q:Nat,(q≤l∨q=0)∧i=.int .i64 ((q:Int)+1)∧UpTo ss (q+1)∧Below w1.heap.size w1 wr) (fun i _=>l+1 - (intOf i).toNat)
     case atStart=>exact ⟨0,.inr rfl,rfl,fun i a b hi=>by omega,Below.refl _ _⟩
     case round =>
      obtain ⟨q,hq,rfl,hup,hbr⟩:=hrel
      have HUP:=Lib.hid hup
      have HBR:=Lib.hid hbr
      have d3:=(hbr.cell (p:=⟨w.heap.size,3,none⟩) (by show w.heap.size < _;omega)).trans c3
      have d1:=(hbr.cell (p:=⟨w.heap.size,1,none⟩) (by show w.heap.size < _;omega)).trans c1
      clear hup hbr
      by_cases hlt:q+1 < l
      · obtain ⟨xa,xo,x,rfl,hx,hcx⟩:=HX.out.at (show q < l by omega)
        obtain ⟨xa',xo',y,he,hy,hcy⟩:=HX.out.at hlt
        simp only [Option.some.injEq,Addr.mk.injEq,and_true] at he
        obtain ⟨rfl,rfl⟩:=he
        have x0:=(HBR.out.cell (p:=⟨xa,xo+q * 1+0,none⟩) (block_lt_of_cell (hcx 0 _ rfl))).trans (hcx 0 _ rfl)
        have y0:=(HBR.out.cell (p:=⟨xa,xo+(q+1) * 1+0,none⟩) (block_lt_of_cell (hcy 0 _ rfl))).trans (hcy 0 _ rfl)
        simp only [Nat.add_zero,Nat.mul_one] at x0 y0
        have hltI:(q:Int)+1 < (l:Int):=by omega
        have HXX:=Lib.hid hx
        have HYY:=Lib.hid hy
        clear hx hy hcx hcy hq
        cases hc:Op.bytesLess x.toList y.toList
        · have HN:=Lib.hid (upB_not HXX.out HYY.out hc)
          go_wp2
          go_region
          go_wp2
          go_ret
          exact ⟨ret_bool (by simp [HN.out]),(HB1.out.trans (HBR.out.mono (by omega))).drew⟩
        · have HN:=Lib.hid (HUP.out.next HXX.out HYY.out hc)
          go_wp2
          go_region
          go_wp2
          go_roundw
          case rel=>exact ⟨q+1,by omega,by go_num,HN.out,HBR.out.drew⟩
          case measure=>simp [intOf];omega
      · have hltI:¬ (q:Int)+1 < (l:Int):=by omega
        have HUA:=Lib.hid (HUP.out.all (by have:=HLE.out;omega))
        go_wp2
        go_ret
        exact ⟨ret_bool (by simp [HUA.out]),HB1.out.trans (HBR.out.mono (by omega))⟩
 · rw [formed_not5 x l hx.1.symm h5]
   have h5b:(x.k == 5)=false:=by simpa using h5
   obtain ⟨k,n,t,ss⟩:=x
   dsimp only at h5 h5b ⊢
   clear hx
   go_enter Tryz.func32,Tryz.ntmps32
   go_wp2
   all_goals go_ret
   all_goals exact ⟨ret_bool (by simp_all <;> omega),bel1 _ _⟩
theorem long_one (s:ByteArray) (w:World):Calls Tryz.prog 35 #[.string s] w fun e w'=>e=.returned (.bool (decide (1024 < s.size)))∧w'=w:=by
 go_enter Tryz.func35,Tryz.ntmps35
 go_wp2
 go_ret
 exact ⟨ret_bool (by rw [decide_eq_decide];omega),rfl⟩
theorem anyLong_any (w:World) (a:Option Addr) (n c:Nat) (xs:List ByteArray) (hx:RS 1 Sv w a n c xs) :
 Calls Tryz.prog 34 #[.slice a n c,.func (.func 35) #[] #[]] w fun e w'=>e=.returned (.bool (xs.any fun m=>decide (1024 < m.size)))∧∃ q,w'=w.drewN q:=by
 have l1:=hx.1
 have n1:=hx.2.2.1
 by_cases h0:0 < n
 · obtain ⟨b1,o1,rfl,c1⟩:=hx.strs h0
   refine (Tryz.slices_ContainsFunc Value.string (fun m=>decide (1024 < m.size)) 35 #[] (fun args w=>enters_of Tryz.func35 (by kernel_rfl) rfl args w) b1 o1 n c xs w (fun W x hb=>(long_one x W).mono (by rintro e w' ⟨rfl,rfl⟩;exact ⟨rfl,0,rfl⟩)) (by omega) (by omega) (fun j hj=>by rw [c1 j hj,List.getD_eq_getElem?_getD,List.getElem?_eq_getElem hj,getElem!_pos xs j hj];rfl)).mono ?_
   rintro e w' ⟨rfl,q,rfl⟩
   exact ⟨ret_bool (by rw [List.take_of_length_le (by omega)]),q,rfl⟩
 · obtain rfl:n=0:=by omega
   have hxs:=List.eq_nil_of_length_eq_zero l1
   subst hxs
   refine (Tryz.slices_ContainsFunc_empty (α:=ByteArray) _ _ _ _).mono ?_
   rintro e w' ⟨rfl,rfl⟩
   exact ⟨rfl,0,rfl⟩
theorem evright_any (w:World) (x:Vl) (a:Option Addr) (l c:Nat) (hx:RS 1 Sv w a l c x.ss) :
 Calls Tryz.prog 15 #[VA x a l c] w fun e w'=>e=.returned (.int .i64 (rightV x))∧Below w.heap.size w w':=by
 obtain ⟨w1,hw1⟩:∃ w1,w1=w.alloc (boxS x a l c):=⟨_,rfl⟩
 have g0:w1.heap[w.heap.size]?=some (boxS x a l c):=by rw [hw1];exact heap_alloc_new w _
 have hb1:Below w.heap.size w w1:=by rw [hw1];exact bel1 _ _
 have z1:w1.heap.size=w.heap.size+1:=by rw [hw1];simp
 have HX:=Lib.hid hx
 have HB1:=Lib.hid hb1
 have HLE:=Lib.hid hx.1
 have hl48:=hx.2.2.1
 have G0:=Lib.hid g0
 obtain ⟨c0,c1,c2,c3,-⟩:=box4 g0
 clear hx g0 hb1
 go_enter Tryz.func15,Tryz.ntmps15
 go_upto_region 1 with (fail)
 rw [← hw1]
 clear hw1
 go_wp2_with fail
 with_reducible refine (formed_any w1 x a l c (HX.out.below HB1.out)).mono ?_
 rintro e w2 ⟨rfl,hb2⟩
 obtain ⟨d0,d1,d2,d3,-⟩:=box4 ((hb2.block _ (by omega)).trans G0.out)
 have HB2:=Lib.hid (HB1.out.trans (hb2.mono (by omega)))
 have HX2:=Lib.hid (HX.out.below HB2.out)
 clear hb2 c0 c1 c2 c3
 cases hf:formedV x
 · have HF:=Lib.hid (show rightV x=8 by simp [rightV,hf])
   clear hf
   go_wp2
   go_ret
   exact ⟨ret_intk HF.out.symm,HB2.out⟩
 · have HF:=Lib.hid hf
   clear hf
   cases ht:timelyB x.n
   all_goals
    have HT:=Lib.hid ht
    go_wp2_with (first | (go_at_call 33;refine (timely_any _ _).mono ?_;rintro e w' ⟨rfl,rfl⟩) | (go_at_call 34;refine (anyLong_any _ _ _ _ _ HX2.out).mono ?_;rintro e w' ⟨rfl,q,rfl⟩))
    all_goals go_ret
    all_goals first
     | exact ⟨ret_intk (by have hf:=HF.out;have ht:=HT.out;have hl:=HLE.out;unfold rightV longB;generalize (x.ss.any fun m=>decide (1024 < m.size))=bb at *;cases bb <;> simp_all <;> omega),HB2.out⟩
     | exact ⟨ret_intk (by have hf:=HF.out;have ht:=HT.out;have hl:=HLE.out;unfold rightV longB;generalize (x.ss.any fun m=>decide (1024 < m.size))=bb at *;cases bb <;> simp_all <;> omega),below_drewN HB2.out _⟩
end Go.Proofs.YtcnckjlmldnblaaGreatDoor

