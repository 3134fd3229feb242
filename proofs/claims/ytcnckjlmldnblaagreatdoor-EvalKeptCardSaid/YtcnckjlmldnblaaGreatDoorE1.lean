import Derived.Test.YtcnckjlmldnblaaGreatDoorK5
import Derived.Sort.Walk0
import Derived.Lib.SlicesCompact
import Derived.Handy
import Derived.WalkLawsBesides
namespace Go.Proofs.YtcnckjlmldnblaaGreatDoor
open Go Go.RowKit
set_option maxRecDepth 100000
set_option maxHeartbeats 4000000
set_option linter.unusedVariables false
set_option linter.unusedSimpArgs false
/-- A value, as plain data. -/
structure Vl where
 k:Int
 n:Int
 t:ByteArray
 ss:List ByteArray
def v0:Vl:=⟨0,0,ByteArray.empty,[]⟩
def truthV (b:Bool):Vl:=⟨2,if b then 1 else 0,ByteArray.empty,[]⟩
def intV (n:Int):Vl:=⟨1,n,ByteArray.empty,[]⟩
def timeV (n:Int):Vl:=⟨4,n,ByteArray.empty,[]⟩
/-- Do texts rise? -/
def upB:List ByteArray→Bool
 | []=>true
 | [_]=>true
 | a :: b :: t=>Op.bytesLess a.toList b.toList && upB (b :: t)
def formedV (v:Vl):Bool :=
 (v.k == 3 || v.t.toList == []) && (v.k == 5 || v.ss.isEmpty) &&
   (if v.k=1∨v.k=4 then true else if v.k=2 then v.n == 0 || v.n == 1 else if v.k=0∨v.k=3 then v.n == 0 else if v.k=5 then upB v.ss && v.n == 0 else false)
def timelyB (n:Int):Bool:=decide (0≤n) && decide (n≤4611686018427387904)
def longB (v:Vl):Bool:=decide (1024 < v.t.size) || v.ss.any fun m=>decide (1024 < m.size)
/-- What is wrong with a value. -/
def rightV (v:Vl):Int :=
 if formedV v=false then 8 else if v.k=4∧timelyB v.n=false then 111 else if longB v=true then 113 else if 64 < v.ss.length then 114 else 0
def eqSS (a b:List ByteArray):Bool:=decide (a.length=b.length) && (a.zip b).all fun p=>p.1.toList == p.2.toList
def eqV (a b:Vl):Bool:=a.k == b.k && a.n == b.n && a.t.toList == b.t.toList && eqSS a.ss b.ss
theorem toList_inj' {a b:ByteArray} (h:a.toList=b.toList):a=b:=by
 cases a;cases b
 simp only [ByteArray.toList_eq] at h
 congr
 exact Array.ext' h
theorem eqSS_iff:∀ (a b:List ByteArray),eqSS a b=true ↔ a=b
 | [],[]=>by simp [eqSS]
 | [],_ :: _=>by simp [eqSS]
 | _ :: _,[]=>by simp [eqSS]
 | x :: a,y :: b=>by
   have ih:=eqSS_iff a b
   simp only [eqSS,Bool.and_eq_true,decide_eq_true_eq,List.length_cons,List.zip_cons_cons,List.all_cons,beq_iff_eq,List.cons.injEq] at ih ⊢
   constructor
   · rintro ⟨h1,h2,h3⟩
     exact ⟨toList_inj' h2,ih.1 ⟨by omega,h3⟩⟩
   · rintro ⟨rfl,rfl⟩
     have:=ih.2 rfl
     exact ⟨rfl,rfl,this.2⟩
theorem eqV_iff (a b:Vl):eqV a b=true ↔ a=b:=by
 cases a;cases b
 simp only [eqV,Bool.and_eq_true,beq_iff_eq,eqSS_iff,Vl.mk.injEq]
 constructor
 · rintro ⟨⟨⟨h1,h2⟩,h3⟩,h4⟩;exact ⟨h1,h2,toList_inj' h3,h4⟩
 · rintro ⟨h1,h2,rfl,h4⟩;exact ⟨⟨⟨h1,h2⟩,rfl⟩,h4⟩
abbrev Wr:=Except Int Vl
def toldW (v:Vl):Wr:=if rightV v=0 then .ok v else .error 8
def sureW:Wr→Except Int Bool
 | .error e=>.error e
 | .ok v=>if v.k=0 then .error 110 else if v.k=2 then .ok (v.n == 1) else .error 100
def seqW:List Wr→Except Int (List Vl)
 | []=>.ok []
 | .error e :: _=>.error e
 | .ok v :: t=>match seqW t with
   | .error e=>.error e
   | .ok l=>.ok (v :: l)
/-- A text at its place in a rising list, if it is not there. -/
def insS (x:ByteArray):List ByteArray→List ByteArray
 | []=>[x]
 | y :: t=>if Op.bytesLess y.toList x.toList then y :: insS x t else if y.toList == x.toList then y :: t else x :: y :: t
def setOf (l:List ByteArray):List ByteArray:=l.foldl (fun s x=>insS x s) []
def membersW (l:List ByteArray):Wr:=if 64 < (setOf l).length then .error 114 else .ok ⟨5,0,ByteArray.empty,setOf l⟩
def gatheredW (l:List Vl):Wr:=if l.any (fun v=>v.k != 3) then .error 100 else membersW (l.map Vl.t)
def shortW (s:ByteArray):Wr:=if 1024 < s.size then .error 113 else .ok ⟨3,0,s,[]⟩
def numW (n:Int):Wr:=if -9223372036854775808≤n∧n≤9223372036854775807 then .ok (intV n) else .error 111
def movedW (t b:Int):Wr:=if timelyB (t+b) then .ok (timeV (t+b)) else .error 111
def orderedW (op:Int) (lt le gt ge:Bool):Wr :=
 if op=13 then .ok (truthV lt) else if op=14 then .ok (truthV le) else if op=15 then .ok (truthV gt) else if op=16 then .ok (truthV ge) else .error 100
def orderedI (op a b:Int):Wr:=orderedW op (decide (a < b)) (decide (a≤b)) (decide (b < a)) (decide (b≤a))
def orderedS (op:Int) (a b:ByteArray):Wr:=orderedW op (Op.bytesLess a.toList b.toList) (Op.bytesLess a.toList b.toList || a.toList == b.toList) (!(Op.bytesLess a.toList b.toList || a.toList == b.toList)) (!Op.bytesLess a.toList b.toList)
def quotW (op a b:Int):Wr:=if b=0 then .error 112 else if op=22 then .ok (intV (a.tmod b)) else numW (a.tdiv b)
def numbersW (op a b:Int):Wr :=
 if op=18 then numW (a+b) else if op=19 then numW (a - b) else if op=20 then numW (a * b) else if op=21∨op=22 then quotW op a b
 else if op=31 then .ok (intV (min a b)) else if op=32 then .ok (intV (max a b)) else orderedI op a b
def inSS (l:List ByteArray) (x:ByteArray):Bool:=l.any fun y=>y.toList == x.toList
def setsW (op:Int) (a b:List ByteArray):Wr :=
 if op=18 then membersW (a++b) else if op=19 then membersW (a.filter fun m=>!inSS b m) else .error 100
def asTime:Wr→Wr
 | .error e=>.error e
 | .ok v=>.ok (if v.k=1 then { v with k:=4 } else v)
def doubleW (op:Int) (a b:Vl):Wr :=
 if a.k=1∧b.k=1 then numbersW op a.n b.n
 else if a.k=4∧b.k=1 then (if op=18 then movedW a.n b.n else if op=19 then movedW a.n (-b.n) else .error 100)
 else if a.k=1∧b.k=4 then (if op=18 then movedW b.n a.n else .error 100)
 else if a.k=4∧b.k=4 then (if op=19 then .ok (intV (a.n - b.n)) else if op ≠ 18∧op ≠ 20∧op ≠ 21∧op ≠ 22 then asTime (numbersW op a.n b.n) else .error 100)
 else if a.k=3∧b.k=3 then (if op=28 then shortW (a.t++b.t) else orderedS op a.t b.t)
 else if a.k=3∧b.k=5 then (if op=17 then .ok (truthV (inSS b.ss a.t)) else .error 100)
 else if a.k=5∧b.k=3 then setsW op a.ss [b.t]
 else if a.k=5∧b.k=5 then setsW op a.ss b.ss
 else .error 100
def singleW (op:Int) (v:Vl):Wr :=
 if op=7∧v.k=1 then numW (0 - v.n) else if op=8∧v.k=2 then .ok (truthV (v.n == 0)) else if op=27∧v.k=3 then .ok (intV v.t.size)
 else if op=27∧v.k=5 then .ok (intV v.ss.length) else .error 100
/-- An operator that wants all of its kids. -/
def opW (op:Int) (l:List Vl):Wr :=
 if l.any (fun v=>v.k == 0) then .error 110 else if op=6 then gatheredW l else
 match l with
 | [a]=>singleW op a
 | a :: b :: _=>doubleW op a b
 | []=>.error 1
def equalW (op:Int) (a b:Vl):Wr:=if a.k ≠ b.k∧a.k ≠ 0∧b.k ≠ 0 then .error 100 else .ok (truthV (eqV a b == (op == 11)))
/-- One text ahead of another one. -/
def Ahd (a b:ByteArray):Prop:=a.toList < b.toList
theorem ahd_irrefl (a:ByteArray):¬ Ahd a a:=List.lt_irrefl _
theorem ahd_trans {a b c:ByteArray} (h:Ahd a b) (k:Ahd b c):Ahd a c:=List.lt_trans h k
theorem ahd_tri {a b:ByteArray} (h:¬ Ahd a b) (k:¬ Ahd b a):a=b:=toList_inj' (List.le_antisymm (List.not_lt.1 k) (List.not_lt.1 h))
theorem less_iff (a b:ByteArray):Op.bytesLess a.toList b.toList=true ↔ Ahd a b:=by rw [bytesLess_eq];simp [Ahd]
theorem less_not (a b:ByteArray):Op.bytesLess a.toList b.toList=false ↔ ¬ Ahd a b:=by rw [bytesLess_eq];simp [Ahd]
theorem upB_iff:∀ l:List ByteArray,upB l=true ↔ l.Pairwise Ahd
 | []=>by simp [upB]
 | [_]=>by simp [upB]
 | a :: b :: t=>by
   rw [upB,Bool.and_eq_true,less_iff,upB_iff (b :: t)]
   constructor
   · rintro ⟨h1,h2⟩
     refine List.pairwise_cons.2 ⟨fun x hx=>?_,h2⟩
     rcases List.mem_cons.1 hx with rfl | hx
     · exact h1
     · exact ahd_trans h1 ((List.pairwise_cons.1 h2).1 x hx)
   · intro h
     have:=List.pairwise_cons.1 h
     exact ⟨this.1 b List.mem_cons_self,this.2⟩
theorem rise_uniq:∀ (l m:List ByteArray),l.Pairwise Ahd→m.Pairwise Ahd→(∀ x,x ∈ l ↔ x ∈ m)→l=m
 | [],[],_,_,_=>rfl
 | [],y :: m,_,_,h=>by have:=(h y).2 List.mem_cons_self;cases this
 | x :: l,[],_,_,h=>by have:=(h x).1 List.mem_cons_self;cases this
 | x :: l,y :: m,hl,hm,h=>by
   have h1:=List.pairwise_cons.1 hl
   have h2:=List.pairwise_cons.1 hm
   have e:x=y:=by
    rcases List.mem_cons.1 ((h x).1 List.mem_cons_self) with e | e
    · exact e
    · rcases List.mem_cons.1 ((h y).2 List.mem_cons_self) with e' | e'
      · exact e'.symm
      · exact absurd (ahd_trans (h1.1 y e') (h2.1 x e)) (ahd_irrefl x)
   subst e
   rw [rise_uniq l m h1.2 h2.2 fun z=>?_]
   constructor
   · intro hz
     rcases List.mem_cons.1 ((h z).1 (List.mem_cons_of_mem _ hz)) with rfl | e
     · exact absurd (h1.1 z hz) (ahd_irrefl z)
     · exact e
   · intro hz
     rcases List.mem_cons.1 ((h z).2 (List.mem_cons_of_mem _ hz)) with rfl | e
     · exact absurd (h2.1 z hz) (ahd_irrefl z)
     · exact e
theorem insS_mem (x:ByteArray):∀ (l:List ByteArray) (z:ByteArray),z ∈ insS x l ↔ z=x∨z ∈ l
 | [],z=>by simp [insS]
 | y :: t,z=>by
   rw [insS]
   by_cases h1:Op.bytesLess y.toList x.toList
   · rw [if_pos h1,List.mem_cons,insS_mem x t z,List.mem_cons]
     grind
   · rw [if_neg h1]
     by_cases h2:(y.toList == x.toList)=true
     · rw [if_pos h2]
       have:y=x:=toList_inj' (by simpa using h2)
       subst this
       simp
     · rw [if_neg h2];simp
theorem insS_rise (x:ByteArray):∀ l:List ByteArray,l.Pairwise Ahd→(insS x l).Pairwise Ahd
 | [],_=>by simp [insS]
 | y :: t,h=>by
   have h':=List.pairwise_cons.1 h
   rw [insS]
   by_cases h1:Op.bytesLess y.toList x.toList
   · rw [if_pos h1]
     refine List.pairwise_cons.2 ⟨fun z hz=>?_,insS_rise x t h'.2⟩
     rcases (insS_mem x t z).1 hz with rfl | hz
     · exact (less_iff _ _).1 h1
     · exact h'.1 z hz
   · rw [if_neg h1]
     by_cases h2:(y.toList == x.toList)=true
     · rw [if_pos h2];exact h
     · rw [if_neg h2]
       have n1:¬ Ahd y x:=by rw [← less_iff];exact h1
       have hxy:Ahd x y:=by
        apply Classical.byContradiction
        intro n2
        exact h2 (by rw [ahd_tri n1 n2];simp)
       refine List.pairwise_cons.2 ⟨fun z hz=>?_,h⟩
       rcases List.mem_cons.1 hz with rfl | hz
       · exact hxy
       · exact ahd_trans hxy (h'.1 z hz)
theorem fold_ins:∀ (l s:List ByteArray),s.Pairwise Ahd→(l.foldl (fun s x=>insS x s) s).Pairwise Ahd∧∀ z,z ∈ l.foldl (fun s x=>insS x s) s ↔ z ∈ s∨z ∈ l
 | [],s,h=>⟨h,fun z=>by simp⟩
 | x :: l,s,h=>by
   obtain ⟨h1,h2⟩:=fold_ins l (insS x s) (insS_rise x s h)
   refine ⟨h1,fun z=>?_⟩
   rw [List.foldl_cons,h2 z,insS_mem,List.mem_cons]
   grind
theorem setOf_rise (l:List ByteArray):(setOf l).Pairwise Ahd:=(fold_ins l [] List.Pairwise.nil).1
theorem setOf_mem (l:List ByteArray) (z:ByteArray):z ∈ setOf l ↔ z ∈ l:=by
 have:=(fold_ins l [] List.Pairwise.nil).2 z
 unfold setOf
 simpa using this
theorem setOf_eq {l m:List ByteArray} (h:m.Pairwise Ahd) (hm:∀ z,z ∈ m ↔ z ∈ l):setOf l=m :=
 rise_uniq _ _ (setOf_rise l) h fun z=>by rw [setOf_mem,hm]
/-- What the library's sort and its Compact make of texts is their set. -/
theorem compact_sorted (d:Array (List UInt8)) (hd:∀ i j,i < j→j < d.size→d[i]!≤d[j]!):∀ m,m≤d.size→(Lib.compactUpTo d m).Pairwise (· < ·)∧(∀ z,z ∈ Lib.compactUpTo d m ↔ ∃ i,i < m∧d[i]! = z)∧(∀ z ∈ Lib.compactUpTo d m,0 < m∧z≤d[m - 1]!)
 | 0,_=>by simp [Lib.compactUpTo]
 | m+1,hm=>by
   obtain ⟨h1,h2,h3⟩:=compact_sorted d hd m (by omega)
   rw [Lib.compactUpTo_succ]
   have hmem:∀ z,z ∈ Lib.compactUpTo d m→z≤d[m]!:=fun z hz=>by
    obtain ⟨i,hi,rfl⟩:=(h2 z).1 hz
    exact hd i m hi (by omega)
   by_cases hk:Lib.keeps d m=true
   · rw [if_pos hk]
     have hlt:∀ z,z ∈ Lib.compactUpTo d m→z < d[m]!:=fun z hz=>by
      rcases List.le_iff_lt_or_eq.1 (hmem z hz) with h | h
      · exact h
      · exfalso
        subst h
        obtain ⟨i,hi,hz'⟩:=(h2 _).1 hz
        have h0:m ≠ 0:=by omega
        simp only [Lib.keeps,h0,false_or,decide_eq_true_eq] at hk
        have a1:d[m - 1]!≤d[m]!:=hd (m - 1) m (by omega) (by omega)
        have a2:d[m]!≤d[m - 1]!:=by
         rw [← hz']
         rcases Nat.lt_or_ge i (m - 1) with h | h
         · exact hd i (m - 1) h (by omega)
         · obtain rfl:i=m - 1:=by omega
           exact List.le_refl _
        exact hk (List.le_antisymm a2 a1)
     refine ⟨List.pairwise_append.2 ⟨h1,by simp,fun a ha b hb=>?_⟩,fun z=>?_,fun z hz=>?_⟩
     · simp only [List.mem_singleton] at hb;subst hb;exact hlt a ha
     · rw [List.mem_append,h2,List.mem_singleton]
       constructor
       · rintro (⟨i,hi,e⟩ | e)
         · exact ⟨i,by omega,e⟩
         · exact ⟨m,by omega,e.symm⟩
       · rintro ⟨i,hi,e⟩
         by_cases him:i=m
         · subst him;exact .inr e.symm
         · exact .inl ⟨i,by omega,e⟩
     · refine ⟨by omega,?_⟩
       rw [Nat.add_sub_cancel]
       rcases List.mem_append.1 hz with h | h
       · exact hmem z h
       · simp only [List.mem_singleton] at h;subst h;exact List.le_refl _
   · rw [if_neg hk,List.append_nil]
     have h0:m ≠ 0∧d[m]! = d[m - 1]!:=by
      simp only [Lib.keeps,decide_eq_true_eq] at hk
      exact ⟨fun e=>hk (.inl e),Classical.byContradiction fun e=>hk (.inr e)⟩
     refine ⟨h1,fun z=>?_,fun z hz=>⟨by omega,by rw [Nat.add_sub_cancel];exact hmem z hz⟩⟩
     rw [h2]
     constructor
     · rintro ⟨i,hi,e⟩;exact ⟨i,by omega,e⟩
     · rintro ⟨i,hi,e⟩
       by_cases him:i=m
       · subst him;exact ⟨i - 1,by omega,by rw [← h0.2,e]⟩
       · exact ⟨i,by omega,e⟩
theorem members_eq (l:List ByteArray):(Lib.compact ((l.map (fun b=>b.data.toList)).mergeSort fun x y=>decide (x≤y))).map (fun x=>(⟨x.toArray⟩:ByteArray))=setOf l:=by
 symm
 generalize hs:(l.map (fun b=>b.data.toList)).mergeSort (fun x y=>decide (x≤y))=s
 have hp:s.Perm (l.map fun b=>b.data.toList):=by rw [← hs];exact List.mergeSort_perm _ _
 have hso:s.Pairwise (fun x y=>x≤y):=by
  rw [← hs]
  have:=List.pairwise_mergeSort (le:=fun x y:List UInt8=>decide (x≤y)) (fun a b c h1 h2=>by simp only [decide_eq_true_eq] at *;exact List.le_trans h1 h2) (fun a b=>by
   simp only [Bool.or_eq_true,decide_eq_true_eq];exact List.le_total a b) (l.map fun b=>b.data.toList)
  exact this.imp (fun h=>by simpa using h)
 have hd:∀ i j,i < j→j < s.toArray.size→s.toArray[i]!≤s.toArray[j]!:=fun i j hij hj=>by
  have hj':j < s.length:=by simpa using hj
  have:=List.pairwise_iff_getElem.1 hso i j (by omega) hj' hij
  rw [getElem!_pos _ i (by simp;omega),getElem!_pos _ j (by simp;omega)]
  simpa using this
 obtain ⟨h1,h2,-⟩:=compact_sorted s.toArray hd s.length (by simp)
 change (Lib.compact s).Pairwise _ at h1
 apply setOf_eq
 · rw [List.pairwise_map]
   refine h1.imp (fun {a b} h=>?_)
   unfold Ahd
   simpa [ByteArray.toList_eq] using h
 · intro z
   rw [List.mem_map]
   constructor
   · rintro ⟨x,hx,rfl⟩
     obtain ⟨i,hi,e⟩:=(h2 x).1 hx
     have:x ∈ s:=by
      rw [getElem!_pos _ i (by simp;omega)] at e
      rw [← e];simp
     obtain ⟨b,hb,rfl⟩:=List.mem_map.1 (hp.mem_iff.1 this)
     simpa using hb
   · intro hz
     have:z.data.toList ∈ s:=hp.mem_iff.2 (List.mem_map.2 ⟨z,hz,rfl⟩)
     obtain ⟨i,hi,e⟩:=List.getElem_of_mem this
     refine ⟨z.data.toList,(h2 _).2 ⟨i,hi,?_⟩,by simp⟩
     rw [getElem!_pos _ i (by simp;omega)]
     simpa using e
def Sv (s:ByteArray):List Value:=[.string s]
theorem Sv_len (s:ByteArray):(Sv s).length=1:=rfl
abbrev VA (x:Vl) (a:Option Addr) (l c:Nat):Value:=.agg #[.int .i64 x.k,.int .i64 x.n,.string x.t,.slice a l c]
/-- A value's own cells, as the program holds it. -/
def IsV (w:World) (v:Value) (x:Vl):Prop:=∃ a l c,v=VA x a l c∧RS 1 Sv w a l c x.ss
theorem rs_nil1 (w:World):RS 1 Sv w none 0 0 []:=⟨rfl,Nat.le_refl _,by omega,fun i x h=>by simp at h⟩
abbrev boxV (x:Vl):Obj:=.cells #[.int .i64 x.k,.int .i64 x.n,.string x.t,.slice none 0 0] 43
theorem boxed {w w':World} {z:Array Value} {t:TypeId} (hb:Below (w.alloc (.cells z t)).heap.size (w.alloc (.cells z t)) w'):w'.heap[w.heap.size]?=some (.cells z t (0,0)):=(hb.block _ (by simp)).trans (heap_alloc_new w _)
theorem box4 {w':World} {g:Nat} {x0 x1 x2 x3:Value} {t:TypeId} (h:w'.heap[g]?=some (.cells #[x0,x1,x2,x3] t (0,0))) :
 w'.cell? ⟨g,0,none⟩=some x0∧w'.cell? ⟨g,1,none⟩=some x1∧w'.cell? ⟨g,2,none⟩=some x2∧w'.cell? ⟨g,3,none⟩=some x3∧w'.frozen? ⟨g,0,none⟩=false∧w'.frozen? ⟨g,1,none⟩=false∧w'.frozen? ⟨g,2,none⟩=false∧w'.frozen? ⟨g,3,none⟩=false :=
 ⟨cell_of_row _ _ 0 _ _ _ h,cell_of_row _ _ 1 _ _ _ h,cell_of_row _ _ 2 _ _ _ h,cell_of_row _ _ 3 _ _ _ h,frozen_of_row _ _ _ _ _ h,frozen_of_row _ _ _ _ _ h,frozen_of_row _ _ _ _ _ h,frozen_of_row _ _ _ _ _ h⟩
theorem heap_box {w1:World} {g:Nat} {z0 z1 z2 z3:Value} {t:TypeId} (h:w1.heap[g]?=some (.cells #[z0,z1,z2,z3] t (0,0))) (x0 x1 x2 x3:Value) :
 ((((w1.setCell ⟨g,0,none⟩ x0).setCell ⟨g,1,none⟩ x1).setCell ⟨g,2,none⟩ x2).setCell ⟨g,3,none⟩ x3).heap[g]?=some (.cells #[x0,x1,x2,x3] t (0,0)):=by
 have h0:=heap_setCell_same w1 g 0 _ _ x0 h
 have h1:=heap_setCell_same _ g 1 _ _ x1 h0
 have h2:=heap_setCell_same _ g 2 _ _ x2 h1
 have h3:=heap_setCell_same _ g 3 _ _ x3 h2
 exact h3
/-- At the end of a function whose result has a box of its own. -/
theorem retbox {fn:Func} {p:Tmp} (hf:fn.results=#[.cell p 43]) {tmps:Array Value} {w1:World} {g:Nat} {z0 z1 z2 z3 x0 x1 x2 x3:Value} (hg:w1.heap[g]?=some (.cells #[z0,z1,z2,z3] 43 (0,0))) {R:Ending→World→Prop}
 (hp:tmps.getD p undef=.pointer (some ⟨g,0,none⟩)) (hR:R (.returned (.agg #[x0,x1,x2,x3])) ((((w1.setCell ⟨g,0,none⟩ x0).setCell ⟨g,1,none⟩ x1).setCell ⟨g,2,none⟩ x2).setCell ⟨g,3,none⟩ x3)) :
 bodyPost Tryz.prog fn R .ret { tmps:=tmps,defers:=[] } ((((w1.setCell ⟨g,0,none⟩ x0).setCell ⟨g,1,none⟩ x1).setCell ⟨g,2,none⟩ x2).setCell ⟨g,3,none⟩ x3) :=
 bodyPost_ret (results_cell_row hf tmps _ g 43 #[x0,x1,x2,x3] (0,0) _ hp (heap_box hg x0 x1 x2 x3) Tryz.underlying43 rfl (by kernel_rfl)) rfl hR
abbrev refused (er:Int):Ending:=.panicked [{ v:=.iface 75 (.int .i64 er),recovered:=false }]
/-- A worth, or a refusal on its way out. -/
def WOut (e:Ending) (w':World) (r:Wr):Prop:=match r with
 | .ok x=>∃ v,e=.returned v∧IsV w' v x
 | .error er=>e=refused er
theorem WOut.plain {w':World} {k n:Int} {t:ByteArray}:WOut (.returned (.agg #[.int .i64 k,.int .i64 n,.string t,.slice none 0 0])) w' (.ok ⟨k,n,t,[]⟩):=⟨_,rfl,none,0,0,rfl,rs_nil1 _⟩
theorem IsV.below {w w':World} {v:Value} {x:Vl} (h:IsV w v x) (hb:Below w.heap.size w w'):IsV w' v x:=by
 obtain ⟨a,l,c,rfl,hr⟩:=h
 exact ⟨a,l,c,rfl,hr.below hb⟩
theorem WOut.below {e:Ending} {w w':World} {r:Wr} (h:WOut e w r) (hb:Below w.heap.size w w'):WOut e w' r:=by
 cases r with
 | ok x=>obtain ⟨v,rfl,hv⟩:=h;exact ⟨v,rfl,hv.below hb⟩
 | error er=>exact h
theorem refuse_any (w:World) (er:Int):Calls Tryz.prog 53 #[.int .i64 er] w fun e w'=>e=refused er∧w'=w:=by
 go_enter Tryz.func53,Tryz.ntmps53
 go_wp2
 exact ⟨rfl,rfl,rfl⟩
theorem truth_any (w:World) (b:Bool):Calls Tryz.prog 49 #[.bool b] w fun e w'=>e=.returned (VA (truthV b) none 0 0)∧w'=(w.alloc (boxV (truthV b))).alloc (boxV (truthV b)):=by
 cases b
 · go_enter Tryz.func49,Tryz.ntmps49
   go_wp2
   go_returns
   exact ⟨rfl,rfl⟩
 · go_enter Tryz.func49,Tryz.ntmps49
   go_wp2
   go_returns
   exact ⟨rfl,rfl⟩
theorem integer_any (w:World) (n:Int):Calls Tryz.prog 50 #[.int .i64 n] w fun e w'=>e=.returned (VA (intV n) none 0 0)∧w'=w.alloc (boxV (intV n)):=by
 go_enter Tryz.func50,Tryz.ntmps50
 go_wp2
 go_returns
 exact ⟨rfl,rfl⟩
theorem timed_any (w:World) (n:Int):Calls Tryz.prog 51 #[.int .i64 n] w fun e w'=>e=.returned (VA (timeV n) none 0 0)∧w'=w.alloc (boxV (timeV n)):=by
 go_enter Tryz.func51,Tryz.ntmps51
 go_wp2
 go_returns
 exact ⟨rfl,rfl⟩
theorem timely_any (w:World) (n:Int):Calls Tryz.prog 33 #[.int .i64 n] w fun e w'=>e=.returned (.bool (timelyB n))∧w'=w:=by
 go_enter Tryz.func33,Tryz.ntmps33
 go_wp2
 all_goals go_returns
 all_goals exact ⟨ret_bool (by simp_all [timelyB] <;> omega),rfl⟩
end Go.Proofs.YtcnckjlmldnblaaGreatDoor

